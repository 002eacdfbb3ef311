/-
  The reference's Number.
-/
import Derived.Test.YtifjikpinmgfaaaDoorDec
import Derived.Test.YtifjikpinmgfaaaDoorDigits
import Derived.Test.YtifjikpinmgfaaaDoorHeld
import Derived.LoopTactic
import Derived.Deep.LoopGhost
import Derived.Deep.DeepCutAuto
import Derived.Deep.CutBlock
import Derived.Deep.QuietTactic
import Derived.BigQuiet
import Derived.IntWalk
namespace Go.Proofs.YtifjikpinmgfaaaDoor
open Go.RowKit Own Dec
set_option linter.unusedVariables false
set_option linter.unusedSimpArgs false
set_option maxRecDepth 100000

theorem str_toList (l : List UInt8) : (str l).toList = l := ByteArray.toList_mk l
attribute [local go_sem] str_toList

theorem numR_short (l : List UInt8) (most : Int) (h : l.length < 1 ∨ 10 < l.length) : numR l most = (0, false) := by unfold numR; rw [if_pos h]
theorem numR_other (l : List UInt8) (most : Int) (h : ¬ ∀ c ∈ l, isDig c) : numR l most = (0, false) := by
  unfold numR
  split
  · rfl
  · first | rfl | rw [if_pos h]
theorem numR_digits (l : List UInt8) (most : Int) (h1 : 1 ≤ l.length) (h2 : l.length ≤ 10) (h : ∀ c ∈ l, isDig c) :
    numR l most = if Text.digs (numF 0 l) ≠ l ∨ most < (numF 0 l : Int) then (0, false) else ((numF 0 l : Int), true) := by
  unfold numR
  rw [if_neg (by omega), if_neg (fun c => c h)]

theorem rnumber_any (l : List UInt8) (most : Int) (w : World) (hl : l.length ≤ 9223372036854775806) :
    Calls Tryd.prog 34 #[.string (str l), .int .i64 most] w fun e w' => e = .returned (.tuple #[.int .i64 (numR l most).1, .bool (numR l most).2]) ∧ Below w.heap.size w w' := by
  have hsz := str_size l
  by_cases h1 : l.length < 1
  · have e1 : decide ((l.length : Int) < 1) = true := decide_eq_true (by omega)
    have hR := numR_short l most (.inl h1)
    go_enter Tryd.func34, Tryd.ntmps34
    go_wp2
    exact bodyPost_ret (v := .tuple #[.int .i64 0, .bool false]) (by simp [results, Tryd.results34, go_sem]) rfl ⟨by first | rfl | simp [hR], Below.refl _ _⟩
  have e1 : decide ((l.length : Int) < 1) = false := decide_eq_false (by omega)
  by_cases h2 : 10 < l.length
  · have e2 : decide (10 < (l.length : Int)) = true := decide_eq_true (by omega)
    have hR := numR_short l most (.inr h2)
    go_enter Tryd.func34, Tryd.ntmps34
    go_wp2
    exact bodyPost_ret (v := .tuple #[.int .i64 0, .bool false]) (by simp [results, Tryd.results34, go_sem]) rfl ⟨by first | rfl | simp [hR], Below.refl _ _⟩
  have e2 : decide (10 < (l.length : Int)) = false := decide_eq_false (by omega)
  obtain ⟨out, hout⟩ : ∃ out, out = numR l most := ⟨_, rfl⟩
  rw [← hout]
  have HO := hid hout
  clear hout
  go_enter Tryd.func34, Tryd.ntmps34
  go_upto_if 15 with fail
  go_cut [15] (fun v15 wx => v15 = .bool false ∧ w = wx)
  case first =>
    go_wp2
    go_meet
    case rel => exact ⟨rfl, rfl⟩
  case rest =>
  obtain ⟨rfl, rfl⟩ := hcut
  clear e1 e2
  go_wp2_with fail
  go_loopw [6, 7] (fun v4 v5 wr => ∃ i : Nat, i ≤ l.length ∧ v4 = .int .i64 (numF 0 (l.take i)) ∧ v5 = .int .i64 i ∧ (∀ c ∈ l.take i, isDig c) ∧ w = wr) (fun _ v5 _ => l.length - (intOf v5).toNat)
  case atStart => exact ⟨0, Nat.zero_le _, by simp [numF], rfl, by simp, rfl⟩
  case round =>
    obtain ⟨i, hi, rfl, rfl, hall, rfl⟩ := hrel
    have hb := numF_lt (l.take i) 0 0 (by decide) hall
    have hb2 := Nat.pow_le_pow_right (show 0 < 10 by omega) (show 0 + (l.take i).length ≤ 10 by simp; omega)
    have h10 : (10 : Nat) ^ 10 = 10000000000 := rfl
    by_cases hil : i < l.length
    · have e1 : decide ((i : Int) < l.length) = true := decide_eq_true (by omega)
      obtain ⟨c, hc⟩ : ∃ c, c = l[i] := ⟨_, rfl⟩
      have hix : ∀ h, (str l)[i]'h = c := by intro h; rw [hc]; rfl
      have hmem : c ∈ l := by rw [hc]; exact List.getElem_mem hil
      have htk : l.take (i + 1) = l.take i ++ [c] := by rw [List.take_succ_eq_append_getElem hil, hc]
      by_cases hd : isDig c
      · have hall1 : ∀ c ∈ l.take (i + 1), isDig c := by
          rw [htk]
          intro x hx
          rcases List.mem_append.mp hx with h | h
          · exact hall x h
          · rw [List.mem_singleton.mp h]; exact hd
        have hnext : numF 0 (l.take (i + 1)) = 10 * numF 0 (l.take i) + (c.toNat - 48) := by rw [htk, numF_snoc]
        have hn : numF 0 (l.take i) < 10000000000 := by omega
        have hdi := hd
        unfold isDig at hdi
        have HA := hid hall1
        have HN := hid hnext
        clear hall1 hall hnext hb hb2 h10 hmem hc htk hd
        obtain ⟨n, hn2⟩ : ∃ n, n = numF 0 (l.take i) := ⟨_, rfl⟩
        rw [← hn2] at hn ⊢
        have HN2 := hid hn2
        clear hn2
        have hcm : ((c.toNat : Int) - 48) % 256 = (c.toNat : Int) - 48 := by omega
        have e2 : decide ((c.toNat : Int) < 48) = false := decide_eq_false (by omega)
        have e3 : decide (57 < (c.toNat : Int)) = false := decide_eq_false (by omega)
        go_wp2
        go_roundw
        case rel =>
          refine ⟨i + 1, by omega, ?_, by simp, HA.out, by trivial⟩
          rw [HN.out, ← HN2.out]
          simp [hix, hcm]; omega
        case measure => simp [intOf]; omega
      · have hR : out = (0, false) := by rw [HO.out]; exact numR_other l most (fun h => hd (h c hmem))
        clear hall hb hb2 h10 hmem hc htk
        generalize numF 0 (l.take i) = n at *
        by_cases h48 : c.toNat < 48
        · have e2 : decide ((c.toNat : Int) < 48) = true := decide_eq_true (by omega)
          clear hd
          go_wp2
          exact bodyPost_ret (v := .tuple #[.int .i64 0, .bool false]) (by simp [results, Tryd.results34, go_sem]) rfl ⟨by first | rfl | simp [hR], Below.refl _ _⟩
        · have e2 : decide ((c.toNat : Int) < 48) = false := decide_eq_false (by omega)
          have e3 : decide (57 < (c.toNat : Int)) = true := by
            unfold isDig at hd; exact decide_eq_true (by omega)
          clear hd
          go_wp2
          exact bodyPost_ret (v := .tuple #[.int .i64 0, .bool false]) (by simp [results, Tryd.results34, go_sem]) rfl ⟨by first | rfl | simp [hR], Below.refl _ _⟩
    · have e1 : decide ((i : Int) < l.length) = false := decide_eq_false (by omega)
      have : i = l.length := by omega
      subst this
      rw [List.take_length] at hall hb hb2 ⊢
      have hR : out = if Text.digs (numF 0 l) ≠ l ∨ most < (numF 0 l : Int) then (0, false) else ((numF 0 l : Int), true) := by rw [HO.out]; exact numR_digits l most (by omega) (by omega) hall
      have hn : numF 0 l ≤ 9223372036854775807 := by omega
      have hdg := fun w' => digits_any (numF 0 l) w' hn
      generalize numF 0 l = n at *
      clear hall hb hb2 h10
      by_cases c1 : Text.digs n = l
      · have e2 : (Text.digs n == l) = true := by simpa using c1
        by_cases c2 : most < (n : Int)
        · have e3 : decide (most < (n : Int)) = true := decide_eq_true c2
          have hR2 : out = (0, false) := by rw [hR, if_pos (.inr c2)]
          clear c1 c2 hR
          generalize Text.digs n = D at *
          go_wp2_with ((go_at_call 41; refine (hdg _).mono ?_; rintro e w1 ⟨rfl, hb1⟩))
          exact bodyPost_ret (v := .tuple #[.int .i64 0, .bool false]) (by simp [results, Tryd.results34, go_sem]) rfl ⟨by first | rfl | simp [hR2], hb1⟩
        · have e3 : decide (most < (n : Int)) = false := decide_eq_false c2
          have hR2 : out = ((n : Int), true) := by rw [hR, if_neg (by rintro (h | h); exact h c1; exact c2 h)]
          clear c1 c2 hR
          generalize Text.digs n = D at *
          go_wp2_with ((go_at_call 41; refine (hdg _).mono ?_; rintro e w1 ⟨rfl, hb1⟩))
          exact bodyPost_ret (v := .tuple #[.int .i64 n, .bool true]) (by simp [results, Tryd.results34, go_sem]) rfl ⟨by first | rfl | simp [hR2], hb1⟩
      · have e2 : (Text.digs n == l) = false := by simpa using c1
        have hR2 : out = (0, false) := by rw [hR, if_pos (.inl c1)]
        clear c1 hR
        generalize Text.digs n = D at *
        go_wp2_with ((go_at_call 41; refine (hdg _).mono ?_; rintro e w1 ⟨rfl, hb1⟩))
        exact bodyPost_ret (v := .tuple #[.int .i64 0, .bool false]) (by simp [results, Tryd.results34, go_sem]) rfl ⟨by first | rfl | simp [hR2], hb1⟩

end Go.Proofs.YtifjikpinmgfaaaDoor
