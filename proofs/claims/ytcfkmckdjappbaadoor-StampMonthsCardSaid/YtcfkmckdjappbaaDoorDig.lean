/-
  The reference's digits.
-/
import Derived.Test.YtcfkmckdjappbaaDoorNum
namespace Go.Proofs.YtcfkmckdjappbaaDoor
open Go.RowKit Own
set_option linter.unusedVariables false
set_option linter.unusedSimpArgs false

def digB (l : List UInt8) : Bool := decide (∀ c ∈ l, isDig c)
def digN (l : List UInt8) : Int := if digB l then numI 0 l else 0

theorem rdigits_any (l : List UInt8) (w : World) (hl : l.length ≤ 8) :
    Calls Tryd.prog 36 #[.string (str l)] w fun e w' => e = .returned (.tuple #[.int .i64 (digN l), .bool (digB l)]) ∧ w = w' := by
  have hsz := str_size l
  go_enter Tryd.func36, Tryd.ntmps36
  go_wp2_with fail
  go_loopw [4, 5] (fun v4 v5 wr => ∃ i n : Nat, i ≤ l.length ∧ v4 = .int .i64 n ∧ v5 = .int .i64 i ∧ n < 10 ^ i ∧ numI n (l.drop i) = numI 0 l ∧ (∀ c ∈ l.take i, isDig c) ∧ w = wr) (fun _ v5 _ => l.length - (intOf v5).toNat)
  case atStart => exact ⟨0, 0, Nat.zero_le _, rfl, rfl, by simp, by simp, by simp, rfl⟩
  case round =>
    obtain ⟨i, n, hi, rfl, rfl, hn1, hs, hall, rfl⟩ := hrel
    have hp := Nat.pow_le_pow_right (show 0 < 10 by omega) (show i ≤ 8 by omega)
    have hn : n < 100000000 := by simpa using Nat.lt_of_lt_of_le hn1 hp
    by_cases hil : i < l.length
    · have e1 : decide ((i : Int) < l.length) = true := decide_eq_true (by omega)
      obtain ⟨c, hc⟩ : ∃ c, c = l[i] := ⟨_, rfl⟩
      have hix : ∀ h, (str l)[i]'h = c := by intro h; rw [hc]; rfl
      have hmem : c ∈ l := by rw [hc]; exact List.getElem_mem hil
      by_cases hd : isDig c
      · have HS : numI (10 * n + ((c.toNat : Int) - 48)) (l.drop (i + 1)) = numI 0 l := by
          rw [← hs, List.drop_eq_getElem_cons hil, ← hc]; rfl
        have hall1 : ∀ c ∈ l.take (i + 1), isDig c := by
          rw [List.take_succ_eq_append_getElem hil]
          intro x hx
          rcases List.mem_append.mp hx with h | h
          · exact hall x h
          · rw [List.mem_singleton.mp h, ← hc]; exact hd
        have hdi := hd
        unfold isDig at hdi
        have hp1 : 10 * n + (c.toNat - 48) < 10 ^ (i + 1) := by rw [Nat.pow_succ]; omega
        have HA := hid hall1
        have HS1 := hid HS
        have HP1 := hid hp1
        clear HS hs hp1 hn1 hp hall1 hall hmem hc hd
        have hcm : ((c.toNat : Int) - 48) % 256 = (c.toNat : Int) - 48 := by omega
        have e2 : decide ((c.toNat : Int) < 48) = false := decide_eq_false (by omega)
        have e3 : decide (57 < (c.toNat : Int)) = false := decide_eq_false (by omega)
        go_wp2
        go_roundw
        case rel => 
          refine ⟨i + 1, 10 * n + (c.toNat - 48), by omega, ?_, by simp, HP1.out, ?_, HA.out, by trivial⟩
          · simp [hix, hcm]; omega
          · have := HS1.out
            rw [← this]; congr 1; omega
        case measure => simp [intOf]; omega
      · have hB : digB l = false := decide_eq_false (fun h => hd (h c hmem))
        have hN : digN l = 0 := by simp [digN, hB]
        clear hall hs hp hn1 hmem hc
        by_cases h48 : c.toNat < 48
        · have e2 : decide ((c.toNat : Int) < 48) = true := decide_eq_true (by omega)
          clear hd
          go_wp2
          refine bodyPost_ret (v := .tuple #[.int .i64 (digN l), .bool (digB l)]) (by simp [results, Tryd.results36, go_sem, hB, hN]) rfl ⟨rfl, rfl⟩
        · have e2 : decide ((c.toNat : Int) < 48) = false := decide_eq_false (by omega)
          have e3 : decide (57 < (c.toNat : Int)) = true := by
            unfold isDig at hd; exact decide_eq_true (by omega)
          clear hd
          go_wp2
          refine bodyPost_ret (v := .tuple #[.int .i64 (digN l), .bool (digB l)]) (by simp [results, Tryd.results36, go_sem, hB, hN]) rfl ⟨rfl, rfl⟩
    · have e1 : decide ((i : Int) < l.length) = false := decide_eq_false (by omega)
      have : i = l.length := by omega
      subst this
      have hB : digB l = true := decide_eq_true (by simpa using hall)
      have hs' : (n : Int) = numI 0 l := by simpa [numI] using hs
      have hN : digN l = n := by simp [digN, hB, hs']
      clear hall hs hs'
      go_wp2
      refine bodyPost_ret (v := .tuple #[.int .i64 (digN l), .bool (digB l)]) (by simp [results, Tryd.results36, go_sem, hB, hN]) rfl ⟨rfl, rfl⟩

end Go.Proofs.YtcfkmckdjappbaaDoor
