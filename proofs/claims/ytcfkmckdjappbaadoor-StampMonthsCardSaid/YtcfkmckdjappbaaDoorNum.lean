/-
  A number of digits: the program's and the reference's.
-/
import Derived.Test.YtcfkmckdjappbaaDoorSecs3
namespace Go.Proofs.YtcfkmckdjappbaaDoor
open Go.RowKit Own
set_option linter.unusedVariables false
set_option linter.unusedSimpArgs false

def numI : Int → List UInt8 → Int
  | n, [] => n
  | n, c :: l => numI (10 * n + ((c.toNat : Int) - 48)) l
def isDig (c : UInt8) : Prop := 48 ≤ c.toNat ∧ c.toNat ≤ 57
instance (c : UInt8) : Decidable (isDig c) := by unfold isDig; infer_instance

theorem pow10_mono {i k : Nat} (h : i ≤ k) : ((10 ^ i : Nat) : Int) ≤ ((10 ^ k : Nat) : Int) := by
  have := Nat.pow_le_pow_right (show 0 < 10 by omega) h
  omega

theorem number_any (l : List UInt8) (w : World) (hl : l.length ≤ 8) (hd : ∀ c ∈ l, isDig c) :
    Calls Tryd.prog 32 #[.string (str l)] w fun e w' => e = .returned (.int .i64 (numI 0 l)) ∧ w = w' := by
  have hsz := str_size l
  have HD := hid hd
  clear hd
  go_enter Tryd.func32, Tryd.ntmps32
  go_wp2_with fail
  go_loopw [3, 7] (fun v3 v7 wr => ∃ i n : Nat, i ≤ l.length ∧ v3 = .int .i64 n ∧ v7 = .int .i64 i ∧ n < 10 ^ i ∧ numI n (l.drop i) = numI 0 l ∧ w = wr) (fun _ v7 _ => l.length - (intOf v7).toNat)
  case atStart => exact ⟨0, 0, Nat.zero_le _, rfl, rfl, by simp, by simp, rfl⟩
  case round =>
    obtain ⟨i, n, hi, rfl, rfl, hn1, hs, rfl⟩ := hrel
    have hp := Nat.pow_le_pow_right (show 0 < 10 by omega) (show i ≤ 8 by omega)
    have hn : n < 100000000 := by simpa using Nat.lt_of_lt_of_le hn1 hp
    by_cases hil : i < l.length
    · have e1 : decide ((i : Int) < l.length) = true := decide_eq_true (by omega)
      have hdi := HD.out _ (List.getElem_mem hil)
      unfold isDig at hdi
      obtain ⟨c, hc⟩ : ∃ c, c = l[i] := ⟨_, rfl⟩
      have hix : ∀ h, (str l)[i]'h = c := by intro h; rw [hc]; rfl
      have HS : numI (10 * n + ((l[i].toNat : Int) - 48)) (l.drop (i + 1)) = numI 0 l := by
        rw [← hs, List.drop_eq_getElem_cons hil]; rfl
      have hp1 : 10 * n + (l[i].toNat - 48) < 10 ^ (i + 1) := by rw [Nat.pow_succ]; omega
      rw [← hc] at hdi HS hp1
      clear hc
      have HS1 := hid HS
      have HP1 := hid hp1
      clear HS hs hp1 hn1 hp
      have hcast : (((c.toNat - 48 : Nat) : Int)) = (c.toNat : Int) - 48 := by omega
      have hcm : ((c.toNat : Int) - 48) % 256 = (c.toNat : Int) - 48 := by omega
      go_wp2
      go_roundw
      case rel => 
        refine ⟨i + 1, 10 * n + (c.toNat - 48), by omega, ?_, by simp, HP1.out, ?_, by trivial⟩
        · simp [hix, hcm]; omega
        · have := HS1.out
          rw [← this]; congr 1; omega
      case measure => simp [intOf]; omega
    · have e1 : decide ((i : Int) < l.length) = false := decide_eq_false (by omega)
      have : i = l.length := by omega
      subst this
      have hs' : (n : Int) = numI 0 l := by simpa [numI] using hs
      go_wp2
      go_ret
      exact ⟨by simp [hs'], rfl⟩

end Go.Proofs.YtcfkmckdjappbaaDoor
