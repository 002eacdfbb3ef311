/-
  The reference's number of so many digits; the months' and the weekdays' names.
-/
import Derived.Test.YtcfkmckdjappbaaDoorWide
import Derived.Deep.RegionHeld3
namespace Go.Proofs.YtcfkmckdjappbaaDoor
open Go.RowKit Own
set_option linter.unusedVariables false
set_option linter.unusedSimpArgs false

theorem wide_i (n many : Int) (w : World) (h0 : 0 ≤ n) (hn : n ≤ 9223372036854775807) (hm0 : 0 ≤ many) (hm : many ≤ 64) :
    Calls Tryd.prog 23 #[.int .i64 n, .int .i64 many] w fun e w' => e = .returned (.string (str (Text.lastL many.toNat n.toNat))) ∧ Below w.heap.size w w' := by
  have h := wide_any n.toNat many.toNat w (by omega) (by omega)
  rwa [Int.toNat_of_nonneg h0, Int.toNat_of_nonneg hm0] at h

theorem rwide_any (n many : Nat) (w : World) (hn : n < 10 ^ (many + 1)) (hm : many ≤ 17) :
    Calls Tryd.prog 26 #[.int .i64 n, .int .i64 ((many : Int) + 1)] w fun e w' => e = .returned (.string (str (Text.lastL (many + 1) n))) ∧ Below w.heap.size w w' := by
  have hn2 : n ≤ 9223372036854775807 := by
    have := Nat.pow_le_pow_right (n := 10) (by omega) (show many + 1 ≤ 18 by omega)
    omega
  have hlen := Text.digs_len many n hn
  have hpad := Text.pad_last many n hn
  have HP := hid hpad
  have HL := hid hlen
  clear hpad hn hlen
  go_enter Tryd.func26, Tryd.ntmps26
  go_wp2_with (first | (go_at_call 29; refine (digits_any _ _ (by omega)).mono ?_; rintro e w1 ⟨rfl, hb1⟩))
  have HB1 := hid hb1
  clear hb1
  go_loopw [5] (fun v5 wr => ∃ k : Nat, k + (Text.digs n).length ≤ many + 1 ∧ v5 = .string (str (List.replicate k 48 ++ Text.digs n)) ∧ w1 = wr) (fun v5 _ => 20 - (match v5 with | .string s => s.size | _ => 0))
  case atStart => exact ⟨0, by have := HL.out; omega, by simp, rfl⟩
  case round =>
    obtain ⟨k, hk, rfl, rfl⟩ := hrel
    have HK := hid hk
    clear hk
    by_cases hkk : k + (Text.digs n).length < many + 1
    · have e1 : decide (((str (List.replicate k 48 ++ Text.digs n)).size : Int) < ((many : Int) + 1)) = true := decide_eq_true (by rw [str_size]; simp; omega)
      have HKK := hid hkk
      clear hkk
      have ht : str [48] ++ str (List.replicate k 48 ++ Text.digs n) = str (List.replicate (k + 1) 48 ++ Text.digs n) := by rw [str_append]; rfl
      have hs0 : (str [48]).size = 1 := by rw [str_size]; rfl
      have hs1 : (str (List.replicate k 48 ++ Text.digs n)).size ≤ 20 := by rw [str_size]; simp; have := HKK.out; omega
      have HT := hid ht
      clear ht
      go_wp2
      go_roundw
      case rel => exact ⟨k + 1, by have := HKK.out; omega, congrArg Value.string HT.out, trivial⟩
      case measure =>
        show 20 - (str [48] ++ str (List.replicate k 48 ++ Text.digs n)).size < 20 - (str (List.replicate k 48 ++ Text.digs n)).size
        have e2 := congrArg ByteArray.size HT.out
        rw [e2, str_size, str_size]
        simp
        have := HKK.out
        omega
    · have e1 : decide (((str (List.replicate k 48 ++ Text.digs n)).size : Int) < ((many : Int) + 1)) = false := decide_eq_false (by rw [str_size]; simp; omega)
      have HKK := hid hkk
      clear hkk
      go_wp2
      go_ret
      have e : many + 1 - (Text.digs n).length = k := by have := HKK.out; have := HK.out; omega
      have h2 := HP.out
      rw [e] at h2
      exact ⟨by rw [← h2]; rfl, HB1.out⟩

theorem rwide_i (n many : Int) (w : World) (h0 : 0 ≤ n) (hm0 : 1 ≤ many) (hm : many ≤ 17) (hn : n.toNat < 10 ^ many.toNat) :
    Calls Tryd.prog 26 #[.int .i64 n, .int .i64 many] w fun e w' => e = .returned (.string (str (Text.lastL many.toNat n.toNat))) ∧ Below w.heap.size w w' := by
  have e : many.toNat = (many.toNat - 1) + 1 := by omega
  have h := rwide_any n.toNat (many.toNat - 1) w (by rw [← e]; exact hn) (by omega)
  rw [← e] at h
  have e2 : ((many.toNat - 1 : Nat) : Int) + 1 = many := by omega
  rwa [Int.toNat_of_nonneg h0, e2] at h

end Go.Proofs.YtcfkmckdjappbaaDoor
