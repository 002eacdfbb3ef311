/-
  What Parse of the reference answers; its first test.
-/
import Derived.Test.YtcfkmckdjappbaaDoorParse2
import Derived.Test.YtcfkmckdjappbaaDoorRSec
namespace Go.Proofs.YtcfkmckdjappbaaDoor
open Go.RowKit Own
set_option linter.unusedVariables false
set_option linter.unusedSimpArgs false
set_option maxRecDepth 100000

/-- The last month of 1 to k whose name this is. -/
def lastM (q : List UInt8) : Nat → Int
  | 0 => 0
  | k + 1 => if monB (k + 1 : Nat) = str q then (k + 1 : Nat) else lastM q k
def dayQ (l : List UInt8) : List UInt8 := if l.headD 0 = 32 then sl 1 2 l else sl 0 2 l
def bad1 (c2 c6 c11 c14 c17 c20 c21 : UInt8) : Bool := !(c2 == 45) || !(c6 == 45) || !(c11 == 32) || !(c14 == 58) || !(c17 == 58) || !(c20 == 32) || (!(c21 == 43) && !(c21 == 45))
def bad2 (d y h m s zh zm : List UInt8) (c0 : UInt8) : Bool := !(digB d) || !(digB y) || !(digB h) || !(digB m) || !(digB s) || !(digB zh) || !(digB zm) || (c0 == 48) || decide (14 < digN zh) || decide (59 < digN zm)

theorem u8_eq (c x : UInt8) (n : Int) (hn : (x.toNat : Int) = n) (h : c = x) : ((c.toNat : Int) != n) = false := by subst h; simp [hn]
theorem u8_ne (c x : UInt8) (n : Int) (hn : (x.toNat : Int) = n) (h : ¬ c = x) : ((c.toNat : Int) != n) = true := by
  rw [bne_iff_ne]
  intro h2
  exact h (UInt8.toNat_inj.mp (by omega))

theorem rparse_len (l : List UInt8) (w : World) (h : l.length ≠ 26) :
    Calls Tryd.prog 19 #[.string (str l)] w fun e w' => e = .returned (.tuple #[.int .i64 0, .int .i64 80]) ∧ w = w' := by
  have hsz := str_size l
  have e1 : ((l.length : Int) == 26) = false := by simp; omega
  go_enter Tryd.func19, Tryd.ntmps19
  go_wp2
  exact bodyPost_ret (v := .tuple #[.int .i64 0, .int .i64 80]) (by simp [results, Tryd.results19, go_sem]) rfl ⟨rfl, rfl⟩

set_option maxHeartbeats 4000000 in
theorem rparse_first (s : ByteArray) (c2 c6 c11 c14 c17 c20 c21 : UInt8) (w : World) (hs : s.size = 26) (hb : bad1 c2 c6 c11 c14 c17 c20 c21 = true)
    (i2 : ∀ h, s[2]'h = c2) (i6 : ∀ h, s[6]'h = c6) (i11 : ∀ h, s[11]'h = c11) (i14 : ∀ h, s[14]'h = c14) (i17 : ∀ h, s[17]'h = c17) (i20 : ∀ h, s[20]'h = c20) (i21 : ∀ h, s[21]'h = c21) :
    Calls Tryd.prog 19 #[.string s] w fun e w' => e = .returned (.tuple #[.int .i64 0, .int .i64 80]) ∧ w = w' := by
  have hb' : c2 ≠ 45 ∨ c6 ≠ 45 ∨ c11 ≠ 32 ∨ c14 ≠ 58 ∨ c17 ≠ 58 ∨ c20 ≠ 32 ∨ (c21 ≠ 43 ∧ c21 ≠ 45) := by
    simpa [bad1, or_assoc] using hb
  clear hb
  by_cases d2 : ¬ c2 = 45
  · have e2 := u8_ne c2 45 45 rfl d2
    clear d2 i6 i11 i14 i17 i20 i21 hb'
    go_enter Tryd.func19, Tryd.ntmps19
    go_wp2
    exact bodyPost_ret (v := .tuple #[.int .i64 0, .int .i64 80]) (by simp [results, Tryd.results19, go_sem]) rfl ⟨rfl, rfl⟩
  have d2 := Decidable.not_not.mp d2
  have e2 := u8_eq c2 45 45 rfl d2
  by_cases d6 : ¬ c6 = 45
  · have e6 := u8_ne c6 45 45 rfl d6
    clear d2 d6 i11 i14 i17 i20 i21 hb'
    go_enter Tryd.func19, Tryd.ntmps19
    go_wp2
    exact bodyPost_ret (v := .tuple #[.int .i64 0, .int .i64 80]) (by simp [results, Tryd.results19, go_sem]) rfl ⟨rfl, rfl⟩
  have d6 := Decidable.not_not.mp d6
  have e6 := u8_eq c6 45 45 rfl d6
  by_cases d11 : ¬ c11 = 32
  · have e11 := u8_ne c11 32 32 rfl d11
    clear d2 d6 d11 i14 i17 i20 i21 hb'
    go_enter Tryd.func19, Tryd.ntmps19
    go_wp2
    exact bodyPost_ret (v := .tuple #[.int .i64 0, .int .i64 80]) (by simp [results, Tryd.results19, go_sem]) rfl ⟨rfl, rfl⟩
  have d11 := Decidable.not_not.mp d11
  have e11 := u8_eq c11 32 32 rfl d11
  by_cases d14 : ¬ c14 = 58
  · have e14 := u8_ne c14 58 58 rfl d14
    clear d2 d6 d11 d14 i17 i20 i21 hb'
    go_enter Tryd.func19, Tryd.ntmps19
    go_wp2
    exact bodyPost_ret (v := .tuple #[.int .i64 0, .int .i64 80]) (by simp [results, Tryd.results19, go_sem]) rfl ⟨rfl, rfl⟩
  have d14 := Decidable.not_not.mp d14
  have e14 := u8_eq c14 58 58 rfl d14
  by_cases d17 : ¬ c17 = 58
  · have e17 := u8_ne c17 58 58 rfl d17
    clear d2 d6 d11 d14 d17 i20 i21 hb'
    go_enter Tryd.func19, Tryd.ntmps19
    go_wp2
    exact bodyPost_ret (v := .tuple #[.int .i64 0, .int .i64 80]) (by simp [results, Tryd.results19, go_sem]) rfl ⟨rfl, rfl⟩
  have d17 := Decidable.not_not.mp d17
  have e17 := u8_eq c17 58 58 rfl d17
  by_cases d20 : ¬ c20 = 32
  · have e20 := u8_ne c20 32 32 rfl d20
    clear d2 d6 d11 d14 d17 d20 i21 hb'
    go_enter Tryd.func19, Tryd.ntmps19
    go_wp2
    exact bodyPost_ret (v := .tuple #[.int .i64 0, .int .i64 80]) (by simp [results, Tryd.results19, go_sem]) rfl ⟨rfl, rfl⟩
  have d20 := Decidable.not_not.mp d20
  have e20 := u8_eq c20 32 32 rfl d20
  obtain ⟨d21, d22⟩ : ¬ c21 = 43 ∧ ¬ c21 = 45 := by
    rcases hb' with h | h | h | h | h | h | h
    · exact absurd d2 h
    · exact absurd d6 h
    · exact absurd d11 h
    · exact absurd d14 h
    · exact absurd d17 h
    · exact absurd d20 h
    · exact h
  have e21 := u8_ne c21 43 43 rfl d21
  have e22 := u8_ne c21 45 45 rfl d22
  clear d2 d6 d11 d14 d17 d20 d21 d22  hb'
  go_enter Tryd.func19, Tryd.ntmps19
  go_wp2
  exact bodyPost_ret (v := .tuple #[.int .i64 0, .int .i64 80]) (by simp [results, Tryd.results19, go_sem]) rfl ⟨rfl, rfl⟩

end Go.Proofs.YtcfkmckdjappbaaDoor
