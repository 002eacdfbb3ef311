/-
  The calendar from 2000 on: plain numbers. No program here.
-/
namespace Go.Proofs.YtcfkmckdjappbaaDoor.Date
set_option linter.unusedVariables false
set_option linter.unusedSimpArgs false

def leap (y : Int) : Bool := decide (y % 4 = 0) && (decide (y % 100 ≠ 0) || decide (y % 400 = 0))
/-- 1 in a leap year. -/
def lp (y : Int) : Int := if leap y then 1 else 0
/-- A month's days. -/
def mlen (y m : Int) : Int := if m = 2 then 28 + lp y else if m = 4 ∨ m = 6 ∨ m = 9 ∨ m = 11 then 30 else 31
/-- Days from 2000 on to a year's beginning. -/
def dby (y : Int) : Int := 365 * (y - 1) + (y - 1) / 4 - (y - 1) / 100 + (y - 1) / 400 - 730119
/-- Days of a year ahead of a month. -/
def cum (y m : Int) : Int :=
  if m ≤ 1 then 0 else if m = 2 then 31 else if m = 3 then 59 + lp y else if m = 4 then 90 + lp y else if m = 5 then 120 + lp y else if m = 6 then 151 + lp y else if m = 7 then 181 + lp y
  else if m = 8 then 212 + lp y else if m = 9 then 243 + lp y else if m = 10 then 273 + lp y else if m = 11 then 304 + lp y else if m = 12 then 334 + lp y else 365 + lp y

theorem lp_01 (y : Int) : 0 ≤ lp y ∧ lp y ≤ 1 := by unfold lp; split <;> omega
theorem lp_eq (y : Int) : lp y = (y / 4 - (y - 1) / 4) - (y / 100 - (y - 1) / 100) + (y / 400 - (y - 1) / 400) := by
  unfold lp leap
  by_cases h4 : y % 4 = 0 <;> by_cases h100 : y % 100 = 0 <;> by_cases h400 : y % 400 = 0 <;> simp [h4, h100, h400] <;> omega
theorem dby_succ (y : Int) : dby (y + 1) = dby y + 365 + lp y := by
  rw [lp_eq]
  unfold dby
  rw [show y + 1 - 1 = y by omega]
  omega
theorem dby_2000 : dby 2000 = 0 := by decide
theorem dby_mono {a b : Int} (h : a ≤ b) : dby a ≤ dby b := by unfold dby; omega
theorem dby_lt {a b : Int} (h : a < b) : dby a + 365 ≤ dby b := by
  have h1 := dby_succ a
  have h2 := lp_01 a
  have h3 := dby_mono (show a + 1 ≤ b by omega)
  omega
theorem mlen_rng (y m : Int) : 28 ≤ mlen y m ∧ mlen y m ≤ 31 := by
  have := lp_01 y
  unfold mlen
  (repeat' split) <;> omega
theorem cum_succ (y m : Int) (h1 : 1 ≤ m) (h2 : m ≤ 12) : cum y (m + 1) = cum y m + mlen y m := by
  have hm : m = 1 ∨ m = 2 ∨ m = 3 ∨ m = 4 ∨ m = 5 ∨ m = 6 ∨ m = 7 ∨ m = 8 ∨ m = 9 ∨ m = 10 ∨ m = 11 ∨ m = 12 := by omega
  rcases hm with rfl | rfl | rfl | rfl | rfl | rfl | rfl | rfl | rfl | rfl | rfl | rfl <;> simp [cum, mlen] <;> omega
theorem cum_13 (y : Int) : cum y 13 = 365 + lp y := by simp [cum]
theorem cum_1 (y : Int) : cum y 1 = 0 := by simp [cum]
theorem cum_up (y a : Int) (h0 : 1 ≤ a) : ∀ k : Nat, a + k ≤ 13 → cum y a ≤ cum y (a + k)
  | 0, _ => by simp
  | k + 1, h => by
    have h1 := cum_up y a h0 k (by omega)
    have h2 := cum_succ y (a + k) (by omega) (by omega)
    have h3 := mlen_rng y (a + k)
    rw [show a + ((k + 1 : Nat) : Int) = a + k + 1 by omega, h2]
    omega
theorem cum_mono (y : Int) {a b : Int} (h0 : 1 ≤ a) (h : a ≤ b) (h2 : b ≤ 13) : cum y a ≤ cum y b := by
  have := cum_up y a h0 (b - a).toNat (by omega)
  rwa [show a + ((b - a).toNat : Int) = b by omega] at this
theorem cum_rng (y m : Int) (h1 : 1 ≤ m) (h2 : m ≤ 13) : 0 ≤ cum y m ∧ cum y m ≤ 366 := by
  have a := cum_mono y (show (1 : Int) ≤ 1 by omega) h1 h2
  have b := cum_mono y h1 h2 (show (13 : Int) ≤ 13 by omega)
  have c := lp_01 y
  rw [cum_1] at a
  rw [cum_13] at b
  omega

/-- Day n from 2000 on is day d of month m of year y. -/
structure IsDay (n y m d : Int) : Prop where
  m1 : 1 ≤ m
  m2 : m ≤ 12
  d1 : 1 ≤ d
  d2 : d ≤ mlen y m
  eq : dby y + cum y m + d - 1 = n

theorem IsDay.year {n y m d : Int} (h : IsDay n y m d) : dby y ≤ n ∧ n < dby (y + 1) := by
  have h1 := cum_succ y m h.m1 h.m2
  have h2 := cum_mono y (show (1 : Int) ≤ m + 1 by have := h.m1; omega) (show m + 1 ≤ 13 by have := h.m2; omega) (by omega)
  have h3 := cum_rng y m h.m1 (by have := h.m2; omega)
  rw [cum_13] at h2
  rw [dby_succ]
  have := h.eq; have := h.d1; have := h.d2
  omega
theorem IsDay.uniq {n y m d y' m' d' : Int} (h : IsDay n y m d) (h' : IsDay n y' m' d') : y = y' ∧ m = m' ∧ d = d' := by
  have hy : y = y' := by
    have a := h.year
    have b := h'.year
    rcases Int.lt_trichotomy y y' with c | c | c
    · have := dby_mono (show y + 1 ≤ y' by omega); omega
    · exact c
    · have := dby_mono (show y' + 1 ≤ y by omega); omega
  subst hy
  have e := h.eq
  have e' := h'.eq
  have hm : m = m' := by
    have a := h.d1; have b := h.d2; have a' := h'.d1; have b' := h'.d2
    rcases Int.lt_trichotomy m m' with c | c | c
    · have h1 := cum_succ y m h.m1 h.m2
      have h2 := cum_mono y (show (1 : Int) ≤ m + 1 by have := h.m1; omega) (show m + 1 ≤ m' by omega) (by have := h'.m2; omega)
      omega
    · exact c
    · have h1 := cum_succ y m' h'.m1 h'.m2
      have h2 := cum_mono y (show (1 : Int) ≤ m' + 1 by have := h'.m1; omega) (show m' + 1 ≤ m by omega) (by have := h.m2; omega)
      omega
  subst hm
  exact ⟨rfl, rfl, by omega⟩
/-- A day of the clock's years. -/
theorem IsDay.rng {n y m d : Int} (h : IsDay n y m d) (h0 : 0 ≤ n) (h1 : n < 49711) : 2000 ≤ y ∧ y ≤ 2136 := by
  have a := h.year
  have h2000 := dby_2000
  constructor
  · rcases Int.lt_or_le y 2000 with c | c
    · have := dby_mono (show y + 1 ≤ 2000 by omega); omega
    · exact c
  · rcases Int.lt_or_le 2136 y with c | c
    · have := dby_mono (show 2137 ≤ y by omega)
      have e : dby 2137 = 50039 := by decide
      omega
    · exact c

end Go.Proofs.YtcfkmckdjappbaaDoor.Date
