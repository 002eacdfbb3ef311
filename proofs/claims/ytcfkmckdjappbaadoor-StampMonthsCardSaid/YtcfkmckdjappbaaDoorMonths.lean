/-
  StampMonths walked: the months are as long as the calendar has them.
-/
import Derived.Test.YtcfkmckdjappbaaDoorBack
namespace Go.Proofs.YtcfkmckdjappbaaDoor
open Go.RowKit Own
set_option linter.unusedVariables false
set_option linter.unusedSimpArgs false
set_option maxRecDepth 100000

theorem months_out (y m : Int) (w : World) (hG : Good w) (h : y < 2000 ∨ 2135 < y ∨ m < 1 ∨ 12 < m) :
    Calls Tryd.prog 8 #[.int .i64 y, .int .i64 m] w fun e w' => e = .returned (.bool true) ∧ Below w.heap.size w w' := by
  by_cases h0 : y < 2000
  · have e0 : decide (y < 2000) = true := decide_eq_true h0
    clear h
    go_enter Tryd.func8, Tryd.ntmps8
    go_wp2_with ((go_at_call 9; refine (shown_any w hG).mono ?_; rintro e w1 ⟨rfl, b1⟩))
    go_ret
    exact ⟨rfl, b1⟩
  have e0 : decide (y < 2000) = false := decide_eq_false h0
  by_cases h1 : 2135 < y
  · have e1 : decide (2135 < y) = true := decide_eq_true h1
    clear h
    go_enter Tryd.func8, Tryd.ntmps8
    go_wp2_with ((go_at_call 9; refine (shown_any w hG).mono ?_; rintro e w1 ⟨rfl, b1⟩))
    go_ret
    exact ⟨rfl, b1⟩
  have e1 : decide (2135 < y) = false := decide_eq_false h1
  by_cases h2 : m < 1
  · have e2 : decide (m < 1) = true := decide_eq_true h2
    clear h
    go_enter Tryd.func8, Tryd.ntmps8
    go_wp2_with ((go_at_call 9; refine (shown_any w hG).mono ?_; rintro e w1 ⟨rfl, b1⟩))
    go_ret
    exact ⟨rfl, b1⟩
  have e2 : decide (m < 1) = false := decide_eq_false h2
  have h3 : 12 < m := by omega
  have e3 : decide (12 < m) = true := decide_eq_true h3
  clear h
  go_enter Tryd.func8, Tryd.ntmps8
  go_wp2_with ((go_at_call 9; refine (shown_any w hG).mono ?_; rintro e w1 ⟨rfl, b1⟩))
  go_ret
  exact ⟨rfl, b1⟩

theorem dby_2136 : Date.dby 2136 = 49673 := by decide
theorem lp_law (y : Int) (h0 : 2000 ≤ y) (h1 : y ≤ 2135) : Date.lp y = if y % 4 = 0 ∧ y ≠ 2100 then 1 else 0 := by
  unfold Date.lp Date.leap
  by_cases h4 : y % 4 = 0
  · by_cases h5 : y = 2100
    · subst h5; decide
    · rw [if_pos (show y % 4 = 0 ∧ y ≠ 2100 from ⟨h4, h5⟩), if_pos]
      by_cases h100 : y % 100 = 0
      · have : y = 2000 := by omega
        subst this; decide
      · simp [h4, h100]
  · rw [if_neg (show ¬ (y % 4 = 0 ∧ y ≠ 2100) from fun h => h4 h.1), if_neg]
    simp [h4]

/-- The first day of a month. -/
def firstS (y m : Int) : Int := (Date.dby y + Date.cum y m) * 86400
theorem second_first (y m : Int) (hy : 2000 ≤ y ∧ y ≤ 2136) (hm : 1 ≤ m ∧ m ≤ 12) (hr : 0 ≤ firstS y m ∧ firstS y m < 4294967296) (w : World) (hG : Good w) :
    Calls Tryd.prog 17 #[.agg #[.int .i64 y, .int .i64 m, .int .i64 1, .int .i64 0, .int .i64 0, .int .i64 0, .int .i64 0]] w fun e w' => e = .returned (.tuple #[.int .i64 (firstS y m), .int .i64 0]) ∧ Below w.heap.size w w' := by
  have := second_any y m 1 0 0 0 0 w hG.1 hG.2.1
  have hml := Date.mlen_rng y m
  have hp : secPair y m 1 0 0 0 = (firstS y m, true) := by
    unfold secPair
    rw [if_pos (show Valid y m 1 0 0 0 from ⟨by omega, by omega, by omega, by omega, by omega, by omega, by omega, by omega, by omega, by omega, by omega, by omega⟩)]
    have : secsOf y m 1 0 0 0 = firstS y m := by unfold secsOf firstS; omega
    rw [this]
  rw [hp] at this
  unfold momOf momP time7 at this
  rw [if_pos ⟨rfl, hr.1, hr.2⟩] at this
  exact this

/-- What the calendar says, in letters. -/
structure Cal (y m dl wl A B C D : Int) : Prop where
  ab : B - A = 86400 * dl
  cd : D - C = 86400 * wl
  ra : 0 ≤ A ∧ A ≤ 4294967295
  rb : 1 ≤ B ∧ B ≤ 4294967295
  rc : 0 ≤ C ∧ C ≤ 4294967295
  rd : 0 ≤ D ∧ D ≤ 4294967295
  dr : 28 ≤ dl ∧ dl ≤ 31
  last : ∀ y' m' d' h mi s wd, IsMom (B - 1) y' m' d' h mi s wd → m' = m ∧ d' = dl
  len : dl = if m = 2 then (if y % 4 = 0 ∧ y ≠ 2100 then 29 else 28) else if m = 4 ∨ m = 6 ∨ m = 9 ∨ m = 11 then 30 else 31
  year : wl = if y % 4 = 0 ∧ y ≠ 2100 then 366 else 365

theorem cal (y m : Int) (hy : 2000 ≤ y ∧ y ≤ 2135) (hm : 1 ≤ m ∧ m ≤ 12) (B : Int) (hB : B = (Date.dby y + Date.cum y (m + 1)) * 86400) :
    Cal y m (Date.mlen y m) (365 + Date.lp y) (firstS y m) B (firstS y 1) (firstS (y + 1) 1) := by
  have h1 := Date.cum_succ y m hm.1 hm.2
  have h2 := Date.cum_1 y
  have h3 := Date.cum_1 (y + 1)
  have h4 := Date.dby_succ y
  have h5 := Date.lp_01 y
  have h6 := Date.dby_mono (show 2000 ≤ y by omega)
  have h7 := Date.dby_mono (show y + 1 ≤ 2136 by omega)
  rw [dby_2136] at h7
  rw [Date.dby_2000] at h6
  have h8 := Date.cum_rng y m hm.1 (by omega)
  have h9 := Date.cum_mono y (show (1 : Int) ≤ m + 1 by omega) (show m + 1 ≤ 13 by omega) (by omega)
  rw [Date.cum_13] at h9
  have hml := Date.mlen_rng y m
  have hlp := lp_law y hy.1 hy.2
  unfold firstS
  refine ⟨by omega, by omega, by omega, by omega, by omega, by omega, hml, ?_, ?_, ?_⟩
  · rintro y' m' d' h mi s wd ⟨hD, _⟩
    have hday : (B - 1) / 86400 = Date.dby y + Date.cum y m + Date.mlen y m - 1 := by omega
    rw [hday] at hD
    have hD2 : Date.IsDay (Date.dby y + Date.cum y m + Date.mlen y m - 1) y m (Date.mlen y m) := ⟨hm.1, hm.2, by omega, Int.le_refl _, rfl⟩
    obtain ⟨_, e1, e2⟩ := hD.uniq hD2
    exact ⟨e1, e2⟩
  · unfold Date.mlen
    rw [hlp]
    have hm' : m = 1 ∨ m = 2 ∨ m = 3 ∨ m = 4 ∨ m = 5 ∨ m = 6 ∨ m = 7 ∨ m = 8 ∨ m = 9 ∨ m = 10 ∨ m = 11 ∨ m = 12 := by omega
    by_cases c : y % 4 = 0 ∧ y ≠ 2100
    · rw [if_pos c, if_pos c]
      rcases hm' with rfl | rfl | rfl | rfl | rfl | rfl | rfl | rfl | rfl | rfl | rfl | rfl <;> decide
    · rw [if_neg c, if_neg c]
      rcases hm' with rfl | rfl | rfl | rfl | rfl | rfl | rfl | rfl | rfl | rfl | rfl | rfl <;> decide
  · rw [hlp]
    split <;> rfl

theorem days_cell (m dl : Int) (f : Int) (hm : 1 ≤ m ∧ m ≤ 12) (h : dl = if m = 2 then f else if m = 4 ∨ m = 6 ∨ m = 9 ∨ m = 11 then 30 else 31) :
    (#[.int .i64 0, .int .i64 31, .int .i64 f, .int .i64 31, .int .i64 30, .int .i64 31, .int .i64 30, .int .i64 31, .int .i64 31, .int .i64 30, .int .i64 31, .int .i64 30, .int .i64 31] : Array Value)[m.toNat]? = some (.int .i64 dl) := by
  have hm' : m = 1 ∨ m = 2 ∨ m = 3 ∨ m = 4 ∨ m = 5 ∨ m = 6 ∨ m = 7 ∨ m = 8 ∨ m = 9 ∨ m = 10 ∨ m = 11 ∨ m = 12 := by omega
  subst h
  rcases hm' with rfl | rfl | rfl | rfl | rfl | rfl | rfl | rfl | rfl | rfl | rfl | rfl <;> rfl

set_option maxHeartbeats 4000000 in
theorem months_in (y m : Int) (w : World) (hG : Good w) (h0 : 2000 ≤ y) (h1 : y ≤ 2135) (h2 : 1 ≤ m) (h3 : m ≤ 12) :
    Calls Tryd.prog 8 #[.int .i64 y, .int .i64 m] w fun e w' => e = .returned (.bool true) ∧ Below w.heap.size w w' := by
  have e0 : decide (y < 2000) = false := decide_eq_false (by omega)
  have e1 : decide (2135 < y) = false := decide_eq_false (by omega)
  have e2 : decide (m < 1) = false := decide_eq_false (by omega)
  have e3 : decide (12 < m) = false := decide_eq_false (by omega)
  obtain ⟨B, hB⟩ : ∃ B, B = (Date.dby y + Date.cum y (m + 1)) * 86400 := ⟨_, rfl⟩
  have hcal := cal y m ⟨h0, h1⟩ ⟨h2, h3⟩ B hB
  have cA := fun w' (g : Good w') => second_first y m ⟨by omega, by omega⟩ ⟨h2, h3⟩ ⟨hcal.ra.1, by have := hcal.ra; omega⟩ w' g
  have cC := fun w' (g : Good w') => second_first y 1 ⟨by omega, by omega⟩ ⟨by omega, by omega⟩ ⟨hcal.rc.1, by have := hcal.rc; omega⟩ w' g
  have cD := fun w' (g : Good w') => second_first (y + 1) 1 ⟨by omega, by omega⟩ ⟨by omega, by omega⟩ ⟨hcal.rd.1, by have := hcal.rd; omega⟩ w' g
  obtain ⟨yn, mn, hyn, cB⟩ : ∃ yn mn : Int, ((m = 12 ∧ yn = y + 1 ∧ mn = 1) ∨ (m ≠ 12 ∧ yn = y ∧ mn = m + 1)) ∧ ∀ w' (g : Good w'), Calls Tryd.prog 17 #[.agg #[.int .i64 yn, .int .i64 mn, .int .i64 1, .int .i64 0, .int .i64 0, .int .i64 0, .int .i64 0]] w' fun e w2 => e = .returned (.tuple #[.int .i64 B, .int .i64 0]) ∧ Below w'.heap.size w' w2 := by
    have hrb := hcal.rb
    by_cases h12 : m = 12
    · refine ⟨y + 1, 1, .inl ⟨h12, rfl, rfl⟩, fun w' g => ?_⟩
      have e : firstS (y + 1) 1 = B := by
        rw [hB, h12, show (12 : Int) + 1 = 13 by omega, Date.cum_13]
        unfold firstS
        rw [Date.dby_succ, Date.cum_1]
        omega
      have := second_first (y + 1) 1 ⟨by omega, by omega⟩ ⟨by omega, by omega⟩ (by rw [e]; omega) w' g
      rw [e] at this
      exact this
    · refine ⟨y, m + 1, .inr ⟨h12, rfl, rfl⟩, fun w' g => ?_⟩
      have e : firstS y (m + 1) = B := by rw [hB]; rfl
      have := second_first y (m + 1) ⟨by omega, by omega⟩ ⟨by omega, by omega⟩ (by rw [e]; omega) w' g
      rw [e] at this
      exact this
  generalize firstS y m = A at *
  generalize firstS y 1 = C at *
  generalize firstS (y + 1) 1 = D at *
  generalize Date.mlen y m = dl at *
  generalize 365 + Date.lp y = wl at *
  have HC := hid hcal
  have HYN := hid hyn
  clear hcal hB hyn
  have tok0 : Tok 0 := ⟨⟩
  go_enter Tryd.func8, Tryd.ntmps8
  go_upto_if 48 with (first
    | (go_at_call 9; refine (shown_any w hG).mono ?_; rintro e w1 ⟨rfl, b1⟩)
    | (go_at_call 17; have t_ : Tok 0 := ‹Tok 0›; refine (cA _ (hG.below b1)).mono ?_; rintro e w2 ⟨rfl, c2⟩; have b2 := below_then b1 c2; clear t_; clear tok0; have tok1 : Tok 1 := ⟨⟩))
  have A3 := heap_alloc_new w2 (.cells #[.int .i64 y, .int .i64 (m + 1), .int .i64 1, .int .i64 0, .int .i64 0, .int .i64 0, .int .i64 0] 24 (0, 0))
  have b3 := b2.alloc b2.size (.cells #[.int .i64 y, .int .i64 (m + 1), .int .i64 1, .int .i64 0, .int .i64 0, .int .i64 0, .int .i64 0] 24 (0, 0))
  have lw := b2.size
  have HA3 := hid A3
  have HB3 := hid b3
  have HB2 := hid b2
  clear b2 b1 c2 A3 b3
  go_cut [8] (fun v8 wx => v8 = .pointer (some ⟨w2.heap.size, 0, none⟩) ∧ wx.heap[w2.heap.size]? = some (.cells #[.int .i64 yn, .int .i64 mn, .int .i64 1, .int .i64 0, .int .i64 0, .int .i64 0, .int .i64 0] 24 (0, 0)) ∧ Below w.heap.size w wx)
  case first =>
    rcases HYN.out with ⟨k1, k2, k3⟩ | ⟨k1, k2, k3⟩
    · have e4 : (m == 12) = true := by simpa using k1
      have HK := hid (And.intro k2 k3)
      clear k1 k2 k3
      go_wp2
      go_meet
      case rel => exact ⟨rfl, by rw [HK.out.1, HK.out.2]; exact heap_alloc_new w2 _, HB2.out.alloc HB2.out.size _⟩
    · have e4 : (m == 12) = false := by simpa using k1
      have HK := hid (And.intro k2 k3)
      clear k1 k2 k3
      go_wp2
      go_meet
      case rel => exact ⟨rfl, by rw [HK.out.1, HK.out.2]; exact HA3.out, HB3.out⟩
  case rest =>
  obtain ⟨rfl, hN, hb3⟩ := hcut
  obtain ⟨w3, hw3⟩ : ∃ w3 : World, w3 = wc := ⟨_, rfl⟩
  rw [← hw3] at hN hb3
  rw [← hw3]
  clear hw3 HA3 HB3 HYN
  have n0 := cells_at hN 0
  have n1 := cells_at hN 1
  have n2 := cells_at hN 2
  have n3 := cells_at hN 3
  have n4 := cells_at hN 4
  have n5 := cells_at hN 5
  have n6 := cells_at hN 6
  have G3 := hG.below hb3
  have HB3 := hid hb3
  clear hN hb3
  go_upto_region 13 with (first
    | (go_at_call 17; have t_ : Tok 1 := ‹Tok 1›; refine (cB _ G3).mono ?_; rintro e w4 ⟨rfl, c4⟩; have b4 := below_then HB3.out c4; clear t_; clear tok1; have tok2 : Tok 2 := ⟨⟩)
    | (go_at_call 17; have t_ : Tok 2 := ‹Tok 2›; refine (cC _ (hG.below b4)).mono ?_; rintro e w5 ⟨rfl, c5⟩; have b5 := below_then b4 c5; clear t_; clear tok2; have tok3 : Tok 3 := ⟨⟩)
    | (go_at_call 17; have t_ : Tok 3 := ‹Tok 3›; refine (cD _ (hG.below b5)).mono ?_; rintro e w6 ⟨rfl, c6⟩; have b6 := below_then b5 c6; clear t_; clear tok3; have tok4 : Tok 4 := ⟨⟩))
  have HB6 := hid b6
  clear b4 b5 b6 c4 c5 c6 n0 n1 n2 n3 n4 n5 n6 G3 HB3 cA cB cC cD
  obtain ⟨lb, hlb⟩ : ∃ lb, lb = decide (y % 4 = 0 ∧ y ≠ 2100) := ⟨_, rfl⟩
  have HLB := hid hlb
  clear hlb
  go_cut [15] (fun v15 wx => v15 = .bool lb ∧ w6 = wx)
  case first =>
    by_cases k1 : y % 4 = 0
    · have e4 : (y % 4 == 0) = true := by simpa using k1
      by_cases k2 : y = 2100
      · have e5 : (y != 2100) = false := by simp [k2]
        have hl : lb = false := by rw [HLB.out]; exact decide_eq_false (fun h => h.2 k2)
        have HL := hid hl
        clear k1 k2 hl
        go_wp2
        go_meet
        case rel => exact ⟨by rw [HL.out], rfl⟩
      · have e5 : (y != 2100) = true := by simp [k2]
        have hl : lb = true := by rw [HLB.out]; exact decide_eq_true ⟨k1, k2⟩
        have HL := hid hl
        clear k1 k2 hl
        go_wp2
        go_meet
        case rel => exact ⟨by rw [HL.out], rfl⟩
    · have e4 : (y % 4 == 0) = false := by simpa using k1
      have hl : lb = false := by rw [HLB.out]; exact decide_eq_false (fun h => k1 h.1)
      have HL := hid hl
      clear k1 hl
      go_wp2
      go_meet
      case rel => exact ⟨by rw [HL.out], rfl⟩
  case rest =>
  obtain ⟨rfl, rfl⟩ := hcut
  cases lb with
  | true =>
    have hP : y % 4 = 0 ∧ y ≠ 2100 := by simpa using HLB.out.symm
    have hl2 : dl = if m = 2 then 29 else if m = 4 ∨ m = 6 ∨ m = 9 ∨ m = 11 then 30 else 31 := by rw [HC.out.len, if_pos hP]
    have hwl : wl = 366 := by rw [HC.out.year, if_pos hP]
    have hdc := days_cell m dl 29 ⟨h2, h3⟩ hl2
    have A7 := heap_alloc_new w6 (.cells #[.int .i64 0, .int .i64 31, .int .i64 29, .int .i64 31, .int .i64 30, .int .i64 31, .int .i64 30, .int .i64 31, .int .i64 31, .int .i64 30, .int .i64 31, .int .i64 30, .int .i64 31] 38 (0, 0))
    have hab := HC.out.ab
    have hcd := HC.out.cd
    have hra := HC.out.ra
    have hrb := HC.out.rb
    have hrc := HC.out.rc
    have hrd := HC.out.rd
    have hdr := HC.out.dr
    rw [hwl] at hcd
    have b7 := HB6.out.alloc HB6.out.size (.cells #[.int .i64 0, .int .i64 31, .int .i64 29, .int .i64 31, .int .i64 30, .int .i64 31, .int .i64 30, .int .i64 31, .int .i64 31, .int .i64 30, .int .i64 31, .int .i64 30, .int .i64 31] 38 (0, 0))
    have HDC := hid hdc
    have HAB := hid (And.intro hab hcd)
    clear hP hl2 hwl hdc hab hcd
    go_upto_region 21 with ((go_at_call 10; refine (of_mom (B - 1) _ (hG.below b7) (by omega) (by omega)).mono ?_; rintro e w8 ⟨y', m', d', h', mi', s', wd', hM, rfl, c8⟩; obtain ⟨rfl, rfl⟩ := HC.out.last _ _ _ _ _ _ _ hM))
    have b8 := below_then b7 c8
    have A8 := keep_alloc (keep_block A7 c8) (.cells #[.int .i64 y', .int .i64 m', .int .i64 d', .int .i64 h', .int .i64 mi', .int .i64 s', .int .i64 wd'] 24 (0, 0))
    have b9 := b8.alloc b8.size (.cells #[.int .i64 y', .int .i64 m', .int .i64 d', .int .i64 h', .int .i64 mi', .int .i64 s', .int .i64 wd'] 24 (0, 0))
    have q1 := cells_at (heap_alloc_new w8 (.cells #[.int .i64 y', .int .i64 m', .int .i64 d', .int .i64 h', .int .i64 mi', .int .i64 s', .int .i64 wd'] 24 (0, 0))) 1
    have q2 := cells_at (heap_alloc_new w8 (.cells #[.int .i64 y', .int .i64 m', .int .i64 d', .int .i64 h', .int .i64 mi', .int .i64 s', .int .i64 wd'] 24 (0, 0))) 2
    have q3 := cells_at A8 m'.toNat
    rw [HDC.out] at q3
    have f1 : B - A = 86400 * d' := HAB.out.1
    have f2 : D - C = 31622400 := by have := HAB.out.2; omega
    have HB9 := hid b9
    clear A7 A8 b7 b8 b9 c8 hM HDC HAB HC HLB
    go_quiet (fail)
    go_wp2
    go_ret
    exact ⟨rfl, below_drewN HB9.out _⟩
  | false =>
    have hP : ¬ (y % 4 = 0 ∧ y ≠ 2100) := by simpa using HLB.out.symm
    have hl2 : dl = if m = 2 then 28 else if m = 4 ∨ m = 6 ∨ m = 9 ∨ m = 11 then 30 else 31 := by rw [HC.out.len, if_neg hP]
    have hwl : wl = 365 := by rw [HC.out.year, if_neg hP]
    have hdc := days_cell m dl 28 ⟨h2, h3⟩ hl2
    have A7 := heap_alloc_new w6 (.cells #[.int .i64 0, .int .i64 31, .int .i64 28, .int .i64 31, .int .i64 30, .int .i64 31, .int .i64 30, .int .i64 31, .int .i64 31, .int .i64 30, .int .i64 31, .int .i64 30, .int .i64 31] 38 (0, 0))
    have hab := HC.out.ab
    have hcd := HC.out.cd
    have hra := HC.out.ra
    have hrb := HC.out.rb
    have hrc := HC.out.rc
    have hrd := HC.out.rd
    have hdr := HC.out.dr
    rw [hwl] at hcd
    have b7 := HB6.out.alloc HB6.out.size (.cells #[.int .i64 0, .int .i64 31, .int .i64 28, .int .i64 31, .int .i64 30, .int .i64 31, .int .i64 30, .int .i64 31, .int .i64 31, .int .i64 30, .int .i64 31, .int .i64 30, .int .i64 31] 38 (0, 0))
    have HDC := hid hdc
    have HAB := hid (And.intro hab hcd)
    clear hP hl2 hwl hdc hab hcd
    go_upto_region 21 with ((go_at_call 10; refine (of_mom (B - 1) _ (hG.below b7) (by omega) (by omega)).mono ?_; rintro e w8 ⟨y', m', d', h', mi', s', wd', hM, rfl, c8⟩; obtain ⟨rfl, rfl⟩ := HC.out.last _ _ _ _ _ _ _ hM))
    have b8 := below_then b7 c8
    have A8 := keep_alloc (keep_block A7 c8) (.cells #[.int .i64 y', .int .i64 m', .int .i64 d', .int .i64 h', .int .i64 mi', .int .i64 s', .int .i64 wd'] 24 (0, 0))
    have b9 := b8.alloc b8.size (.cells #[.int .i64 y', .int .i64 m', .int .i64 d', .int .i64 h', .int .i64 mi', .int .i64 s', .int .i64 wd'] 24 (0, 0))
    have q1 := cells_at (heap_alloc_new w8 (.cells #[.int .i64 y', .int .i64 m', .int .i64 d', .int .i64 h', .int .i64 mi', .int .i64 s', .int .i64 wd'] 24 (0, 0))) 1
    have q2 := cells_at (heap_alloc_new w8 (.cells #[.int .i64 y', .int .i64 m', .int .i64 d', .int .i64 h', .int .i64 mi', .int .i64 s', .int .i64 wd'] 24 (0, 0))) 2
    have q3 := cells_at A8 m'.toNat
    rw [HDC.out] at q3
    have f1 : B - A = 86400 * d' := HAB.out.1
    have f2 : D - C = 31536000 := by have := HAB.out.2; omega
    have HB9 := hid b9
    clear A7 A8 b7 b8 b9 c8 hM HDC HAB HC HLB
    go_quiet (fail)
    go_wp2
    go_ret
    exact ⟨rfl, below_drewN HB9.out _⟩

theorem months_walk (y m : Int) (w : World) (hG : Good w) :
    Calls Tryd.prog 8 #[.int .i64 y, .int .i64 m] w fun e w' => e = .returned (.bool true) ∧ Below w.heap.size w w' := by
  by_cases h : y < 2000 ∨ 2135 < y ∨ m < 1 ∨ 12 < m
  · exact months_out y m w hG h
  · exact months_in y m w hG (by omega) (by omega) (by omega) (by omega)

end Go.Proofs.YtcfkmckdjappbaaDoor
