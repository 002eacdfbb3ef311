/-
  StampOrder walked: a later moment has a later date.
-/
import Derived.Test.YtcfkmckdjappbaaDoorShown
namespace Go.Proofs.YtcfkmckdjappbaaDoor
open Go.RowKit Own
set_option linter.unusedVariables false
set_option linter.unusedSimpArgs false
set_option maxRecDepth 100000

theorem order_day {n n' y m d y' m' d' : Int} (h : Date.IsDay n y m d) (h' : Date.IsDay n' y' m' d') (hn : n ≤ n') :
    y ≤ y' ∧ (y = y' → m ≤ m') ∧ (y = y' → m = m' → d ≤ d') ∧ (y = y' → m = m' → d = d' → n = n') := by
  have a := h.year
  have b := h'.year
  have a1 := h.eq
  have b1 := h'.eq
  have a2 := h.d2
  have b2 := h'.d2
  have a3 := h.d1
  have b3 := h'.d1
  refine ⟨?_, ?_, ?_, ?_⟩
  · rcases Int.lt_or_le y' y with c | c
    · have := Date.dby_mono (show y' + 1 ≤ y by omega); omega
    · exact c
  · rintro rfl
    rcases Int.lt_or_le m' m with c | c
    · have h1 := Date.cum_succ y m' h'.m1 h'.m2
      have h2 := Date.cum_mono y (show (1 : Int) ≤ m' + 1 by have := h'.m1; omega) (show m' + 1 ≤ m by omega) (by have := h.m2; omega)
      omega
    · exact c
  · rintro rfl rfl; omega
  · rintro rfl rfl rfl; omega

/-- The numbers are the moment's. -/
def IsMom (sec y m d h mi s wd : Int) : Prop := Date.IsDay (sec / 86400) y m d ∧ h = sec % 86400 / 3600 ∧ mi = sec % 3600 / 60 ∧ s = sec % 60 ∧ wd = (sec / 86400 + 6) % 7
theorem of_mom (sec : Int) (w : World) (hG : Good w) (h0 : 0 ≤ sec) (h1 : sec < 4294967296) :
    Calls Tryd.prog 10 #[.int .i64 sec] w fun e w' => ∃ y m d h mi s wd, IsMom sec y m d h mi s wd ∧ e = .returned (.tuple #[.agg #[.int .i64 y, .int .i64 m, .int .i64 d, .int .i64 h, .int .i64 mi, .int .i64 s, .int .i64 wd], .int .i64 0]) ∧ Below w.heap.size w w' := by
  refine (of_ok sec w hG.1 hG.2.1 h0 h1).mono ?_
  rintro e w1 ⟨y, m, d, hD, rfl, hb⟩
  exact ⟨y, m, d, _, _, _, _, ⟨hD, rfl, rfl, rfl, rfl⟩, rfl, hb⟩

theorem order_law {a b y m d h mi s wd y' m' d' h' mi' s' wd' : Int} (ha : IsMom a y m d h mi s wd) (hb : IsMom b y' m' d' h' mi' s' wd') (h0 : 0 ≤ a) (hab : a < b) :
    (¬ ∀ j, j < 6 → [y, m, d, h, mi, s].getD j 0 = [y', m', d', h', mi', s'].getD j 0) ∧ (∀ i, i < 6 → (∀ j, j < i → [y, m, d, h, mi, s].getD j 0 = [y', m', d', h', mi', s'].getD j 0) → [y, m, d, h, mi, s].getD i 0 ≠ [y', m', d', h', mi', s'].getD i 0 → [y, m, d, h, mi, s].getD i 0 < [y', m', d', h', mi', s'].getD i 0) := by
  obtain ⟨hA, ea, ea2, ea3, _⟩ := ha
  obtain ⟨hB, eb, eb2, eb3, _⟩ := hb
  have o := order_day hA hB (by omega)
  refine ⟨fun he => ?_, fun i hi he hne => ?_⟩
  · have e0 : y = y' := he 0 (by omega)
    have e1 : m = m' := he 1 (by omega)
    have e2 : d = d' := he 2 (by omega)
    have e3 : h = h' := he 3 (by omega)
    have e4 : mi = mi' := he 4 (by omega)
    have e5 : s = s' := he 5 (by omega)
    have := o.2.2.2 e0 e1 e2
    omega
  · have hi2 : i = 0 ∨ i = 1 ∨ i = 2 ∨ i = 3 ∨ i = 4 ∨ i = 5 := by omega
    rcases hi2 with rfl | rfl | rfl | rfl | rfl | rfl
    · have : y ≠ y' := hne
      show y < y'
      omega
    · have e0 : y = y' := he 0 (by omega)
      have : m ≠ m' := hne
      have := o.2.1 e0
      show m < m'
      omega
    · have e0 : y = y' := he 0 (by omega)
      have e1 : m = m' := he 1 (by omega)
      have : d ≠ d' := hne
      have := o.2.2.1 e0 e1
      show d < d'
      omega
    · have e := o.2.2.2 (he 0 (by omega)) (he 1 (by omega)) (he 2 (by omega))
      have : h ≠ h' := hne
      show h < h'
      omega
    · have e := o.2.2.2 (he 0 (by omega)) (he 1 (by omega)) (he 2 (by omega))
      have e3 : h = h' := he 3 (by omega)
      have : mi ≠ mi' := hne
      show mi < mi'
      omega
    · have e := o.2.2.2 (he 0 (by omega)) (he 1 (by omega)) (he 2 (by omega))
      have e3 : h = h' := he 3 (by omega)
      have e4 : mi = mi' := he 4 (by omega)
      have : s ≠ s' := hne
      show s < s'
      omega

theorem six_cell (y m d h mi s : Int) (i : Nat) (hi : i < 6) : (#[.int .i64 y, .int .i64 m, .int .i64 d, .int .i64 h, .int .i64 mi, .int .i64 s] : Array Value)[i]? = some (.int .i64 ([y, m, d, h, mi, s].getD i 0)) := by
  have hi2 : i = 0 ∨ i = 1 ∨ i = 2 ∨ i = 3 ∨ i = 4 ∨ i = 5 := by omega
  rcases hi2 with rfl | rfl | rfl | rfl | rfl | rfl <;> rfl

theorem order_out (a b : Int) (w : World) (hG : Good w) (h : a < 0 ∨ b ≤ a ∨ 4294880896 ≤ b) :
    Calls Tryd.prog 4 #[.int .i64 a, .int .i64 b] w fun e w' => e = .returned (.bool true) ∧ Below w.heap.size w w' := by
  by_cases h0 : a < 0
  · have e0 : decide (a < 0) = true := decide_eq_true h0
    go_enter Tryd.func4, Tryd.ntmps4
    go_wp2_with ((go_at_call 9; refine (shown_any w hG).mono ?_; rintro e w1 ⟨rfl, b1⟩))
    go_ret
    exact ⟨rfl, b1⟩
  have e0 : decide (a < 0) = false := decide_eq_false h0
  by_cases h1 : b ≤ a
  · have e1 : decide (b ≤ a) = true := decide_eq_true h1
    clear h
    go_enter Tryd.func4, Tryd.ntmps4
    go_wp2_with ((go_at_call 9; refine (shown_any w hG).mono ?_; rintro e w1 ⟨rfl, b1⟩))
    go_ret
    exact ⟨rfl, b1⟩
  have e1 : decide (b ≤ a) = false := decide_eq_false h1
  have h2 : 4294880896 ≤ b := by omega
  have e2 : decide (4294880896 ≤ b) = true := decide_eq_true h2
  clear h
  go_enter Tryd.func4, Tryd.ntmps4
  go_wp2_with ((go_at_call 9; refine (shown_any w hG).mono ?_; rintro e w1 ⟨rfl, b1⟩))
  go_ret
  exact ⟨rfl, b1⟩

set_option maxHeartbeats 4000000 in
theorem order_in (a b : Int) (w : World) (hG : Good w) (h0 : 0 ≤ a) (h1 : a < b) (h2 : b < 4294880896) :
    Calls Tryd.prog 4 #[.int .i64 a, .int .i64 b] w fun e w' => e = .returned (.bool true) ∧ Below w.heap.size w w' := by
  have e0 : decide (a < 0) = false := decide_eq_false (by omega)
  have e1 : decide (b ≤ a) = false := decide_eq_false (by omega)
  have e2 : decide (4294880896 ≤ b) = false := decide_eq_false (by omega)
  have tok0 : Tok 0 := ⟨⟩
  go_enter Tryd.func4, Tryd.ntmps4
  go_upto_region 9 with (first
    | (go_at_call 9; refine (shown_any w hG).mono ?_; rintro e w1 ⟨rfl, b1⟩; have G1 := hG.below b1)
    | (go_at_call 10; have t_ : Tok 0 := ‹Tok 0›; refine (of_mom a w1 G1 h0 (by omega)).mono ?_; rintro e w2 ⟨yA, mA, dA, hA, iA, sA, qA, hDA, rfl, c2⟩; have b2 := below_then b1 c2; clear t_; clear tok0; have tok1 : Tok 1 := ⟨⟩)
    | (go_at_call 10; have t_ : Tok 1 := ‹Tok 1›; refine (of_mom b _ (hG.below (b2.alloc b2.size _)) (by omega) (by omega)).mono ?_; rintro e w3 ⟨yB, mB, dB, hB, iB, sB, qB, hDB, rfl, c3⟩; have b3 := below_then (b2.alloc b2.size _) c3; clear t_; clear tok1; have tok2 : Tok 2 := ⟨⟩)
    | (go_at_call 10; have t_ : Tok 2 := ‹Tok 2›; refine (of_mom (b + 86400) _ (hG.below (b3.alloc b3.size _)) (by omega) (by omega)).mono ?_; rintro e w4 ⟨yC, mC, dC, hC, iC, sC, qC, hDC, rfl, c4⟩; have b4 := below_then (b3.alloc b3.size _) c4; clear t_; clear tok2; have tok3 : Tok 3 := ⟨⟩))
  have A4 : (w4.alloc (.cells #[.int .i64 yC, .int .i64 mC, .int .i64 dC, .int .i64 hC, .int .i64 iC, .int .i64 sC, .int .i64 qC] 24 (0, 0))).heap[w2.heap.size]? = some (.cells #[.int .i64 yA, .int .i64 mA, .int .i64 dA, .int .i64 hA, .int .i64 iA, .int .i64 sA, .int .i64 qA] 24 (0, 0)) := keep_alloc (keep_block (keep_alloc (keep_block (heap_alloc_new w2 _) c3) _) c4) _
  have B4 : (w4.alloc (.cells #[.int .i64 yC, .int .i64 mC, .int .i64 dC, .int .i64 hC, .int .i64 iC, .int .i64 sC, .int .i64 qC] 24 (0, 0))).heap[w3.heap.size]? = some (.cells #[.int .i64 yB, .int .i64 mB, .int .i64 dB, .int .i64 hB, .int .i64 iB, .int .i64 sB, .int .i64 qB] 24 (0, 0)) := keep_alloc (keep_block (heap_alloc_new w3 _) c4) _
  have C4 := heap_alloc_new w4 (.cells #[.int .i64 yC, .int .i64 mC, .int .i64 dC, .int .i64 hC, .int .i64 iC, .int .i64 sC, .int .i64 qC] 24 (0, 0))
  have b5 := b4.alloc b4.size (.cells #[.int .i64 yC, .int .i64 mC, .int .i64 dC, .int .i64 hC, .int .i64 iC, .int .i64 sC, .int .i64 qC] 24 (0, 0))
  clear b1 b2 b3 b4 c2 c3 c4 G1
  generalize w2.heap.size = ga at *
  generalize w3.heap.size = gb at *
  generalize hgc : w4.heap.size = gc at *
  generalize hw5 : w4.alloc (.cells #[.int .i64 yC, .int .i64 mC, .int .i64 dC, .int .i64 hC, .int .i64 iC, .int .i64 sC, .int .i64 qC] 24 (0, 0)) = w5 at *
  clear hw5 hgc
  have r0 := cells_at A4 0
  have r1 := cells_at A4 1
  have r2 := cells_at A4 2
  have r3 := cells_at A4 3
  have r4 := cells_at A4 4
  have r5 := cells_at A4 5
  have s0 := cells_at B4 0
  have s1 := cells_at B4 1
  have s2 := cells_at B4 2
  have s3 := cells_at B4 3
  have s4 := cells_at B4 4
  have s5 := cells_at B4 5
  have hlaw := order_law hDA hDB h0 h1
  have hwd : qC = (qB + 1) % 7 ∧ hC = hB := by
    obtain ⟨_, e1, _, _, e2⟩ := hDB
    obtain ⟨_, e3, _, _, e4⟩ := hDC
    omega
  have hqr : 0 ≤ qB ∧ qB < 7 := by have := hDB.2.2.2.2; omega
  have HLAW := hid hlaw
  have HWD := hid hwd
  have HB5 := hid b5
  have HA4 := hid A4
  have HB4 := hid B4
  have HC4 := hid C4
  have lb := lt_of_block B4
  have lc := lt_of_block C4
  clear hlaw hwd hDA hDB hDC b5 A4 B4 C4
  go_upto_region 11 with fail
  go_wp2_with fail
  go_loopw [14] (fun v14 wr => ∃ i : Nat, i ≤ 6 ∧ v14 = .int .i64 i ∧ (∀ j, j < i → [yA, mA, dA, hA, iA, sA].getD j 0 = [yB, mB, dB, hB, iB, sB].getD j 0) ∧ wr.heap[w5.heap.size]? = some (.cells #[.int .i64 yA, .int .i64 mA, .int .i64 dA, .int .i64 hA, .int .i64 iA, .int .i64 sA] 30 (0, 0)) ∧ wr.heap[w5.heap.size + 1]? = some (.cells #[.int .i64 yB, .int .i64 mB, .int .i64 dB, .int .i64 hB, .int .i64 iB, .int .i64 sB] 30 (0, 0)) ∧ wr.heap[gb]? = some (.cells #[.int .i64 yB, .int .i64 mB, .int .i64 dB, .int .i64 hB, .int .i64 iB, .int .i64 sB, .int .i64 qB] 24 (0, 0)) ∧ wr.heap[gc]? = some (.cells #[.int .i64 yC, .int .i64 mC, .int .i64 dC, .int .i64 hC, .int .i64 iC, .int .i64 sC, .int .i64 qC] 24 (0, 0)) ∧ Below w.heap.size w wr) (fun v14 _ => 6 - (intOf v14).toNat)
  case atStart =>
    refine ⟨0, by omega, rfl, fun j hj => absurd hj (by omega), keep_alloc (heap_alloc_new w5 _) _, ?_, keep_alloc (keep_alloc HB4.out _) _, keep_alloc (keep_alloc HC4.out _) _, (HB5.out.alloc HB5.out.size _).alloc (by have := HB5.out.size; simp; omega) _⟩
    have := heap_alloc_new (w5.alloc (.cells #[.int .i64 yA, .int .i64 mA, .int .i64 dA, .int .i64 hA, .int .i64 iA, .int .i64 sA] 30 (0, 0))) (.cells #[.int .i64 yB, .int .i64 mB, .int .i64 dB, .int .i64 hB, .int .i64 iB, .int .i64 sB] 30 (0, 0))
    simpa using this
  case round =>
    obtain ⟨i, hi, rfl, heq, hX, hY, hBk, hCk, hbel⟩ := hrel
    have p0 := cells_at hBk 6
    have p1 := cells_at hBk 3
    have p2 := cells_at hCk 6
    have p3 := cells_at hCk 3
    by_cases hil : i < 6
    · have e3 : decide ((i : Int) < 6) = true := decide_eq_true (by omega)
      have x0 := cells_at hX i
      have y0 := cells_at hY i
      rw [six_cell _ _ _ _ _ _ i hil] at x0 y0
      have HX := hid hX
      have HY := hid hY
      have HBK := hid hBk
      have HCK := hid hCk
      have HBE := hid hbel
      have HEQ := hid heq
      clear hX hY hBk hCk hbel heq
      by_cases hxy : [yA, mA, dA, hA, iA, sA].getD i 0 = [yB, mB, dB, hB, iB, sB].getD i 0
      · have heq2 : ∀ j, j < i + 1 → [yA, mA, dA, hA, iA, sA].getD j 0 = [yB, mB, dB, hB, iB, sB].getD j 0 := by
          intro j hj
          rcases Nat.lt_or_ge j i with c | c
          · exact HEQ.out j c
          · rw [show j = i by omega]; exact hxy
        have HE2 := hid heq2
        clear heq2
        rw [hxy] at x0
        clear hxy
        generalize [yB, mB, dB, hB, iB, sB].getD i 0 = u at *
        go_wp2_with fail
        go_quiet (fail)
        go_wp2
        go_roundw
        case rel => exact ⟨i + 1, by omega, by go_num, HE2.out, HX.out, HY.out, HBK.out, HCK.out, below_drewN HBE.out _⟩
        case measure => simp [intOf]; omega
      · have hlt := HLAW.out.2 i hil HEQ.out hxy
        generalize [yA, mA, dA, hA, iA, sA].getD i 0 = u at *
        generalize [yB, mB, dB, hB, iB, sB].getD i 0 = v at *
        have e4 : (u == v) = false := by rw [beq_eq_false_iff_ne]; exact hxy
        have e5 : decide (u < v) = true := decide_eq_true hlt
        have x1 := x0
        have hwd := HWD.out
        obtain ⟨rfl, rfl⟩ := hwd
        clear hxy hlt
        go_wp2_with fail
        go_quiet (fail)
        go_wp2_with fail
        go_quiet (fail)
        go_wp2
        go_ret
        exact ⟨rfl, below_drewN (below_drewN HBE.out _) _⟩
    · exact absurd (fun j hj => heq j (by omega)) HLAW.out.1

theorem order_walk (a b : Int) (w : World) (hG : Good w) :
    Calls Tryd.prog 4 #[.int .i64 a, .int .i64 b] w fun e w' => e = .returned (.bool true) ∧ Below w.heap.size w w' := by
  by_cases h : a < 0 ∨ b ≤ a ∨ 4294880896 ≤ b
  · exact order_out a b w hG h
  · exact order_in a b w hG (by omega) (by omega) (by omega)

end Go.Proofs.YtcfkmckdjappbaaDoor
