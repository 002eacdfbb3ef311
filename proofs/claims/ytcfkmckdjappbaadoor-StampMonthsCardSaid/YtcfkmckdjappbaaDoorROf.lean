/-
  The reference's Of: the same date and time.
-/
import Derived.Test.YtcfkmckdjappbaaDoorOf
namespace Go.Proofs.YtcfkmckdjappbaaDoor
open Go.RowKit Own
set_option linter.unusedVariables false
set_option linter.unusedSimpArgs false

theorem rof_bad (sec : Int) (w : World) (h : sec < 0 ∨ 4294967296 ≤ sec) :
    Calls Tryd.prog 11 #[.int .i64 sec] w fun e w' => e = .returned (.tuple #[.agg (time7 0 0 0 0 0 0 0), .int .i64 80]) ∧ Below w.heap.size w w' := by
  rcases h with h | h
  · have e1 : decide (sec < 0) = true := decide_eq_true h
    go_enter Tryd.func11, Tryd.ntmps11
    go_wp2
    exact bodyPost_ret (v := .tuple #[.agg (time7 0 0 0 0 0 0 0), .int .i64 80]) (by simp [results, Tryd.results11, go_sem, time7]) rfl ⟨rfl, (Below.refl _ _).alloc (Nat.le_refl _) _⟩
  · have e0 : decide (sec < 0) = false := decide_eq_false (by omega)
    have e1 : decide (4294967296 ≤ sec) = true := decide_eq_true h
    go_enter Tryd.func11, Tryd.ntmps11
    go_wp2
    exact bodyPost_ret (v := .tuple #[.agg (time7 0 0 0 0 0 0 0), .int .i64 80]) (by simp [results, Tryd.results11, go_sem, time7]) rfl ⟨rfl, (Below.refl _ _).alloc (Nat.le_refl _) _⟩

set_option maxHeartbeats 2000000 in
theorem rof_ok (sec : Int) (w : World) (h0 : 0 ≤ sec) (h1 : sec < 4294967296) :
    Calls Tryd.prog 11 #[.int .i64 sec] w (OfPost sec w) := by
  have e0 : decide (sec < 0) = false := decide_eq_false (by omega)
  have e1 : decide (4294967296 ≤ sec) = false := decide_eq_false (by omega)
  go_enter Tryd.func11, Tryd.ntmps11
  have hn0 : 0 ≤ sec / 86400 ∧ sec / 86400 < 49711 := by omega
  go_wp2_with fail
  go_loopg [4] (13 * 140) (fun gk v4 wr => ∃ y m : Int, 2000 ≤ y ∧ y ≤ 2136 ∧ 1 ≤ m ∧ m ≤ 12 ∧ 0 ≤ sec / 86400 - Date.dby y - Date.cum y m ∧ v4 = .int .i64 (sec / 86400 - Date.dby y - Date.cum y m) ∧ gk = (13 * (2140 - y) - m + 1).toNat ∧ wr.heap[w.heap.size + 1]? = some (.cells #[.int .i64 (y), .int .i64 (m), .int .i64 (1), .int .i64 0, .int .i64 0, .int .i64 0, .int .i64 ((6 + sec / 86400) % 7)] 24 (0, 0)) ∧ wr.heap[w.heap.size]? = some (.cells #[.int .i64 0, .int .i64 0, .int .i64 0, .int .i64 0, .int .i64 0, .int .i64 0, .int .i64 0] 24 (0, 0)) ∧ Below w.heap.size w wr)
  case atStart =>
    refine ⟨2000, 1, by omega, by omega, by omega, by omega, by rw [Date.cum_1, Date.dby_2000]; omega, by rw [Date.cum_1, Date.dby_2000]; go_num, rfl, ?_, ?_, ?_⟩
    · have := heap_alloc_new (w.alloc (.cells #[.int .i64 0, .int .i64 0, .int .i64 0, .int .i64 0, .int .i64 0, .int .i64 0, .int .i64 0] 24 (0, 0))) ((.cells #[.int .i64 2000, .int .i64 1, .int .i64 1, .int .i64 0, .int .i64 0, .int .i64 0, .int .i64 ((6 + sec / 86400) % 7)] 24 (0, 0)))
      simpa using this
    · exact (Below.heap_alloc _ _ _ (by simp)).trans (heap_alloc_new w _)
    · exact ((Below.refl _ _).alloc (Nat.le_refl _) _).alloc (by simp) _
  case round =>
    obtain ⟨y, m, hy1, hy2, hm1, hm2, hm3, rfl, hgk, hB, hZ, hbel⟩ := hrel
    have c0 := cells_at hB 0
    have c1 := cells_at hB 1
    have f0 := free_at hB 0
    have f1 := free_at hB 1
    have HB := hid hB
    have HZ := hid hZ
    have HBE := hid hbel
    have HGK := hid hgk
    have hs2 := Date.dby_succ y
    have hl2 := Date.lp_01 y
    have hbd := Date.dby_mono (show 2000 ≤ y by omega)
    have hbd2 := Date.dby_mono (show y ≤ 2136 by omega)
    have k1 : Date.dby 2000 = 0 := by decide
    have k2 : Date.dby 2136 = 49673 := by decide
    rw [k1] at hbd
    rw [k2] at hbd2
    have HS2 := hid hs2
    have hml := Date.mlen_rng y m
    have hcs := Date.cum_succ y m hm1 hm2
    have hcr := Date.cum_rng y m hm1 (by omega)
    have HCS := hid hcs
    clear hB hZ hbel hgk k1 k2 hs2 hcs
    by_cases hk : Date.mlen y m ≤ sec / 86400 - Date.dby y - Date.cum y m
    · have hk' : decide (Date.mlen y m ≤ sec / 86400 - Date.dby y - Date.cum y m) = true := decide_eq_true hk
      have HK := hid hk
      clear hk
      by_cases hm12 : m = 12
      · subst hm12
        have h13 : Date.cum y (12 + 1) = 365 + Date.lp y := Date.cum_13 y
        have hy4 : y + 1 ≤ 2136 ∧ Date.dby (y + 1) ≤ sec / 86400 := by
          have a1 := HCS.out
          have a2 := HK.out
          have a3 := HS2.out
          refine ⟨?_, by omega⟩
          rcases Int.lt_or_le 2136 (y + 1) with c | c
          · have := Date.dby_mono (show 2137 ≤ y + 1 by omega)
            have e : Date.dby 2137 = 50039 := by decide
            omega
          · exact c
        have HY4 := hid hy4
        have H13 := hid h13
        clear hy4 h13
        have f2 := free_at HB.out 2
        go_wp2_with (first | (go_at_call 22; refine (rdays_any _ _ _ (by omega) (by omega)).mono ?_; rintro e w1 ⟨rfl, rfl⟩))
        go_roundg (13 * (2140 - (y + 1)) - 1 + 1).toNat
        case measure => have := HGK.out; omega
        case rel =>
          refine ⟨y + 1, 1, by omega, HY4.out.1, by omega, by omega, ?_, ?_, rfl, ?_, block_far (block_far (block_far HZ.out (by simp) _) (by simp) _) (by simp) _, ((HBE.out.setCell (by simp) _).setCell (by simp) _).setCell (by simp) _⟩
          · rw [Date.cum_1]; have := HY4.out.2; omega
          · rw [Date.cum_1]; have := HCS.out; have := H13.out; have := HS2.out; go_num
          · have b1 := block_set HB.out 1 (.int .i64 (12 + 1))
            have b2 := block_set b1 1 (.int .i64 1)
            have b3 := block_set b2 0 (.int .i64 (y + 1))
            simpa using b3
      · have hm13 : (m + 1 == 13) = false := by simp; omega
        have hm1' : m + 1 ≤ 12 := by omega
        have f2 := free_at HB.out 2
        clear hm12
        go_wp2_with (first | (go_at_call 22; refine (rdays_any _ _ _ (by omega) (by omega)).mono ?_; rintro e w1 ⟨rfl, rfl⟩))
        go_roundg (13 * (2140 - y) - (m + 1) + 1).toNat
        case measure => have := HGK.out; omega
        case rel =>
          refine ⟨y, m + 1, by omega, by omega, by omega, hm1', ?_, ?_, rfl, by simpa using block_set HB.out 1 (.int .i64 (m + 1)), block_far HZ.out (by simp) _, HBE.out.setCell (by simp) _⟩
          · have := HCS.out; have := HK.out; omega
          · have := HCS.out; go_num
    · have hk' : decide (Date.mlen y m ≤ sec / 86400 - Date.dby y - Date.cum y m) = false := decide_eq_false hk
      have HK := hid hk
      clear hk
      have hD : Date.IsDay (sec / 86400) y m (sec / 86400 - Date.dby y - Date.cum y m + 1) := ⟨hm1, hm2, by omega, by have := HK.out; omega, by omega⟩
      have HDD := hid hD
      clear hD
      have hz2 := HBE.out.size
      have c2 := cells_at HB.out 2
      have c3 := cells_at HB.out 3
      have c4 := cells_at HB.out 4
      have c5 := cells_at HB.out 5
      have c6 := cells_at HB.out 6
      have f2 := free_at HB.out 2
      have f3 := free_at HB.out 3
      have f4 := free_at HB.out 4
      have f5 := free_at HB.out 5
      have f6 := free_at HB.out 6
      have z0 := cells_at HZ.out 0
      have z1 := cells_at HZ.out 1
      have z2 := cells_at HZ.out 2
      have z3 := cells_at HZ.out 3
      have z4 := cells_at HZ.out 4
      have z5 := cells_at HZ.out 5
      have z6 := cells_at HZ.out 6
      have y0 := free_at HZ.out 0
      have y1 := free_at HZ.out 1
      have y2 := free_at HZ.out 2
      have y3 := free_at HZ.out 3
      have y4 := free_at HZ.out 4
      have y5 := free_at HZ.out 5
      have y6 := free_at HZ.out 6
      go_wp2_with (first | (go_at_call 22; refine (rdays_any _ _ _ (by omega) (by omega)).mono ?_; rintro e w1 ⟨rfl, rfl⟩))
      refine bodyPost_ret (v := .tuple #[.agg (time7 y m (sec / 86400 - Date.dby y - Date.cum y m + 1) (sec % 86400 / 3600) (sec % 3600 / 60) (sec % 60) ((sec / 86400 + 6) % 7)), .int .i64 0]) (by simp [results, Tryd.results11, go_sem, time7, z0, z1, z2, z3, z4, z5, z6, Int.add_comm]) rfl ⟨y, m, _, HDD.out, rfl, ?_⟩
      have q0 := HBE.out.setCell (p := ⟨w.heap.size + 1, 2, none⟩) (by simp) (.int .i64 (sec / 86400 - Date.dby y - Date.cum y m + 1))
      exact ((((((((((HBE.out.setCell (by simp) _).setCell (by simp) _).setCell (by simp) _).setCell (by simp) _).setCell (by simp) _).setCell (by simp) _).setCell (by simp) _).setCell (by simp) _).setCell (by simp) _).setCell (by simp) _).setCell (by simp) _

end Go.Proofs.YtcfkmckdjappbaaDoor
