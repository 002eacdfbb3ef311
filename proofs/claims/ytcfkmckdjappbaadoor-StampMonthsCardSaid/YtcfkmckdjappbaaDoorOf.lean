/-
  The program's Of: a moment's date and time.
-/
import Derived.Test.YtcfkmckdjappbaaDoorStamp1
import Derived.LoopTactic
import Derived.Deep.LoopGhost
import Derived.Deep.DeepCutAuto
import Derived.Deep.CutBlock
namespace Go.Proofs.YtcfkmckdjappbaaDoor
open Go.RowKit Own
set_option linter.unusedVariables false
set_option linter.unusedSimpArgs false

/-- A date and time as a value. -/
def time7 (y m d h mi s wd : Int) : Array Value := #[.int .i64 y, .int .i64 m, .int .i64 d, .int .i64 h, .int .i64 mi, .int .i64 s, .int .i64 wd]

theorem dby_guess (k : Int) (h : 0 ≤ k) : Date.dby (2000 + k) ≤ 366 * k := by unfold Date.dby; omega

/-- What Of answers. -/
def OfPost (sec : Int) (w : World) (e : Ending) (w' : World) : Prop :=
  ∃ y m d : Int, Date.IsDay (sec / 86400) y m d ∧ e = .returned (.tuple #[.agg (time7 y m d (sec % 86400 / 3600) (sec % 3600 / 60) (sec % 60) ((sec / 86400 + 6) % 7)), .int .i64 0]) ∧ Below w.heap.size w w'

theorem of_bad (sec : Int) (w : World) (h : sec < 0 ∨ 4294967296 ≤ sec) :
    Calls Tryd.prog 10 #[.int .i64 sec] w fun e w' => e = .returned (.tuple #[.agg (time7 0 0 0 0 0 0 0), .int .i64 80]) ∧ Below w.heap.size w w' := by
  rcases h with h | h
  · have e1 : decide (sec < 0) = true := decide_eq_true h
    go_enter Tryd.func10, Tryd.ntmps10
    go_wp2
    exact bodyPost_ret (v := .tuple #[.agg (time7 0 0 0 0 0 0 0), .int .i64 80]) (by simp [results, Tryd.results10, go_sem, time7]) rfl ⟨rfl, (Below.refl _ _).alloc (Nat.le_refl _) _⟩
  · have e0 : decide (sec < 0) = false := decide_eq_false (by omega)
    have e1 : decide (4294967296 ≤ sec) = true := decide_eq_true h
    go_enter Tryd.func10, Tryd.ntmps10
    go_wp2
    exact bodyPost_ret (v := .tuple #[.agg (time7 0 0 0 0 0 0 0), .int .i64 80]) (by simp [results, Tryd.results10, go_sem, time7]) rfl ⟨rfl, (Below.refl _ _).alloc (Nat.le_refl _) _⟩

set_option maxHeartbeats 2000000 in
theorem of_ok (sec : Int) (w : World) (hL : Lens w) (hg : 0 < w.heap.size) (h0 : 0 ≤ sec) (h1 : sec < 4294967296) :
    Calls Tryd.prog 10 #[.int .i64 sec] w (OfPost sec w) := by
  have e0 : decide (sec < 0) = false := decide_eq_false (by omega)
  have e1 : decide (4294967296 ≤ sec) = false := decide_eq_false (by omega)
  have HL := hid hL
  clear hL
  go_enter Tryd.func10, Tryd.ntmps10
  have hn0 : 0 ≤ sec / 86400 ∧ sec / 86400 < 49711 := by omega
  have hg0 := dby_guess (sec / 86400 / 366) (by omega)
  have hq : sec / 86400 / 366 ≤ 135 ∧ 0 ≤ sec / 86400 / 366 ∧ 366 * (sec / 86400 / 366) ≤ sec / 86400 := by omega
  have HG0 := hid hg0
  have m1 : sec % 86400 % 3600 = sec % 3600 := by omega
  have m2 : sec % 86400 % 60 = sec % 60 := by omega
  clear hg0
  go_upto_region 4 with fail
  go_cut [6] (fun v6 wx => v6 = .pointer (some ⟨w.heap.size + 1, 0, none⟩) ∧ wx.heap[w.heap.size + 1]? = some (.cells #[.int .i64 (2000 + sec / 86400 / 366), .int .i64 (0), .int .i64 (0), .int .i64 (sec % 86400 / 3600), .int .i64 (sec % 3600 / 60), .int .i64 (sec % 60), .int .i64 ((sec / 86400 + 6) % 7)] 24 (0, 0)) ∧ wx.heap[w.heap.size]? = some (.cells #[.int .i64 0, .int .i64 0, .int .i64 0, .int .i64 0, .int .i64 0, .int .i64 0, .int .i64 0] 24 (0, 0)) ∧ Below w.heap.size w wx)
  case first =>
    go_wp2
    go_meet
    case rel =>
      refine ⟨rfl, ?_, ?_, ?_⟩
      · have := heap_alloc_new (w.alloc (.cells #[.int .i64 0, .int .i64 0, .int .i64 0, .int .i64 0, .int .i64 0, .int .i64 0, .int .i64 0] 24 (0, 0))) ((.cells #[.int .i64 (2000 + sec / 86400 / 366), .int .i64 (0), .int .i64 (0), .int .i64 (sec % 86400 / 3600), .int .i64 (sec % 3600 / 60), .int .i64 (sec % 60), .int .i64 ((sec / 86400 + 6) % 7)] 24 (0, 0)))
        simpa using this
      · exact (Below.heap_alloc _ _ _ (by simp)).trans (heap_alloc_new w _)
      · exact ((Below.refl _ _).alloc (Nat.le_refl _) _).alloc (by simp) _
  case rest =>
  obtain ⟨rfl, hB0, hZ0, hbel0⟩ := hcut
  have H00 := hid (And.intro hB0 (And.intro hZ0 hbel0))
  clear hB0 hZ0 hbel0 m1 m2
  go_wp2_with fail
  go_loopg [] (2140 - (2000 + sec / 86400 / 366)).toNat (fun gk wr => ∃ y : Int, 2000 ≤ y ∧ y ≤ 2136 ∧ Date.dby y ≤ sec / 86400 ∧ gk = (2140 - y).toNat ∧ wr.heap[w.heap.size + 1]? = some (.cells #[.int .i64 (y), .int .i64 (0), .int .i64 (0), .int .i64 (sec % 86400 / 3600), .int .i64 (sec % 3600 / 60), .int .i64 (sec % 60), .int .i64 ((sec / 86400 + 6) % 7)] 24 (0, 0)) ∧ wr.heap[w.heap.size]? = some (.cells #[.int .i64 0, .int .i64 0, .int .i64 0, .int .i64 0, .int .i64 0, .int .i64 0, .int .i64 0] 24 (0, 0)) ∧ Below w.heap.size w wr)
  case atStart => exact ⟨2000 + sec / 86400 / 366, by omega, by omega, by have := HG0.out; omega, rfl, H00.out.1, H00.out.2.1, H00.out.2.2⟩
  case round =>
    obtain ⟨y, hy1, hy2, hy3, hgk, hB, hZ, hbel⟩ := hrel
    have c0 := cells_at hB 0
    have c1 := cells_at hB 1
    have f0 := free_at hB 0
    have f1 := free_at hB 1
    have HB := hid hB
    have HZ := hid hZ
    have HBE := hid hbel
    have HGK := hid hgk
    have hs2 := Date.dby_succ y
    have hl2 := Date.lp_01 y
    have hbd := Date.dby_mono (show 2000 ≤ y by omega)
    have hbd2 := Date.dby_mono (show y ≤ 2136 by omega)
    have k1 : Date.dby 2000 = 0 := by decide
    have k2 : Date.dby 2136 = 49673 := by decide
    rw [k1] at hbd
    rw [k2] at hbd2
    have HS2 := hid hs2
    clear hB hZ hbel hgk k1 k2 hs2
    by_cases hd : Date.dby (y + 1) ≤ sec / 86400
    · have hd' : decide (Date.dby (y + 1) ≤ sec / 86400) = true := decide_eq_true hd
      have hy4 : y + 1 ≤ 2136 := by
        rcases Int.lt_or_le 2136 (y + 1) with c | c
        · have := Date.dby_mono (show 2137 ≤ y + 1 by omega)
          have e : Date.dby 2137 = 50039 := by decide
          omega
        · exact c
      have HD := hid hd
      clear hd
      go_wp2_with (first | (go_at_call 20; refine (before_any _ _ (by omega) (by omega)).mono ?_; rintro e w1 ⟨rfl, rfl⟩))
      go_roundg (2140 - (y + 1)).toNat
      case measure => have := HGK.out; omega
      case rel => exact ⟨y + 1, by omega, hy4, HD.out, rfl, by simpa using block_set HB.out 0 (.int .i64 (y + 1)), block_far HZ.out (by simp) _, HBE.out.setCell (by simp) _⟩
    · have hd' : decide (Date.dby (y + 1) ≤ sec / 86400) = false := decide_eq_false hd
      have hd2 : sec / 86400 < Date.dby (y + 1) := by omega
      have HD := hid hd2
      clear hd hd2
      have hz1 := HBE.out.size
      go_wp2_with (first | (go_at_call 20; refine (before_any _ _ (by omega) (by omega)).mono ?_; rintro e w1 ⟨rfl, rfl⟩))
      go_loopg [4] 12 (fun gk v4 w2 => ∃ m : Int, 1 ≤ m ∧ m ≤ 12 ∧ 0 ≤ sec / 86400 - Date.dby y - Date.cum y m ∧ v4 = .int .i64 (sec / 86400 - Date.dby y - Date.cum y m) ∧ gk = (13 - m).toNat ∧ w2.heap[w.heap.size + 1]? = some (.cells #[.int .i64 (y), .int .i64 (m), .int .i64 (0), .int .i64 (sec % 86400 / 3600), .int .i64 (sec % 3600 / 60), .int .i64 (sec % 60), .int .i64 ((sec / 86400 + 6) % 7)] 24 (0, 0)) ∧ w2.heap[w.heap.size]? = some (.cells #[.int .i64 0, .int .i64 0, .int .i64 0, .int .i64 0, .int .i64 0, .int .i64 0, .int .i64 0] 24 (0, 0)) ∧ Below w.heap.size w w2)
      case atStart => exact ⟨1, by omega, by omega, by rw [Date.cum_1]; omega, by rw [Date.cum_1]; go_num, rfl, by simpa using block_set HB.out 1 (.int .i64 1), block_far HZ.out (by simp) _, HBE.out.setCell (by simp) _⟩
      case round =>
        obtain ⟨m, hm1, hm2, hm3, rfl, hgk2, hB2, hZ2, hbel2⟩ := hrel
        have c0 := cells_at hB2 0
        have c1 := cells_at hB2 1
        have f1 := free_at hB2 1
        have f2 := free_at hB2 2
        have HB2 := hid hB2
        have HZ2 := hid hZ2
        have HBE2 := hid hbel2
        have HGK2 := hid hgk2
        have hLr := HL.out.below hbel2 hg
        have HLR := hid hLr
        have hml := Date.mlen_rng y m
        have hcs := Date.cum_succ y m hm1 hm2
        have hcr := Date.cum_rng y m hm1 (by omega)
        have HCS := hid hcs
        clear hB2 hZ2 hbel2 hgk2 hLr hcs f0
        by_cases hk : Date.mlen y m ≤ sec / 86400 - Date.dby y - Date.cum y m
        · have hk' : decide (Date.mlen y m ≤ sec / 86400 - Date.dby y - Date.cum y m) = true := decide_eq_true hk
          have hm12 : m + 1 ≤ 12 := by
            rcases Int.lt_or_le m 12 with c | c
            · omega
            · have : m = 12 := by omega
              subst this
              have h13 : Date.cum y (12 + 1) = 365 + Date.lp y := Date.cum_13 y
              have := HCS.out
              have := HD.out
              have := HS2.out
              omega
          have HK := hid hk
          clear hk
          go_wp2_with (first | (go_at_call 21; refine (length_any _ _ _ HLR.out (by omega) (by omega) hm1 hm2).mono ?_; rintro e w1 ⟨rfl, rfl⟩))
          go_roundg (13 - (m + 1)).toNat
          case measure => have := HGK2.out; omega
          case rel => exact ⟨m + 1, by omega, hm12, by rw [HCS.out]; have := HK.out; omega, by rw [HCS.out]; go_num, rfl, by simpa using block_set HB2.out 1 (.int .i64 (m + 1)), block_far HZ2.out (by simp) _, HBE2.out.setCell (by simp) _⟩
        · have hk' : decide (Date.mlen y m ≤ sec / 86400 - Date.dby y - Date.cum y m) = false := decide_eq_false hk
          have HK := hid hk
          clear hk
          have hD : Date.IsDay (sec / 86400) y m (sec / 86400 - Date.dby y - Date.cum y m + 1) := ⟨hm1, hm2, by omega, by have := HK.out; omega, by omega⟩
          have HDD := hid hD
          clear hD
          have hz2 := HBE2.out.size
          have c2 := cells_at HB2.out 2
          have c3 := cells_at HB2.out 3
          have c4 := cells_at HB2.out 4
          have c5 := cells_at HB2.out 5
          have c6 := cells_at HB2.out 6
          have z0 := cells_at HZ2.out 0
          have z1 := cells_at HZ2.out 1
          have z2 := cells_at HZ2.out 2
          have z3 := cells_at HZ2.out 3
          have z4 := cells_at HZ2.out 4
          have z5 := cells_at HZ2.out 5
          have z6 := cells_at HZ2.out 6
          have y0 := free_at HZ2.out 0
          have y1 := free_at HZ2.out 1
          have y2 := free_at HZ2.out 2
          have y3 := free_at HZ2.out 3
          have y4 := free_at HZ2.out 4
          have y5 := free_at HZ2.out 5
          have y6 := free_at HZ2.out 6
          go_wp2_with (first | (go_at_call 21; refine (length_any _ _ _ HLR.out (by omega) (by omega) hm1 hm2).mono ?_; rintro e w1 ⟨rfl, rfl⟩))
          have q8 := HBE2.out.setCell (p := ⟨w.heap.size + 1, 2, none⟩) (by simp) (.int .i64 (sec / 86400 - Date.dby y - Date.cum y m + 1))
          refine bodyPost_ret (v := .tuple #[.agg (time7 y m (sec / 86400 - Date.dby y - Date.cum y m + 1) (sec % 86400 / 3600) (sec % 3600 / 60) (sec % 60) ((sec / 86400 + 6) % 7)), .int .i64 0]) (by simp [results, Tryd.results10, go_sem, time7, z0, z1, z2, z3, z4, z5, z6]) rfl ⟨y, m, _, HDD.out, rfl, ?_⟩
          exact ((((((q8.setCell (by simp) _).setCell (by simp) _).setCell (by simp) _).setCell (by simp) _).setCell (by simp) _).setCell (by simp) _).setCell (by simp) _

end Go.Proofs.YtcfkmckdjappbaaDoor
