/-
  The seconds of a date and time that there is: the program's.
-/
import Derived.Test.YtcfkmckdjappbaaDoorSecs
namespace Go.Proofs.YtcfkmckdjappbaaDoor
open Go.RowKit Own
set_option linter.unusedVariables false
set_option linter.unusedSimpArgs false

set_option maxHeartbeats 4000000 in
theorem seconds_ok (y m d h mi s wd : Int) (w : World) (hL : Lens w) (hg : 0 < w.heap.size) (hv : Valid y m d h mi s) :
    Calls Tryd.prog 33 #[.agg (time7 y m d h mi s wd)] w fun e w' => e = .returned (.tuple #[.int .i64 (secsOf y m d h mi s), .bool true]) ∧ Below w.heap.size w w' := by
  unfold time7
  have fin : ∀ (o : Obj) n, Below w.heap.size w ((w.alloc o).drewN n) := fun o n => below_drewN ((Below.refl _ _).alloc (Nat.le_refl _) o) n
  have hLA : ∀ (o : Obj) n, Lens ((w.alloc o).drewN n) := fun o n => hL.below (fin o n) hg
  have hblk : ∀ (o : Obj) n, ((w.alloc o).drewN n).heap[w.heap.size]? = some o := fun o n => heap_alloc_new w o
  obtain ⟨v0, v1, v2, v3, v4, v5, v6, v7, v8, v9, v10, v11⟩ := hv
  have e0 : (decide (1999 ≤ y) && decide (y ≤ 2137)) = true := by simp; omega
  have e1 : (decide (1 ≤ m) && decide (m ≤ 12)) = true := by simp; omega
  have e2 : (decide (1 ≤ d) && decide (d ≤ Date.mlen y m)) = true := by simp; omega
  have e3 : (decide (0 ≤ h) && decide (h ≤ 23)) = true := by simp; omega
  have e4 : (decide (0 ≤ mi) && decide (mi ≤ 59)) = true := by simp; omega
  have e5 : (decide (0 ≤ s) && decide (s ≤ 59)) = true := by simp; omega
  have hml := Date.mlen_rng y m
  have hdb1 := Date.dby_mono (show 1999 ≤ y by omega)
  have hdb2 := Date.dby_mono (show y ≤ 2137 by omega)
  rw [show Date.dby 1999 = -365 by decide] at hdb1
  rw [show Date.dby 2137 = 50039 by decide] at hdb2
  have yr : 0 ≤ y ∧ y ≤ 100000 := by omega
  have yr1 : 1 ≤ y ∧ y ≤ 100000 := by omega
  have mr : 1 ≤ m ∧ m ≤ 12 := by omega
  have x1 : IntKind.i64.wrap (Date.dby y + d) = Date.dby y + d := IntWalk.i64_in _ (by omega)
  have x2 : IntKind.i64.wrap (Date.dby y + d - 1) = Date.dby y + d - 1 := IntWalk.i64_in _ (by omega)
  go_enter Tryd.func33, Tryd.ntmps33
  go_upto_region 2 with fail
  go_cut [51] (fun v51 wx => v51 = .bool false ∧ wx.heap[w.heap.size]? = some (.cells #[.int .i64 y, .int .i64 m, .int .i64 d, .int .i64 h, .int .i64 mi, .int .i64 s, .int .i64 wd] 24 (0, 0)) ∧ Below w.heap.size w wx)
  case first =>
    go_quiet (first
      | (go_at_call 41; exact Calls.quiet_of_same ((in_any _ _ _ _).mono fun _ _ ⟨he, hw⟩ => ⟨he, hw.symm⟩))
      | (go_at_call 21; exact Calls.quiet_of_same ((length_any _ _ _ (hLA _ _) yr.1 yr.2 mr.1 mr.2).mono fun _ _ ⟨he, hw⟩ => ⟨he, hw.symm⟩)))
    go_wp2
    go_meet
    case rel => exact ⟨rfl, hblk _ _, fin _ _⟩
  case rest =>
  clear e0 e1 e2 e3 e4 e5 fin hLA hblk
  obtain ⟨rfl, hb2, hbl2⟩ := hcut
  obtain ⟨w2, hw2⟩ : ∃ w2 : World, w2 = wc := ⟨_, rfl⟩
  rw [← hw2] at hb2 hbl2
  rw [← hw2]
  clear hw2
  have z0 := cells_at hb2 0
  have z2 := cells_at hb2 2
  have HB2 := hid hb2
  have HBL2 := hid hbl2
  clear hb2 hbl2
  go_upto_region 4 with fail
  go_cut [5] (fun v5 wx => v5 = .int .i64 (Date.dby y + d - 1) ∧ wx.heap[w.heap.size]? = some (.cells #[.int .i64 y, .int .i64 m, .int .i64 d, .int .i64 h, .int .i64 mi, .int .i64 s, .int .i64 wd] 24 (0, 0)) ∧ Below w.heap.size w wx)
  case first =>
    go_quiet ((go_at_call 20; exact Calls.quiet_of_same ((before_any _ _ yr1.1 yr1.2).mono fun _ _ ⟨he, hw⟩ => ⟨he, hw.symm⟩)))
    go_step
    go_step
    go_meet
    case rel => exact ⟨rfl, HB2.out, below_drewN HBL2.out _⟩
  case rest =>
  obtain ⟨rfl, hb3, hbl3⟩ := hcut
  obtain ⟨w3, hw3⟩ : ∃ w3 : World, w3 = wc := ⟨_, rfl⟩
  rw [← hw3] at hb3 hbl3
  rw [← hw3]
  clear hw3
  have HB3 := hid hb3
  have HBL3 := hid hbl3
  clear hb3 hbl3 x1 x2 z0 z2
  go_wp2_with fail
  go_loopw [5, 6] (fun v5 v6 wr => ∃ k : Int, 1 ≤ k ∧ k ≤ m ∧ v5 = .int .i64 (Date.dby y + d - 1 + Date.cum y k) ∧ v6 = .int .i64 k ∧ wr.heap[w.heap.size]? = some (.cells #[.int .i64 y, .int .i64 m, .int .i64 d, .int .i64 h, .int .i64 mi, .int .i64 s, .int .i64 wd] 24 (0, 0)) ∧ Below w.heap.size w wr) (fun _ v6 _ => (m - intOf v6).toNat)
  case atStart => exact ⟨1, by omega, mr.1, by rw [Date.cum_1]; go_num, rfl, HB3.out, HBL3.out⟩
  case round =>
    obtain ⟨k, hk1, hk2, rfl, rfl, hB, hbel⟩ := hrel
    have c0 := cells_at hB 0
    have c1 := cells_at hB 1
    have c3 := cells_at hB 3
    have c4 := cells_at hB 4
    have c5 := cells_at hB 5
    have hLr := hL.below hbel hg
    have HB := hid hB
    have HBE := hid hbel
    have HLR := hid hLr
    have hcr := Date.cum_rng y k hk1 (by omega)
    have hcs := Date.cum_succ y k hk1 (by omega)
    have hmk := Date.mlen_rng y k
    have HCS := hid hcs
    clear hB hbel hLr hcs
    by_cases hkm : k < m
    · have t1 : decide (k < m) = true := decide_eq_true hkm
      have HK := hid hkm
      clear hkm
      go_wp2_with (first | (go_at_call 21; refine (length_any _ _ _ HLR.out yr.1 yr.2 hk1 (by omega)).mono ?_; rintro e w1 ⟨rfl, rfl⟩))
      go_roundw
      case rel => exact ⟨k + 1, by omega, by have := HK.out; omega, by rw [HCS.out]; go_num, rfl, HB.out, HBE.out⟩
      case measure => have := HK.out; simp [intOf]; omega
    · have t1 : decide (k < m) = false := decide_eq_false hkm
      have hkm' : k = m := by omega
      clear hkm
      subst hkm'
      go_wp2
      exact bodyPost_ret (v := .tuple #[.int .i64 (secsOf y k d h mi s), .bool true]) (by simp [results, Tryd.results33, go_sem, secsOf]) rfl ⟨rfl, HBE.out⟩

end Go.Proofs.YtcfkmckdjappbaaDoor
