/-
  The reference's header of a moment.
-/
import Derived.Test.YtcfkmckdjappbaaDoorNames
namespace Go.Proofs.YtcfkmckdjappbaaDoor
open Go.RowKit Own
set_option linter.unusedVariables false
set_option linter.unusedSimpArgs false
attribute [local go_sem] str_size Text.lastL_len ByteArray.size_append clockL_len

theorem rheader_bad (sec : Int) (w : World) (h : sec < 0 ∨ 4294967296 ≤ sec) :
    Calls Tryd.prog 13 #[.int .i64 sec] w fun e w' => e = .returned (.string (str [])) ∧ Below w.heap.size w w' := by
  go_enter Tryd.func13, Tryd.ntmps13
  go_wp2_with (first | (go_at_call 11; refine (rof_bad _ _ h).mono ?_; rintro e w1 ⟨rfl, hb⟩; simp only [time7]))
  go_ret
  exact ⟨rfl, hb.alloc hb.size _⟩

theorem rheader_ok (sec : Int) (w : World) (h0 : 0 ≤ sec) (h1 : sec < 4294967296) :
    Calls Tryd.prog 13 #[.int .i64 sec] w (HeaderPost sec w) := by
  go_enter Tryd.func13, Tryd.ntmps13
  go_upto_region 2 with (first | (go_at_call 11; refine (rof_ok _ _ h0 h1).mono ?_; rintro e w1 ⟨y, m, d, hD, rfl, hb⟩; simp only [time7]))
  obtain ⟨hm1, hm2, hd1, hd2, -⟩ := id hD
  have hr := hD.rng (by omega) (by omega)
  have hml := Date.mlen_rng y m
  have sM := monB_size m ⟨hm1, hm2⟩
  have sW := wdB_size ((sec / 86400 + 6) % 7) (by omega)
  obtain ⟨wd, hwd⟩ : ∃ wd, wd = (sec / 86400 + 6) % 7 := ⟨_, rfl⟩
  obtain ⟨ho, hho⟩ : ∃ ho, ho = sec % 86400 / 3600 := ⟨_, rfl⟩
  obtain ⟨mi, hmi⟩ : ∃ mi, mi = sec % 3600 / 60 := ⟨_, rfl⟩
  obtain ⟨se, hse⟩ : ∃ se, se = sec % 60 := ⟨_, rfl⟩
  have hwdr : 0 ≤ wd ∧ wd < 7 := by omega
  have hhor : 0 ≤ ho ∧ ho < 24 := by omega
  have hmir : 0 ≤ mi ∧ mi < 60 := by omega
  have hser : 0 ≤ se ∧ se < 60 := by omega
  rw [← hwd] at sW
  rw [← hwd, ← hho, ← hmi, ← hse]
  have HE := hid (And.intro hwd (And.intro hho (And.intro hmi hse)))
  clear hwd hho hmi hse
  have hB := heap_alloc_new w1 (.cells #[.int .i64 y, .int .i64 m, .int .i64 d, .int .i64 ho, .int .i64 mi, .int .i64 se, .int .i64 wd] 24 (0, 0))
  have hz := hb.size
  have hmr : 1 ≤ m ∧ m ≤ 12 := ⟨hm1, hm2⟩
  have y4 : y.toNat < 10 ^ (4 : Int).toNat := by simp; omega
  have d2 : d.toNat < 10 ^ (2 : Int).toNat := by simp; omega
  have d0 : 0 ≤ d := by omega
  have d9 : d ≤ 9223372036854775807 := by omega
  have y0 : 0 ≤ y := by omega
  have y9 : y ≤ 9223372036854775807 := by omega
  go_wp2_with fail
  go_region_held3 (fun w' => w'.cell? ⟨w1.heap.size, 0, none⟩ = some (.int .i64 y) ∧ w'.cell? ⟨w1.heap.size, 1, none⟩ = some (.int .i64 m) ∧ w'.cell? ⟨w1.heap.size, 2, none⟩ = some (.int .i64 d) ∧ w'.cell? ⟨w1.heap.size, 3, none⟩ = some (.int .i64 ho) ∧ w'.cell? ⟨w1.heap.size, 4, none⟩ = some (.int .i64 mi) ∧ w'.cell? ⟨w1.heap.size, 5, none⟩ = some (.int .i64 se) ∧ w'.cell? ⟨w1.heap.size, 6, none⟩ = some (.int .i64 wd))
    (first
      | go_keep
      | (go_split_ands; exact ⟨keep_below hb2 rfl (by assumption), keep_below hb2 rfl (by assumption), keep_below hb2 rfl (by assumption), keep_below hb2 rfl (by assumption), keep_below hb2 rfl (by assumption), keep_below hb2 rfl (by assumption), keep_below hb2 rfl (by assumption)⟩))
    (first
      | (go_at_call 26; refine (rwide_i _ _ _ ?_ (by decide) (by decide) ?_).mono ?_; (assumption); (assumption); rintro e w2 ⟨rfl, hb2⟩)
      | (go_at_call 28; refine (rclock_any _ _ _ _ _ _ _ _ ?_ ?_ ?_).mono ?_; (assumption); (assumption); (assumption); rintro e w2 ⟨rfl, hb2⟩)
      | (go_at_call 27; refine (month_any _ _ ?_).mono ?_; (assumption); rintro e w2 ⟨rfl, rfl⟩)
      | (go_at_call 25; refine (weekday_any _ _ ?_).mono ?_; (assumption); rintro e w2 ⟨rfl, rfl⟩))
  go_wp2
  go_ret
  rename_i a hb3 b hb4 c
  obtain ⟨rfl, rfl, rfl, rfl⟩ := HE.out
  exact ⟨y, m, d, hD, rfl, below_then hb (below_then (below_then (below_made hb3) hb4) hb2)⟩

end Go.Proofs.YtcfkmckdjappbaaDoor
