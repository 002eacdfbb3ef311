/-
  The reference's text of a moment for a mailbox.
-/
import Derived.Test.YtcfkmckdjappbaaDoorInner
namespace Go.Proofs.YtcfkmckdjappbaaDoor
open Go.RowKit Own
set_option linter.unusedVariables false
set_option linter.unusedSimpArgs false
attribute [local go_sem] str_size Text.lastL_len ByteArray.size_append clockL_len dayL_len

theorem rinternal_bad (sec : Int) (w : World) (h : sec < 0 ∨ 4294967296 ≤ sec) :
    Calls Tryd.prog 15 #[.int .i64 sec] w fun e w' => e = .returned (.string (str [])) ∧ Below w.heap.size w w' := by
  go_enter Tryd.func15, Tryd.ntmps15
  go_wp2_with (first | (go_at_call 11; refine (rof_bad _ _ h).mono ?_; rintro e w1 ⟨rfl, hb⟩; simp only [time7]))
  go_ret
  exact ⟨rfl, hb.alloc hb.size _⟩

theorem rinternal_ok (sec : Int) (w : World) (h0 : 0 ≤ sec) (h1 : sec < 4294967296) :
    Calls Tryd.prog 15 #[.int .i64 sec] w (InternalPost sec w) := by
  go_enter Tryd.func15, Tryd.ntmps15
  go_upto_region 2 with (first | (go_at_call 11; refine (rof_ok _ _ h0 h1).mono ?_; rintro e w1 ⟨y, m, d, hD, rfl, hb⟩; simp only [time7]))
  obtain ⟨hm1, hm2, hd1, hd2, -⟩ := id hD
  have hr := hD.rng (by omega) (by omega)
  have hml := Date.mlen_rng y m
  obtain ⟨n, hdn⟩ : ∃ n : Nat, d = n := ⟨d.toNat, by omega⟩
  subst hdn
  have sM := monB_size m ⟨hm1, hm2⟩
  obtain ⟨wd, hwd⟩ : ∃ wd, wd = (sec / 86400 + 6) % 7 := ⟨_, rfl⟩
  obtain ⟨ho, hho⟩ : ∃ ho, ho = sec % 86400 / 3600 := ⟨_, rfl⟩
  obtain ⟨mi, hmi⟩ : ∃ mi, mi = sec % 3600 / 60 := ⟨_, rfl⟩
  obtain ⟨se, hse⟩ : ∃ se, se = sec % 60 := ⟨_, rfl⟩
  have hwdr : 0 ≤ wd ∧ wd < 7 := by omega
  have hhor : 0 ≤ ho ∧ ho < 24 := by omega
  have hmir : 0 ≤ mi ∧ mi < 60 := by omega
  have hser : 0 ≤ se ∧ se < 60 := by omega
  rw [← hwd, ← hho, ← hmi, ← hse]
  have HE := hid (And.intro hwd (And.intro hho (And.intro hmi hse)))
  clear hwd hho hmi hse
  have hB := heap_alloc_new w1 (.cells #[.int .i64 y, .int .i64 m, .int .i64 n, .int .i64 ho, .int .i64 mi, .int .i64 se, .int .i64 wd] 24 (0, 0))
  have hz := hb.size
  have hmr : 1 ≤ m ∧ m ≤ 12 := ⟨hm1, hm2⟩
  have y4 : y.toNat < 10 ^ (4 : Int).toNat := by simp; omega
  have d0 : (0 : Int) ≤ n := by omega
  have d9 : (n : Int) ≤ 9223372036854775807 := by omega
  have y0 : 0 ≤ y := by omega
  have y9 : y ≤ 9223372036854775807 := by omega
  go_upto_if 18 with (first | (go_at_call 29; refine (digits_any n _ (by omega)).mono ?_; rintro e w3 ⟨rfl, hb3⟩; have q2' := keep_below (v := .int .i64 n) hb3 rfl (cells_at hB 2)))
  go_cut [5] (fun v5 wx => v5 = .string (str (dayL n)) ∧ w3 = wx)
  case first =>
    by_cases hd : (n : Int) < 10
    · have hc : decide ((n : Int) < 10) = true := decide_eq_true hd
      have hday : dayL n = [32, Text.dg n] := by unfold dayL; rw [if_pos hd, Int.toNat_natCast]
      have hdg := Text.digs_small (n := n) (by omega)
      have hs1 : (str (Text.digs n)).size = 1 := by rw [hdg]; rfl
      go_wp2
      go_meet
      case rel => exact ⟨by rw [hday]; exact congrArg Value.string (str_append [32] [Text.dg n]), rfl⟩
    · have hc : decide ((n : Int) < 10) = false := decide_eq_false hd
      have hday : dayL n = Text.digs n := by
        unfold dayL
        rw [if_neg hd, Int.toNat_natCast, Text.digs_big (by omega), Text.digs_small (by omega)]
        simp [Text.lastL]
      go_wp2
      go_meet
      case rel => exact ⟨by rw [hday], rfl⟩
  case rest =>
  obtain ⟨rfl, rfl⟩ := hcut
  have hB3 : w3.heap[w1.heap.size]? = some (.cells #[.int .i64 y, .int .i64 m, .int .i64 n, .int .i64 ho, .int .i64 mi, .int .i64 se, .int .i64 wd] 24 (0, 0)) := (hb3.block _ (by simp)).trans hB
  have q0 := cells_at hB3 0
  have q1 := cells_at hB3 1
  have q2 := cells_at hB3 2
  have q3 := cells_at hB3 3
  have q4 := cells_at hB3 4
  have q5 := cells_at hB3 5
  have q6 := cells_at hB3 6
  have HL3 := hid (below_then hb (below_then ((Below.refl _ _).alloc (Nat.le_refl _) _) hb3))
  clear hB hB3 hb3 hb hz
  have sD : (str (dayL n)).size = 2 := by rw [str_size, dayL_len]
  go_wp2_with fail
  go_region_held3 (fun w' => w'.cell? ⟨w1.heap.size, 0, none⟩ = some (.int .i64 y) ∧ w'.cell? ⟨w1.heap.size, 1, none⟩ = some (.int .i64 m) ∧ w'.cell? ⟨w1.heap.size, 2, none⟩ = some (.int .i64 n) ∧ w'.cell? ⟨w1.heap.size, 3, none⟩ = some (.int .i64 ho) ∧ w'.cell? ⟨w1.heap.size, 4, none⟩ = some (.int .i64 mi) ∧ w'.cell? ⟨w1.heap.size, 5, none⟩ = some (.int .i64 se) ∧ w'.cell? ⟨w1.heap.size, 6, none⟩ = some (.int .i64 wd))
    (first
      | go_keep
      | (go_split_ands; exact ⟨keep_below hb2 rfl (by assumption), keep_below hb2 rfl (by assumption), keep_below hb2 rfl (by assumption), keep_below hb2 rfl (by assumption), keep_below hb2 rfl (by assumption), keep_below hb2 rfl (by assumption), keep_below hb2 rfl (by assumption)⟩))
    (first
      | (go_at_call 26; refine (rwide_i _ _ _ ?_ (by decide) (by decide) ?_).mono ?_; (assumption); (assumption); rintro e w2 ⟨rfl, hb2⟩)
      | (go_at_call 28; refine (rclock_any _ _ _ _ _ _ _ _ ?_ ?_ ?_).mono ?_; (assumption); (assumption); (assumption); rintro e w2 ⟨rfl, hb2⟩)
      | (go_at_call 27; refine (month_any _ _ ?_).mono ?_; (assumption); rintro e w2 ⟨rfl, rfl⟩))
  go_wp2
  go_ret
  rename_i a hb4 c
  obtain ⟨rfl, rfl, rfl, rfl⟩ := HE.out
  exact ⟨y, m, n, hD, rfl, below_then (below_then HL3.out.drew hb4) hb2⟩

end Go.Proofs.YtcfkmckdjappbaaDoor
