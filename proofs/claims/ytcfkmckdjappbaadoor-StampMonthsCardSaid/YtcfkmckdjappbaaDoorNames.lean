/-
  The months' and the weekdays' names; the header's date.
-/
import Derived.Test.YtcfkmckdjappbaaDoorClock
import Derived.IntWalk
namespace Go.Proofs.YtcfkmckdjappbaaDoor
open Go.RowKit Own
set_option linter.unusedVariables false
set_option linter.unusedSimpArgs false

abbrev monLit : ByteArray := { data := #[74, 97, 110, 70, 101, 98, 77, 97, 114, 65, 112, 114, 77, 97, 121, 74, 117, 110, 74, 117, 108, 65, 117, 103, 83, 101, 112, 79, 99, 116, 78, 111, 118, 68, 101, 99] }
abbrev wdLit : ByteArray := { data := #[83, 117, 110, 77, 111, 110, 84, 117, 101, 87, 101, 100, 84, 104, 117, 70, 114, 105, 83, 97, 116] }
abbrev monB (m : Int) : ByteArray := monLit.extract (3 * m - 3).toNat (3 * m).toNat
abbrev wdB (d : Int) : ByteArray := wdLit.extract (3 * d).toNat (3 * d + 3).toNat

theorem monB_size (m : Int) (h : 1 ≤ m ∧ m ≤ 12) : (monB m).size = 3 := by
  have : m = 1 ∨ m = 2 ∨ m = 3 ∨ m = 4 ∨ m = 5 ∨ m = 6 ∨ m = 7 ∨ m = 8 ∨ m = 9 ∨ m = 10 ∨ m = 11 ∨ m = 12 := by omega
  rcases this with rfl | rfl | rfl | rfl | rfl | rfl | rfl | rfl | rfl | rfl | rfl | rfl <;> decide
theorem wdB_size (d : Int) (h : 0 ≤ d ∧ d < 7) : (wdB d).size = 3 := by
  have : d = 0 ∨ d = 1 ∨ d = 2 ∨ d = 3 ∨ d = 4 ∨ d = 5 ∨ d = 6 := by omega
  rcases this with rfl | rfl | rfl | rfl | rfl | rfl | rfl <;> decide

theorem month_any (m : Int) (w : World) (h : 1 ≤ m ∧ m ≤ 12) :
    Calls Tryd.prog 27 #[.int .i64 m] w fun e w' => e = .returned (.string (monB m)) ∧ w = w' := by
  go_enter Tryd.func27, Tryd.ntmps27
  go_wp2
  go_ret
  exact ⟨rfl, rfl⟩
theorem weekday_any (d : Int) (w : World) (h : 0 ≤ d ∧ d < 7) :
    Calls Tryd.prog 25 #[.int .i64 d] w fun e w' => e = .returned (.string (wdB d)) ∧ w = w' := by
  go_enter Tryd.func25, Tryd.ntmps25
  go_wp2
  go_ret
  exact ⟨rfl, rfl⟩

theorem clockL_len (h mi s : Int) : (clockL h mi s).length = 14 := by simp [clockL, Text.lastL_len]

/-- The header's text of a date and time. -/
def hdB (y m d h mi s wd : Int) : ByteArray := wdB wd ++ { data := #[44, 32] } ++ str (Text.lastL 2 d.toNat) ++ { data := #[32] } ++ monB m ++ { data := #[32] } ++ str (Text.lastL 4 y.toNat) ++ { data := #[32] } ++ str (clockL h mi s)

attribute [local go_sem] str_size Text.lastL_len ByteArray.size_append clockL_len

/-- The header's line, or none. -/
def HeaderPost (sec : Int) (w : World) (e : Ending) (w' : World) : Prop :=
  ∃ y m d : Int, Date.IsDay (sec / 86400) y m d ∧ e = .returned (.string (hdB y m d (sec % 86400 / 3600) (sec % 3600 / 60) (sec % 60) ((sec / 86400 + 6) % 7))) ∧ Below w.heap.size w w'

theorem header_bad (sec : Int) (w : World) (h : sec < 0 ∨ 4294967296 ≤ sec) :
    Calls Tryd.prog 12 #[.int .i64 sec] w fun e w' => e = .returned (.string (str [])) ∧ Below w.heap.size w w' := by
  go_enter Tryd.func12, Tryd.ntmps12
  go_wp2_with (first | (go_at_call 10; refine (of_bad _ _ h).mono ?_; rintro e w1 ⟨rfl, hb⟩; simp only [time7]))
  go_ret
  exact ⟨rfl, hb.alloc hb.size _⟩

theorem header_ok (sec : Int) (w : World) (hL : Lens w) (hg : 0 < w.heap.size) (h0 : 0 ≤ sec) (h1 : sec < 4294967296) :
    Calls Tryd.prog 12 #[.int .i64 sec] w (HeaderPost sec w) := by
  go_enter Tryd.func12, Tryd.ntmps12
  go_upto_region 2 with (first | (go_at_call 10; refine (of_ok _ _ hL hg h0 h1).mono ?_; rintro e w1 ⟨y, m, d, hD, rfl, hb⟩; simp only [time7]))
  obtain ⟨hm1, hm2, hd1, hd2, -⟩ := id hD
  have hr := hD.rng (by omega) (by omega)
  have hml := Date.mlen_rng y m
  have sM := monB_size m ⟨hm1, hm2⟩
  have sW := wdB_size ((sec / 86400 + 6) % 7) (by omega)
  obtain ⟨wd, hwd⟩ : ∃ wd, wd = (sec / 86400 + 6) % 7 := ⟨_, rfl⟩
  obtain ⟨ho, hho⟩ : ∃ ho, ho = sec % 86400 / 3600 := ⟨_, rfl⟩
  obtain ⟨mi, hmi⟩ : ∃ mi, mi = sec % 3600 / 60 := ⟨_, rfl⟩
  obtain ⟨se, hse⟩ : ∃ se, se = sec % 60 := ⟨_, rfl⟩
  have hwdr : 0 ≤ wd ∧ wd < 7 := by omega
  have hhor : 0 ≤ ho ∧ ho < 24 := by omega
  have hmir : 0 ≤ mi ∧ mi < 60 := by omega
  have hser : 0 ≤ se ∧ se < 60 := by omega
  rw [← hwd] at sW
  rw [← hwd, ← hho, ← hmi, ← hse]
  have HE := hid (And.intro hwd (And.intro hho (And.intro hmi hse)))
  clear hwd hho hmi hse
  have hB := heap_alloc_new w1 (.cells #[.int .i64 y, .int .i64 m, .int .i64 d, .int .i64 ho, .int .i64 mi, .int .i64 se, .int .i64 wd] 24 (0, 0))
  have hz := hb.size
  obtain ⟨ma, hma⟩ : ∃ ma, ma = 3 * m - 3 := ⟨_, rfl⟩
  obtain ⟨mb, hmb⟩ : ∃ mb, mb = 3 * m := ⟨_, rfl⟩
  obtain ⟨wa, hwa⟩ : ∃ wa, wa = 3 * wd := ⟨_, rfl⟩
  obtain ⟨wb, hwb⟩ : ∃ wb, wb = 3 * wd + 3 := ⟨_, rfl⟩
  unfold monB at sM
  unfold wdB at sW
  rw [← hma, ← hmb] at sM
  rw [← hwb, ← hwa] at sW
  have b1 : 0 ≤ wa := by omega
  have b2 : wa ≤ wb := by omega
  have b3 : wb ≤ 21 := by omega
  have b4 : 0 ≤ ma := by omega
  have b5 : ma ≤ mb := by omega
  have b6 : mb ≤ 36 := by omega
  have d0 : 0 ≤ d := by omega
  have d9 : d ≤ 9223372036854775807 := by omega
  have y0 : 0 ≤ y := by omega
  have y9 : y ≤ 9223372036854775807 := by omega
  have x1 : IntKind.i64.wrap (3 * wd) = wa := by rw [hwa]; exact IntWalk.i64_in _ (by omega)
  have x2 : IntKind.i64.wrap (wa + 3) = wb := by rw [hwb, hwa]; exact IntWalk.i64_in _ (by omega)
  have x3 : IntKind.i64.wrap (3 * m) = mb := by rw [hmb]; exact IntWalk.i64_in _ (by omega)
  have x4 : IntKind.i64.wrap (mb - 3) = ma := by rw [hmb, hma]; exact IntWalk.i64_in _ (by omega)
  have HX := hid (And.intro hma (And.intro hmb (And.intro hwa hwb)))
  clear hma hmb hwa hwb
  go_wp2_with fail
  go_region_held3 (fun w' => w'.cell? ⟨w1.heap.size, 0, none⟩ = some (.int .i64 y) ∧ w'.cell? ⟨w1.heap.size, 1, none⟩ = some (.int .i64 m) ∧ w'.cell? ⟨w1.heap.size, 2, none⟩ = some (.int .i64 d) ∧ w'.cell? ⟨w1.heap.size, 3, none⟩ = some (.int .i64 ho) ∧ w'.cell? ⟨w1.heap.size, 4, none⟩ = some (.int .i64 mi) ∧ w'.cell? ⟨w1.heap.size, 5, none⟩ = some (.int .i64 se) ∧ w'.cell? ⟨w1.heap.size, 6, none⟩ = some (.int .i64 wd))
    (first
      | go_keep
      | (go_split_ands; exact ⟨keep_below hb2 rfl (by assumption), keep_below hb2 rfl (by assumption), keep_below hb2 rfl (by assumption), keep_below hb2 rfl (by assumption), keep_below hb2 rfl (by assumption), keep_below hb2 rfl (by assumption), keep_below hb2 rfl (by assumption)⟩))
    (first
      | (go_at_call 23; refine (wide_i _ _ _ ?_ ?_ (by decide) (by decide)).mono ?_; (assumption); (assumption); rintro e w2 ⟨rfl, hb2⟩)
      | (go_at_call 24; refine (clock_any _ _ _ _ _ _ _ _ ?_ ?_ ?_).mono ?_; (assumption); (assumption); (assumption); rintro e w2 ⟨rfl, hb2⟩))
  go_wp2
  go_ret
  rename_i a hb3 b hb4 c
  obtain ⟨rfl, rfl, rfl, rfl⟩ := HX.out
  obtain ⟨rfl, rfl, rfl, rfl⟩ := HE.out
  exact ⟨y, m, d, hD, rfl, below_then hb (below_then (below_then (below_made hb3) hb4) hb2)⟩

end Go.Proofs.YtcfkmckdjappbaaDoor
