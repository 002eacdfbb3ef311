/-
  The program's text of a moment for a mailbox.
-/
import Derived.Test.YtcfkmckdjappbaaDoorRHead
import Derived.Deep.DeepCutAuto
import Derived.Deep.CutBlock
namespace Go.Proofs.YtcfkmckdjappbaaDoor
open Go.RowKit Own
set_option linter.unusedVariables false
set_option linter.unusedSimpArgs false

/-- The day's two signs. -/
def dayL (d : Int) : List UInt8 := if d < 10 then [32, Text.dg d.toNat] else Text.lastL 2 d.toNat
theorem dayL_len (d : Int) : (dayL d).length = 2 := by unfold dayL; split <;> simp [Text.lastL_len]

attribute [local go_sem] str_size Text.lastL_len ByteArray.size_append clockL_len dayL_len

/-- The mailbox's text of a date and time. -/
def inB (y m d h mi s : Int) : ByteArray := str (dayL d) ++ { data := #[45] } ++ monB m ++ { data := #[45] } ++ str (Text.lastL 4 y.toNat) ++ { data := #[32] } ++ str (clockL h mi s)

def InternalPost (sec : Int) (w : World) (e : Ending) (w' : World) : Prop :=
  ∃ y m d : Int, Date.IsDay (sec / 86400) y m d ∧ e = .returned (.string (inB y m d (sec % 86400 / 3600) (sec % 3600 / 60) (sec % 60))) ∧ Below w.heap.size w w'

theorem internal_bad (sec : Int) (w : World) (h : sec < 0 ∨ 4294967296 ≤ sec) :
    Calls Tryd.prog 14 #[.int .i64 sec] w fun e w' => e = .returned (.string (str [])) ∧ Below w.heap.size w w' := by
  go_enter Tryd.func14, Tryd.ntmps14
  go_wp2_with (first | (go_at_call 10; refine (of_bad _ _ h).mono ?_; rintro e w1 ⟨rfl, hb⟩; simp only [time7]))
  go_ret
  exact ⟨rfl, hb.alloc hb.size _⟩

theorem internal_ok (sec : Int) (w : World) (hL : Lens w) (hg : 0 < w.heap.size) (h0 : 0 ≤ sec) (h1 : sec < 4294967296) :
    Calls Tryd.prog 14 #[.int .i64 sec] w (InternalPost sec w) := by
  go_enter Tryd.func14, Tryd.ntmps14
  go_upto_region 2 with (first | (go_at_call 10; refine (of_ok _ _ hL hg h0 h1).mono ?_; rintro e w1 ⟨y, m, d, hD, rfl, hb⟩; simp only [time7]))
  obtain ⟨hm1, hm2, hd1, hd2, -⟩ := id hD
  have hr := hD.rng (by omega) (by omega)
  have hml := Date.mlen_rng y m
  have sM := monB_size m ⟨hm1, hm2⟩
  obtain ⟨wd, hwd⟩ : ∃ wd, wd = (sec / 86400 + 6) % 7 := ⟨_, rfl⟩
  obtain ⟨ho, hho⟩ : ∃ ho, ho = sec % 86400 / 3600 := ⟨_, rfl⟩
  obtain ⟨mi, hmi⟩ : ∃ mi, mi = sec % 3600 / 60 := ⟨_, rfl⟩
  obtain ⟨se, hse⟩ : ∃ se, se = sec % 60 := ⟨_, rfl⟩
  have hwdr : 0 ≤ wd ∧ wd < 7 := by omega
  have hhor : 0 ≤ ho ∧ ho < 24 := by omega
  have hmir : 0 ≤ mi ∧ mi < 60 := by omega
  have hser : 0 ≤ se ∧ se < 60 := by omega
  rw [← hwd, ← hho, ← hmi, ← hse]
  have HE := hid (And.intro hwd (And.intro hho (And.intro hmi hse)))
  clear hwd hho hmi hse
  have hB := heap_alloc_new w1 (.cells #[.int .i64 y, .int .i64 m, .int .i64 d, .int .i64 ho, .int .i64 mi, .int .i64 se, .int .i64 wd] 24 (0, 0))
  have hz := hb.size
  obtain ⟨ma, hma⟩ : ∃ ma, ma = 3 * m - 3 := ⟨_, rfl⟩
  obtain ⟨mb, hmb⟩ : ∃ mb, mb = 3 * m := ⟨_, rfl⟩
  unfold monB at sM
  rw [← hma, ← hmb] at sM
  have b4 : 0 ≤ ma := by omega
  have b5 : ma ≤ mb := by omega
  have b6 : mb ≤ 36 := by omega
  have d0 : 0 ≤ d := by omega
  have d9 : d ≤ 9223372036854775807 := by omega
  have y0 : 0 ≤ y := by omega
  have y9 : y ≤ 9223372036854775807 := by omega
  have x3 : IntKind.i64.wrap (3 * m) = mb := by rw [hmb]; exact IntWalk.i64_in _ (by omega)
  have x4 : IntKind.i64.wrap (mb - 3) = ma := by rw [hmb, hma]; exact IntWalk.i64_in _ (by omega)
  have HX := hid (And.intro hma hmb)
  clear hma hmb
  obtain ⟨c1, hc1⟩ : ∃ c1 : UInt8, c1 = Text.dg (d.toNat / 10) := ⟨_, rfl⟩
  obtain ⟨c2, hc2⟩ : ∃ c2 : UInt8, c2 = Text.dg d.toNat := ⟨_, rfl⟩
  have hl2 : Text.lastL 2 d.toNat = [c1, c2] := by rw [hc1, hc2]; simp [Text.lastL]
  have HL2 := hid hl2
  clear hl2
  have HC := hid (And.intro hc1 hc2)
  clear hc1 hc2
  go_upto_if 18 with (first | (go_at_call 23; refine (wide_i _ _ _ d0 d9 (by decide) (by decide)).mono ?_; rintro e w3 ⟨rfl, hb3⟩; rw [show Text.lastL (2 : Int).toNat d.toNat = [c1, c2] from HL2.out]))
  go_cut [5] (fun v5 wx => v5 = .string (str (dayL d)) ∧ w3 = wx)
  case first =>
    have ix : ∀ h, ((str [c1, c2])[0]'h) = c1 := fun _ => rfl
    simp only [ix]
    by_cases hd : d < 10
    · have hc : ((c1.toNat : Int) == 48) = true := by rw [HC.out.1, Text.dg_nat]; simp; omega
      have hs1 : (str [c1, c2]).size = 2 := rfl
      have hday : dayL d = [32, c2] := by unfold dayL; rw [if_pos hd, HC.out.2]
      go_wp2
      go_meet
      case rel =>
        have ex : (str [c1, c2]).extract 1 2 = str [c2] := by
          apply ByteArray.ext
          simp [str, ByteArray.data_extract]
        exact ⟨by rw [hday, ex]; exact congrArg Value.string (str_append [32] [c2]), rfl⟩
    · have hc : ((c1.toNat : Int) == 48) = false := by rw [HC.out.1, Text.dg_nat]; simp; omega
      have hday : dayL d = [c1, c2] := by unfold dayL; rw [if_neg hd, HL2.out]
      go_wp2
      go_meet
      case rel => exact ⟨by rw [hday], rfl⟩
  case rest =>
  obtain ⟨rfl, rfl⟩ := hcut
  have hB3 : w3.heap[w1.heap.size]? = some (.cells #[.int .i64 y, .int .i64 m, .int .i64 d, .int .i64 ho, .int .i64 mi, .int .i64 se, .int .i64 wd] 24 (0, 0)) := (hb3.block _ (by simp)).trans hB
  have q0 := cells_at hB3 0
  have q1 := cells_at hB3 1
  have q2 := cells_at hB3 2
  have q3 := cells_at hB3 3
  have q4 := cells_at hB3 4
  have q5 := cells_at hB3 5
  have q6 := cells_at hB3 6
  have HL3 := hid (below_then hb (below_then ((Below.refl _ _).alloc (Nat.le_refl _) _) hb3))
  clear hB hB3 hb3 hb hz
  have sD : (str (dayL d)).size = 2 := by rw [str_size, dayL_len]
  go_wp2_with fail
  go_region_held3 (fun w' => w'.cell? ⟨w1.heap.size, 0, none⟩ = some (.int .i64 y) ∧ w'.cell? ⟨w1.heap.size, 1, none⟩ = some (.int .i64 m) ∧ w'.cell? ⟨w1.heap.size, 2, none⟩ = some (.int .i64 d) ∧ w'.cell? ⟨w1.heap.size, 3, none⟩ = some (.int .i64 ho) ∧ w'.cell? ⟨w1.heap.size, 4, none⟩ = some (.int .i64 mi) ∧ w'.cell? ⟨w1.heap.size, 5, none⟩ = some (.int .i64 se) ∧ w'.cell? ⟨w1.heap.size, 6, none⟩ = some (.int .i64 wd))
    (first
      | go_keep
      | (go_split_ands; exact ⟨keep_below hb2 rfl (by assumption), keep_below hb2 rfl (by assumption), keep_below hb2 rfl (by assumption), keep_below hb2 rfl (by assumption), keep_below hb2 rfl (by assumption), keep_below hb2 rfl (by assumption), keep_below hb2 rfl (by assumption)⟩))
    (first
      | (go_at_call 23; refine (wide_i _ _ _ ?_ ?_ (by decide) (by decide)).mono ?_; (assumption); (assumption); rintro e w2 ⟨rfl, hb2⟩)
      | (go_at_call 24; refine (clock_any _ _ _ _ _ _ _ _ ?_ ?_ ?_).mono ?_; (assumption); (assumption); (assumption); rintro e w2 ⟨rfl, hb2⟩))
  go_wp2
  go_ret
  rename_i a hb4 c
  obtain ⟨rfl, rfl⟩ := HX.out
  obtain ⟨rfl, rfl, rfl, rfl⟩ := HE.out
  exact ⟨y, m, d, hD, rfl, below_then (below_then HL3.out.drew hb4) hb2⟩

end Go.Proofs.YtcfkmckdjappbaaDoor
