/-
  The texts of a time and of a date: the program's and the reference's.
-/
import Derived.Test.YtcfkmckdjappbaaDoorRWide
import Derived.Test.YtcfkmckdjappbaaDoorROf
import Derived.Test.YtcfkmckdjappbaaDoorHeld
namespace Go.Proofs.YtcfkmckdjappbaaDoor
open Go.RowKit Own
set_option linter.unusedVariables false
set_option linter.unusedSimpArgs false

attribute [local go_sem] str_size Text.lastL_len ByteArray.size_append

def clockL (h mi s : Int) : List UInt8 := Text.lastL 2 h.toNat ++ [58] ++ Text.lastL 2 mi.toNat ++ [58] ++ Text.lastL 2 s.toNat ++ [32, 43, 48, 48, 48, 48]

theorem clock_any (y m d h mi s wd : Int) (w : World) (h0 : 0 ≤ h ∧ h < 24) (h1 : 0 ≤ mi ∧ mi < 60) (h2 : 0 ≤ s ∧ s < 60) :
    Calls Tryd.prog 24 #[.agg (time7 y m d h mi s wd)] w fun e w' => e = .returned (.string (str (clockL h mi s))) ∧ Below w.heap.size w w' := by
  unfold time7
  go_enter Tryd.func24, Tryd.ntmps24
  go_wp2_with fail
  go_region_held3 (fun w' => w'.cell? ⟨w.heap.size, 3, none⟩ = some (.int .i64 h) ∧ w'.cell? ⟨w.heap.size, 4, none⟩ = some (.int .i64 mi) ∧ w'.cell? ⟨w.heap.size, 5, none⟩ = some (.int .i64 s))
    (first
      | go_keep
      | (go_split_ands; exact ⟨keep_below hb rfl (by assumption), keep_below hb rfl (by assumption), keep_below hb rfl (by assumption)⟩))
    (first | (go_at_call 23; refine (wide_i _ _ _ ?_ ?_ (by omega) (by omega)).mono ?_; (omega); (omega); rintro e w1 ⟨rfl, hb⟩))
  go_wp2
  go_ret
  rename_i a hb1 b hb2 c
  exact ⟨rfl, below_then (below_then (below_made hb1) hb2) hb⟩

theorem rclock_any (y m d h mi s wd : Int) (w : World) (h0 : 0 ≤ h ∧ h < 24) (h1 : 0 ≤ mi ∧ mi < 60) (h2 : 0 ≤ s ∧ s < 60) :
    Calls Tryd.prog 28 #[.agg (time7 y m d h mi s wd)] w fun e w' => e = .returned (.string (str (clockL h mi s))) ∧ Below w.heap.size w w' := by
  unfold time7
  go_enter Tryd.func28, Tryd.ntmps28
  go_wp2_with fail
  go_region_held3 (fun w' => w'.cell? ⟨w.heap.size, 3, none⟩ = some (.int .i64 h) ∧ w'.cell? ⟨w.heap.size, 4, none⟩ = some (.int .i64 mi) ∧ w'.cell? ⟨w.heap.size, 5, none⟩ = some (.int .i64 s))
    (first
      | go_keep
      | (go_split_ands; exact ⟨keep_below hb rfl (by assumption), keep_below hb rfl (by assumption), keep_below hb rfl (by assumption)⟩))
    (first | (go_at_call 26; refine (rwide_i _ _ _ ?_ (by omega) (by omega) ?_).mono ?_; (omega); (simp; omega); rintro e w1 ⟨rfl, hb⟩))
  go_wp2
  go_ret
  rename_i a hb1 b hb2 c
  exact ⟨rfl, below_then (below_then (below_made hb1) hb2) hb⟩

end Go.Proofs.YtcfkmckdjappbaaDoor
