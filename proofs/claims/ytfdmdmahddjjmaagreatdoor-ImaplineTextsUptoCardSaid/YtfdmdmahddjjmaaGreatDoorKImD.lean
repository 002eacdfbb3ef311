/-
  Sets of numbers.
-/
import Derived.Test.YtfdmdmahddjjmaaGreatDoorKImC
import Derived.Test.YtfdmdmahddjjmaaGreatDoorPkSq
namespace Go.Proofs.YtfdmdmahddjjmaaGreatDoor
open Go.RowKit Own Im
set_option linter.unusedVariables false
set_option linter.unusedSimpArgs false
set_option maxRecDepth 100000
attribute [local go_sem] str_toList str_size

/-- A row of ranges that was made behind B. -/
abbrev vSet (B : Nat) : List Rg → Value → World → Prop := fun l v w => Sq.RBuf B w v l

set_option maxHeartbeats 1000000 in
theorem set_any (b : Nat) (s : Bt) (w : World) (h : RdI w b s) :
    Calls Tryz.prog 62 #[.pointer (some ⟨b, 0, none⟩)] w fun e w' => Reads b w (vSet w.heap.size) (Im.set s) e w' := by
  have hrun := fun W hW => run_any 99 rangedB (enters_of Tryz.func99 (by kernel_rfl) rfl) ranged_any b s W hW
  have hps := fun W (hW : RdI W b (s.dropWhile rangedB)) => Sq.parse_any (s.takeWhile rangedB) W hW.good.good (by have := run_len rangedB s; have := h.len; omega)
  have H := hid h
  clear h
  obtain ⟨R, hR⟩ : ∃ R, R = Im.set s := ⟨_, rfl⟩
  rw [← hR]
  unfold Im.set at hR
  obtain ⟨l, n, hq⟩ : ∃ l n, Sq.Sq.parseS (s.takeWhile rangedB) = (l, n) := ⟨_, _, rfl⟩
  rw [hq] at hps hR
  have HR := hid hR
  clear hR hq
  go_enter Tryz.func62, Tryz.ntmps62
  go_wp2_with (first
    | (go_at_call 46; refine (hrun _ H.out).mono ?_; rintro e w1 ⟨rfl, r1, o1⟩; have R1 := hid r1; have O1 := hid o1; clear r1 o1)
    | (go_at_call 98; refine (hps _ R1.out).mono ?_; rintro e w2 ⟨v, rfl, v2, b2⟩; have V2 := hid v2; have B2 := hid b2; clear v2 b2)
    | (go_at_call 28; refine (must_any _ _).mono ?_; rintro e w3 ⟨h3, rfl⟩; rcases must_split h3 with ⟨m3, rfl⟩ | ⟨m3, rfl⟩ <;> clear h3))
  all_goals first
    | (refine ⟨rfl, Reads.panic ?_ (O1.out.trans (Only.of B2.out (Nat.le_of_lt R1.out.lt)))⟩; rw [HR.out]; exact if_neg (by simpa using m3))
    | skip
  go_ret
  exact Reads.give (by rw [HR.out]; exact if_pos (by simpa using m3)) (O1.out.trans (Only.of B2.out (Nat.le_of_lt R1.out.lt))) (V2.out.mono O1.out.size) (R1.out.below B2.out)
end Go.Proofs.YtfdmdmahddjjmaaGreatDoor
