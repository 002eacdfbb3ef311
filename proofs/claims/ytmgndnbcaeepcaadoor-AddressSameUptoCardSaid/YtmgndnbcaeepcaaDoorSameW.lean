/-
  AddressSame walked.
-/
import Derived.Test.YtmgndnbcaeepcaaDoorSame
namespace Go.Proofs.YtmgndnbcaeepcaaDoor
open Go.RowKit Own Ad
set_option linter.unusedVariables false
set_option linter.unusedSimpArgs false
set_option maxRecDepth 100000
attribute [local go_sem] str_toList

theorem sameP_comm (l d l' d' : List UInt8) : sameP l' d' l d = sameP l d l' d' := by
  unfold sameP
  rw [Bool.beq_comm (a := l'), Bool.beq_comm (a := smallL d')]
theorem sameP_self (l d : List UInt8) : sameP l d l d = true := by simp [sameP]

set_option maxHeartbeats 4000000 in
theorem same_walk (a1 a2 : Ad) (w : World) (hG : GoodA w) (h0 : 0 < w.heap.size) (h1 : a1.2.2.length ≤ 1000000000) (h2 : a2.2.2.length ≤ 1000000000) :
    Calls Tryd.prog 6 #[adV a1, adV a2] w fun e w' => e = .returned (.bool true) ∧ Below w.heap.size w w' := by
  obtain ⟨n, l, d⟩ := a1
  obtain ⟨n', l', d'⟩ := a2
  dsimp only at h1 h2
  dsimp only [adV]
  have s1 := fun W => same_any n l d n' l' d' W h1 h2
  have s2 := fun W => same_any n l d n l d W h1 h1
  have s3 := fun W => rsame_any n l d n' l' d' W h1 h2
  have s4 := fun W => same_any n' l' d' n l d W h2 h1
  rw [sameP_comm] at s4
  rw [sameP_self] at s2
  obtain ⟨R, hR⟩ : ∃ R, R = sameP l d l' d' := ⟨_, rfl⟩
  rw [← hR] at s1 s3 s4
  have bE : (R == R) = true := by cases R <;> rfl
  clear hR
  have k1 := AdAt.new w (n, l, d)
  have b1 := (Below.refl w.heap.size w).alloc (Nat.le_refl _) (.cells #[.string (str n), .string (str l), .string (str d)] 31)
  have k2 : AdAt ((w.alloc (.cells #[.string (str n), .string (str l), .string (str d)] 31)).alloc (.cells #[.string (str n'), .string (str l'), .string (str d')] 31)) (w.heap.size + 1) (n', l', d') := by
    have := AdAt.new (w.alloc (.cells #[.string (str n), .string (str l), .string (str d)] 31)) (n', l', d')
    rw [show (w.alloc (.cells #[.string (str n), .string (str l), .string (str d)] 31)).heap.size = w.heap.size + 1 by simp] at this
    exact this
  have K1 := hid (k1.alloc (.cells #[.string (str n'), .string (str l'), .string (str d')] 31))
  have K2 := hid k2
  have B1 := hid (b1.alloc b1.size (.cells #[.string (str n'), .string (str l'), .string (str d')] 31))
  clear k1 k2 b1
  have tok0 : Tk 0 := ⟨⟩
  go_enter Tryd.func6, Tryd.ntmps6
  go_wp2_with (first
    | (go_at_call 7; refine (shown_any _ (hG.below B1.out) (Nat.lt_of_lt_of_le h0 B1.out.size)).mono ?_; rintro e w2 ⟨rfl, c2⟩; have k1 := K1.out.below c2; have k2 := K2.out.below c2; have B2 := hid (below_then B1.out c2); have p0 := k1.c0; have p1 := k1.c1; have p2 := k1.c2; have q0 := k2.c0; have q1 := k2.c1; have q2 := k2.c2; have L1 := hid k1; have L2 := hid k2; clear c2 k1 k2)
    | (go_at_call 15; have t_ : Tk 0 := ‹Tk 0›; refine (s1 _).mono ?_; rintro e w3 ⟨rfl, c3⟩; have k1 := L1.out.below c3; have k2 := L2.out.below c3; have B3 := hid (below_then B2.out c3); have p0 := k1.c0; have p1 := k1.c1; have p2 := k1.c2; have q0 := k2.c0; have q1 := k2.c1; have q2 := k2.c2; have M1 := hid k1; have M2 := hid k2; clear c3 k1 k2; clear t_; clear tok0; have tok1 : Tk 1 := ⟨⟩)
    | (go_at_call 15; have t_ : Tk 1 := ‹Tk 1›; refine (s2 _).mono ?_; rintro e w4 ⟨rfl, c4⟩; have k1 := M1.out.below c4; have k2 := M2.out.below c4; have B4 := hid (below_then B3.out c4); have p0 := k1.c0; have p1 := k1.c1; have p2 := k1.c2; have q0 := k2.c0; have q1 := k2.c1; have q2 := k2.c2; have N1 := hid k1; have N2 := hid k2; clear c4 k1 k2; clear t_; clear tok1; have tok2 : Tk 2 := ⟨⟩)
    | (go_at_call 16; refine (s3 _).mono ?_; rintro e w5 ⟨rfl, c5⟩; have k1 := N1.out.below c5; have k2 := N2.out.below c5; have B5 := hid (below_then B4.out c5); have p0 := k1.c0; have p1 := k1.c1; have p2 := k1.c2; have q0 := k2.c0; have q1 := k2.c1; have q2 := k2.c2; clear c5 k1 k2)
    | (go_at_call 15; have t_ : Tk 2 := ‹Tk 2›; refine (s4 _).mono ?_; rintro e w6 ⟨rfl, c6⟩; have B6 := hid (below_then B5.out c6); clear c6; clear t_; clear tok2; have tok3 : Tk 3 := ⟨⟩))
  go_ret
  exact ⟨by first | rfl | simp, B6.out⟩

end Go.Proofs.YtmgndnbcaeepcaaDoor
