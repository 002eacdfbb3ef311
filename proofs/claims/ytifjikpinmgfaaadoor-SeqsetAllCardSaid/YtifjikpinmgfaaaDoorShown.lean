/-
  The head of the set's laws: the document's examples hold.
-/
import Derived.Test.YtifjikpinmgfaaaDoorSetLaw
namespace Go.Proofs.YtifjikpinmgfaaaDoor
open Go.RowKit Own Dec Sq
set_option linter.unusedVariables false
set_option linter.unusedSimpArgs false
set_option maxRecDepth 100000

theorem par1 (w : World) (hG : GoodC w) : Calls Tryd.prog 13 #[.string { data := #[49, 58, 51, 44, 53, 44, 42] }] w fun e w' => ∃ A c, e = .returned (.tuple #[.slice A 3 c, .int .i64 0]) ∧ SrcR w' A [(1, 3), (5, 5), (0, 0)] ∧ Below w.heap.size w w' := by
  have := parse_any [49, 58, 51, 44, 53, 44, 42] w hG (by decide)
  rw [pv1] at this
  refine this.mono fun _ _ ⟨v, he, hb, hbel⟩ => ?_
  obtain ⟨A, c, rfl, _, hs⟩ := hb.full
  exact ⟨A, c, he, hs, hbel⟩
theorem par2 (w : World) (hG : GoodC w) : Calls Tryd.prog 13 #[.string { data := #[48, 49] }] w fun e w' => ∃ v, e = .returned (.tuple #[v, .int .i64 190]) ∧ Below w.heap.size w w' := by
  have := parse_any [48, 49] w hG (by decide)
  rw [pv2] at this
  exact this.mono fun _ _ ⟨v, he, hb, hbel⟩ => ⟨v, he, hbel⟩
theorem par3 (w : World) (hG : GoodC w) : Calls Tryd.prog 13 #[.string { data := #[49, 58] }] w fun e w' => ∃ v, e = .returned (.tuple #[v, .int .i64 190]) ∧ Below w.heap.size w w' := by
  have := parse_any [49, 58] w hG (by decide)
  rw [pv3] at this
  exact this.mono fun _ _ ⟨v, he, hb, hbel⟩ => ⟨v, he, hbel⟩
theorem sam1 (w : World) (A A2 : Option Addr) (c c2 : Nat) (hs : SrcR w A [(1, 3), (5, 5), (0, 0)]) (hs2 : SrcR w A2 [(1, 3), (5, 5), (0, 0)]) : Calls Tryd.prog 15 #[.slice A 3 c, .slice A2 3 c2] w fun e w' => e = .returned (.bool true) ∧ Below w.heap.size w w' :=
  same_same A A2 3 c 3 c2 _ w hs hs2 rfl rfl (by decide)
theorem pic1 (w : World) (A A2 : Option Addr) (c c2 : Nat) (hs : SrcR w A [(2, 0)]) (hs2 : Src w A2 (iv [4, 7, 9])) : Calls Tryd.prog 9 #[.slice A 1 c, .slice A2 3 c2] w fun e w' => ∃ A c, e = .returned (.slice A 3 c) ∧ Src w' A (iv [4, 7, 9]) ∧ Below w.heap.size w w' := by
  have := pick_any A A2 1 c 3 c2 [(2, 0)] [4, 7, 9] w hs hs2 rfl rfl (by decide) (by decide)
  rw [show pick [(2, 0)] [4, 7, 9] = [4, 7, 9] by decide] at this
  refine this.mono fun _ _ ⟨v, he, hb, hbel⟩ => ?_
  obtain ⟨A, c, rfl, _, hs⟩ := hb.full
  exact ⟨A, c, he, hs, hbel⟩
theorem int1 (w : World) (A A2 : Option Addr) (c c2 : Nat) (hs : Src w A (iv [4, 7, 9])) (hs2 : Src w A2 (iv [4, 7, 9])) : Calls Tryd.prog 8 #[.slice A 3 c, .slice A2 3 c2] w fun e w' => e = .returned (.bool true) ∧ Below w.heap.size w w' :=
  ints_same A A2 3 c 3 c2 [4, 7, 9] w hs hs2 rfl rfl (by decide)
theorem has1 (w : World) (A : Option Addr) (c : Nat) (hs : SrcR w A [(5, 0)]) : Calls Tryd.prog 11 #[.slice A 1 c, .int .i64 3, .int .i64 3] w fun e w' => e = .returned (.bool true) ∧ Below w.heap.size w w' := by
  have := has_any A 1 c [(5, 0)] 3 3 w hs rfl (by decide)
  rw [show has [(5, 0)] 3 3 = true by decide] at this
  exact this
theorem has2 (w : World) (A : Option Addr) (c : Nat) (hs : SrcR w A [(5, 0)]) : Calls Tryd.prog 11 #[.slice A 1 c, .int .i64 4, .int .i64 3] w fun e w' => e = .returned (.bool true) ∧ Below w.heap.size w w' := by
  have := has_any A 1 c [(5, 0)] 4 3 w hs rfl (by decide)
  rw [show has [(5, 0)] 4 3 = true by decide] at this
  exact this
theorem has3 (w : World) (A : Option Addr) (c : Nat) (hs : SrcR w A [(5, 0)]) : Calls Tryd.prog 11 #[.slice A 1 c, .int .i64 4, .int .i64 0] w fun e w' => e = .returned (.bool false) ∧ Below w.heap.size w w' := by
  have := has_any A 1 c [(5, 0)] 4 0 w hs rfl (by decide)
  rw [show has [(5, 0)] 4 0 = false by decide] at this
  exact this

set_option maxHeartbeats 8000000 in
theorem shown_any (w : World) (hG : GoodC w) :
    Calls Tryd.prog 7 #[] w fun e w' => e = .returned (.bool true) ∧ Below w.heap.size w w' := by
  have tok0 : Tk 0 := ⟨⟩
  go_enter Tryd.func7, Tryd.ntmps7
  go_wp2_with (first
    | (go_at_call 13; have t_ : Tk 0 := ‹Tk 0›; refine (par1 _ hG).mono ?_; rintro e w1 ⟨A1, k1, rfl, hs1, c1⟩; have b1 := hid c1; have S1 := hid hs1; clear hs1 c1; clear t_; clear tok0; have tok1 : Tk 1 := ⟨⟩)
    | (go_at_call 13; have t_ : Tk 1 := ‹Tk 1›; refine (par2 _ (hG.below b1.out)).mono ?_; rintro e w2 ⟨v2, rfl, c2⟩; have b2 := hid (below_then b1.out c2); have S2 := hid (S1.out.below c2); clear c2; clear t_; clear tok1; have tok2 : Tk 2 := ⟨⟩)
    | (go_at_call 13; have t_ : Tk 2 := ‹Tk 2›; refine (par3 _ (hG.below b2.out)).mono ?_; rintro e w3 ⟨v3, rfl, c3⟩; have b3 := hid (below_then b2.out c3); have S3 := hid (S2.out.below c3); clear c3; clear t_; clear tok2; have tok3 : Tk 3 := ⟨⟩)
    | (go_at_call 15; refine (sam1 _ _ _ _ _ (S3.out.below (((Below.refl _ _).alloc (Nat.le_refl _) _).alloc (by simp) _)) (RBuf.lit _ [(1, 3), (5, 5), (0, 0)] _ _ _ (by simp) rfl)).mono ?_; rintro e w4 ⟨rfl, c4⟩; have b4 := hid (below_then ((b3.out.alloc b3.out.size _).alloc (by simp; have := b3.out.size; omega) _) c4); have R4 := hid (((RBuf.lit w3 [(5, 0)] #[.int .i64 5, .int .i64 0] (0, 0) _ rfl rfl).below ((Below.refl _ _).alloc (Nat.le_refl _) _)).below c4); clear c4)
    | (go_at_call 9; refine (pic1 _ _ _ _ _ ((RBuf.lit w4 [(2, 0)] #[.int .i64 2, .int .i64 0] (0, 0) _ rfl rfl).below ((Below.refl _ _).alloc (Nat.le_refl _) _)) (ilit_at _ [4, 7, 9] _ _ _ (by simp) rfl)).mono ?_; rintro e w5 ⟨A5, k5, rfl, hs5, c5⟩; have b5 := hid (below_then ((b4.out.alloc b4.out.size _).alloc (by simp; have := b4.out.size; omega) _) c5); have R5 := hid ((R4.out.below (((Below.refl _ _).alloc (Nat.le_refl _) _).alloc (by simp) _)).below c5); have S5 := hid hs5; clear c5 hs5)
    | (go_at_call 8; refine (int1 _ _ _ _ _ (S5.out.below ((Below.refl _ _).alloc (Nat.le_refl _) _)) (ilit_at _ [4, 7, 9] _ _ _ rfl rfl)).mono ?_; rintro e w6 ⟨rfl, c6⟩; have b6 := hid (below_then (b5.out.alloc b5.out.size _) c6); have R6 := hid ((R5.out.below ((Below.refl _ _).alloc (Nat.le_refl _) _)).below c6); clear c6)
    | (go_at_call 11; have t_ : Tk 3 := ‹Tk 3›; refine (has1 _ _ _ R6.out).mono ?_; rintro e w7 ⟨rfl, c7⟩; have b7 := hid (below_then b6.out c7); have R7 := hid (R6.out.below c7); clear c7; clear t_; clear tok3; have tok4 : Tk 4 := ⟨⟩)
    | (go_at_call 11; have t_ : Tk 4 := ‹Tk 4›; refine (has2 _ _ _ R7.out).mono ?_; rintro e w8 ⟨rfl, c8⟩; have b8 := hid (below_then b7.out c8); have R8 := hid (R7.out.below c8); clear c8; clear t_; clear tok4; have tok5 : Tk 5 := ⟨⟩)
    | (go_at_call 11; have t_ : Tk 5 := ‹Tk 5›; refine (has3 _ _ _ R8.out).mono ?_; rintro e w9 ⟨rfl, c9⟩; have b9 := hid (below_then b8.out c9); clear c9; clear t_; clear tok5; have tok6 : Tk 6 := ⟨⟩))
  go_ret
  exact ⟨rfl, b9.out⟩

end Go.Proofs.YtifjikpinmgfaaaDoor
