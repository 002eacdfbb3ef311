/-
  The head of the laws: the document's examples hold.
-/
import Derived.Test.YtdbggicpcbecdaaGreatDoorSmF
namespace Go.Proofs.YtdbggicpcbecdaaGreatDoor
open Go.RowKit Own Sm
set_option linter.unusedVariables false
set_option linter.unusedSimpArgs false
set_option maxRecDepth 100000

theorem xp1 (w : World) (hG : GoodC w) : Calls Tryz.prog 7 #[.string { data := #[109, 97, 105, 108, 32, 70, 82, 79, 77, 58, 60, 97, 64, 98, 62, 32, 115, 105, 122, 101, 61, 57] }] w fun e w' => ∃ A cc, e = .returned (.tuple #[.agg #[.string { data := #[77, 65, 73, 76] }, .string { data := #[97, 64, 98] }, .slice A 0 cc, .int .i64 9], .int .i64 0]) ∧ SrcS w' A [] ∧ Below w.heap.size w w' := by
  have := smparse_any [109, 97, 105, 108, 32, 70, 82, 79, 77, 58, 60, 97, 64, 98, 62, 32, 115, 105, 122, 101, 61, 57] w hG (by decide)
  rw [sh1] at this
  refine this.mono ?_
  rintro e w' ⟨A, cc, rfl, hs, hb⟩
  exact ⟨A, cc, rfl, hs.src, hb⟩
theorem xp2 (w : World) (hG : GoodC w) : Calls Tryz.prog 7 #[.string { data := #[82, 67, 80, 84, 32, 84, 79, 58, 32, 60, 97, 64, 98, 62] }] w fun e w' => ∃ A cc, e = .returned (.tuple #[.agg #[.string { data := #[82, 67, 80, 84] }, .string { data := #[97, 64, 98] }, .slice A 0 cc, .int .i64 0], .int .i64 0]) ∧ SrcS w' A [] ∧ Below w.heap.size w w' := by
  have := smparse_any [82, 67, 80, 84, 32, 84, 79, 58, 32, 60, 97, 64, 98, 62] w hG (by decide)
  rw [sh2] at this
  refine this.mono ?_
  rintro e w' ⟨A, cc, rfl, hs, hb⟩
  exact ⟨A, cc, rfl, hs.src, hb⟩
theorem xp3 (w : World) (hG : GoodC w) : Calls Tryz.prog 7 #[.string { data := #[82, 67, 80, 84, 32, 84, 79, 58, 60, 62] }] w fun e w' => ∃ A cc, e = .returned (.tuple #[.agg #[.string { data := #[] }, .string { data := #[] }, .slice A 0 cc, .int .i64 0], .int .i64 160]) ∧ SrcS w' A [] ∧ Below w.heap.size w w' := by
  have := smparse_any [82, 67, 80, 84, 32, 84, 79, 58, 60, 62] w hG (by decide)
  rw [sh3] at this
  refine this.mono ?_
  rintro e w' ⟨A, cc, rfl, hs, hb⟩
  exact ⟨A, cc, rfl, hs.src, hb⟩
theorem xp4 (w : World) (hG : GoodC w) : Calls Tryz.prog 7 #[.string { data := #[82, 67, 80, 84, 32, 84, 79, 58, 60, 97, 64, 98, 62, 32, 88] }] w fun e w' => ∃ A cc, e = .returned (.tuple #[.agg #[.string { data := #[] }, .string { data := #[] }, .slice A 0 cc, .int .i64 0], .int .i64 1]) ∧ SrcS w' A [] ∧ Below w.heap.size w w' := by
  have := smparse_any [82, 67, 80, 84, 32, 84, 79, 58, 60, 97, 64, 98, 62, 32, 88] w hG (by decide)
  rw [sh4] at this
  refine this.mono ?_
  rintro e w' ⟨A, cc, rfl, hs, hb⟩
  exact ⟨A, cc, rfl, hs.src, hb⟩
theorem xp5 (w : World) (hG : GoodC w) : Calls Tryz.prog 7 #[.string { data := #[81, 85, 73, 84, 32, 110, 111, 119] }] w fun e w' => ∃ A cc, e = .returned (.tuple #[.agg #[.string { data := #[] }, .string { data := #[] }, .slice A 0 cc, .int .i64 0], .int .i64 160]) ∧ SrcS w' A [] ∧ Below w.heap.size w w' := by
  have := smparse_any [81, 85, 73, 84, 32, 110, 111, 119] w hG (by decide)
  rw [sh5] at this
  refine this.mono ?_
  rintro e w' ⟨A, cc, rfl, hs, hb⟩
  exact ⟨A, cc, rfl, hs.src, hb⟩
theorem xp6 (w : World) (hG : GoodC w) : Calls Tryz.prog 7 #[.string { data := #[68, 65, 84, 65, 59] }] w fun e w' => ∃ A cc, e = .returned (.tuple #[.agg #[.string { data := #[] }, .string { data := #[] }, .slice A 0 cc, .int .i64 0], .int .i64 161]) ∧ SrcS w' A [] ∧ Below w.heap.size w w' := by
  have := smparse_any [68, 65, 84, 65, 59] w hG (by decide)
  rw [sh6] at this
  refine this.mono ?_
  rintro e w' ⟨A, cc, rfl, hs, hb⟩
  exact ⟨A, cc, rfl, hs.src, hb⟩
theorem xs1 (w : World) (A : Option Addr) (cc : Nat) (h : SrcS w A []) : Calls Tryz.prog 10 #[.agg #[.string { data := #[77, 65, 73, 76] }, .string { data := #[97, 64, 98] }, .slice A 0 cc, .int .i64 9], .agg #[.string { data := #[77, 65, 73, 76] }, .string { data := #[97, 64, 98] }, .slice none 0 0, .int .i64 9]] w fun e w' => e = .returned (.bool true) ∧ Below w.heap.size w w' :=
  same_same ([77, 65, 73, 76], [97, 64, 98], [], 9) A none cc 0 w h ⟨fun _ => rfl, fun p hp => by cases hp⟩ (by decide)
theorem xs2 (w : World) (A : Option Addr) (cc : Nat) (h : SrcS w A []) : Calls Tryz.prog 10 #[.agg #[.string { data := #[82, 67, 80, 84] }, .string { data := #[97, 64, 98] }, .slice A 0 cc, .int .i64 0], .agg #[.string { data := #[82, 67, 80, 84] }, .string { data := #[97, 64, 98] }, .slice none 0 0, .int .i64 0]] w fun e w' => e = .returned (.bool true) ∧ Below w.heap.size w w' :=
  same_same ([82, 67, 80, 84], [97, 64, 98], [], 0) A none cc 0 w h ⟨fun _ => rfl, fun p hp => by cases hp⟩ (by decide)
theorem xq (w : World) (hG : GoodA w) : Calls Tryz.prog 12 #[.string { data := #[65, 71, 70, 117, 98, 103, 66, 119, 100, 119, 61, 61] }] w fun e w' => e = .returned (.tuple #[.string { data := #[97, 110, 110] }, .string { data := #[112, 119] }, .bool true]) ∧ Below w.heap.size w w' := by
  have hd : Enc.decV [65, 71, 70, 117, 98, 103, 66, 119, 100, 119, 61, 61] = ([0, 97, 110, 110, 0, 112, 119], 0) := Enc.decV_ok (by decide +kernel)
  have hp : plainS [65, 71, 70, 117, 98, 103, 66, 119, 100, 119, 61, 61] = ([97, 110, 110], [112, 119], true) := by
    rw [plainS_ok hd]
    rfl
  have := smplain_any [65, 71, 70, 117, 98, 103, 66, 119, 100, 119, 61, 61] w hG (by decide) (by rw [hd]; decide)
  rw [hp] at this
  exact this

set_option maxHeartbeats 8000000 in
theorem shown_any (w : World) (hG : GoodC w) :
    Calls Tryz.prog 6 #[] w fun e w' => e = .returned (.bool true) ∧ Below w.heap.size w w' := by
  have tok0 : Tk 0 := ⟨⟩
  have B0 := hid (Below.refl w.heap.size w)
  go_enter Tryz.func6, Tryz.ntmps6
  go_wp2_with (first
    | (go_at_call 7; have t_ : Tk 0 := ‹Tk 0›; refine (xp1 _ (hG.below B0.out)).mono ?_; rintro e w1 ⟨A1, k1, rfl, s1, c1⟩; have b1 := below_then B0.out c1; have B1 := hid (b1.alloc b1.size (.cells #[.string { data := #[77, 65, 73, 76] }, .string { data := #[97, 64, 98] }, .slice A1 0 k1, .int .i64 9] 25)); have F1 := hid (CmdIs.new w1 [77, 65, 73, 76] [97, 64, 98] (.slice A1 0 k1) 9); have S1 := hid (s1.below ((Below.refl _ _).alloc (Nat.le_refl _) (.cells #[.string { data := #[77, 65, 73, 76] }, .string { data := #[97, 64, 98] }, .slice A1 0 k1, .int .i64 9] 25))); clear s1 c1 b1; clear t_; clear tok0; have tok1 : Tk 1 := ⟨⟩)
    | (go_at_call 7; have t_ : Tk 1 := ‹Tk 1›; refine (xp2 _ (hG.below B1.out)).mono ?_; rintro e w2 ⟨A2, k2, rfl, s2, c2⟩; have b2 := below_then B1.out c2; have B2 := hid (b2.alloc b2.size (.cells #[.string { data := #[82, 67, 80, 84] }, .string { data := #[97, 64, 98] }, .slice A2 0 k2, .int .i64 0] 25)); have F2 := hid ((F1.out.below c2).alloc (.cells #[.string { data := #[82, 67, 80, 84] }, .string { data := #[97, 64, 98] }, .slice A2 0 k2, .int .i64 0] 25)); have S2 := hid ((S1.out.below c2).below ((Below.refl _ _).alloc (Nat.le_refl _) (.cells #[.string { data := #[82, 67, 80, 84] }, .string { data := #[97, 64, 98] }, .slice A2 0 k2, .int .i64 0] 25))); have G2 := hid (CmdIs.new w2 [82, 67, 80, 84] [97, 64, 98] (.slice A2 0 k2) 0); have R2 := hid (s2.below ((Below.refl _ _).alloc (Nat.le_refl _) (.cells #[.string { data := #[82, 67, 80, 84] }, .string { data := #[97, 64, 98] }, .slice A2 0 k2, .int .i64 0] 25))); clear s2 c2 b2; clear t_; clear tok1; have tok2 : Tk 2 := ⟨⟩)
    | (go_at_call 7; have t_ : Tk 2 := ‹Tk 2›; refine (xp3 _ (hG.below B2.out)).mono ?_; rintro e w3 ⟨A3, k3, rfl, s3, c3⟩; have b3 := below_then B2.out c3; have B3 := hid (b3.alloc b3.size (.cells #[.string { data := #[] }, .string { data := #[] }, .slice A3 0 k3, .int .i64 0] 25)); have F3 := hid ((F2.out.below c3).alloc (.cells #[.string { data := #[] }, .string { data := #[] }, .slice A3 0 k3, .int .i64 0] 25)); have S3 := hid ((S2.out.below c3).below ((Below.refl _ _).alloc (Nat.le_refl _) (.cells #[.string { data := #[] }, .string { data := #[] }, .slice A3 0 k3, .int .i64 0] 25))); have G3 := hid ((G2.out.below c3).alloc (.cells #[.string { data := #[] }, .string { data := #[] }, .slice A3 0 k3, .int .i64 0] 25)); have R3 := hid ((R2.out.below c3).below ((Below.refl _ _).alloc (Nat.le_refl _) (.cells #[.string { data := #[] }, .string { data := #[] }, .slice A3 0 k3, .int .i64 0] 25))); clear s3 c3 b3; clear t_; clear tok2; have tok3 : Tk 3 := ⟨⟩)
    | (go_at_call 7; have t_ : Tk 3 := ‹Tk 3›; refine (xp4 _ (hG.below B3.out)).mono ?_; rintro e w4 ⟨A4, k4, rfl, s4, c4⟩; have b4 := below_then B3.out c4; have B4 := hid (b4.alloc b4.size (.cells #[.string { data := #[] }, .string { data := #[] }, .slice A4 0 k4, .int .i64 0] 25)); have F4 := hid ((F3.out.below c4).alloc (.cells #[.string { data := #[] }, .string { data := #[] }, .slice A4 0 k4, .int .i64 0] 25)); have S4 := hid ((S3.out.below c4).below ((Below.refl _ _).alloc (Nat.le_refl _) (.cells #[.string { data := #[] }, .string { data := #[] }, .slice A4 0 k4, .int .i64 0] 25))); have G4 := hid ((G3.out.below c4).alloc (.cells #[.string { data := #[] }, .string { data := #[] }, .slice A4 0 k4, .int .i64 0] 25)); have R4 := hid ((R3.out.below c4).below ((Below.refl _ _).alloc (Nat.le_refl _) (.cells #[.string { data := #[] }, .string { data := #[] }, .slice A4 0 k4, .int .i64 0] 25))); clear s4 c4 b4; clear t_; clear tok3; have tok4 : Tk 4 := ⟨⟩)
    | (go_at_call 7; have t_ : Tk 4 := ‹Tk 4›; refine (xp5 _ (hG.below B4.out)).mono ?_; rintro e w5 ⟨A5, k5, rfl, s5, c5⟩; have b5 := below_then B4.out c5; have B5 := hid (b5.alloc b5.size (.cells #[.string { data := #[] }, .string { data := #[] }, .slice A5 0 k5, .int .i64 0] 25)); have F5 := hid ((F4.out.below c5).alloc (.cells #[.string { data := #[] }, .string { data := #[] }, .slice A5 0 k5, .int .i64 0] 25)); have S5 := hid ((S4.out.below c5).below ((Below.refl _ _).alloc (Nat.le_refl _) (.cells #[.string { data := #[] }, .string { data := #[] }, .slice A5 0 k5, .int .i64 0] 25))); have G5 := hid ((G4.out.below c5).alloc (.cells #[.string { data := #[] }, .string { data := #[] }, .slice A5 0 k5, .int .i64 0] 25)); have R5 := hid ((R4.out.below c5).below ((Below.refl _ _).alloc (Nat.le_refl _) (.cells #[.string { data := #[] }, .string { data := #[] }, .slice A5 0 k5, .int .i64 0] 25))); clear s5 c5 b5; clear t_; clear tok4; have tok5 : Tk 5 := ⟨⟩)
    | (go_at_call 7; have t_ : Tk 5 := ‹Tk 5›; refine (xp6 _ (hG.below B5.out)).mono ?_; rintro e w6 ⟨A6, k6, rfl, s6, c6⟩; have b6 := below_then B5.out c6; have B6 := hid (b6.alloc b6.size (.cells #[.string { data := #[] }, .string { data := #[] }, .slice A6 0 k6, .int .i64 0] 25)); have F6 := hid ((F5.out.below c6).alloc (.cells #[.string { data := #[] }, .string { data := #[] }, .slice A6 0 k6, .int .i64 0] 25)); have S6 := hid ((S5.out.below c6).below ((Below.refl _ _).alloc (Nat.le_refl _) (.cells #[.string { data := #[] }, .string { data := #[] }, .slice A6 0 k6, .int .i64 0] 25))); have G6 := hid ((G5.out.below c6).alloc (.cells #[.string { data := #[] }, .string { data := #[] }, .slice A6 0 k6, .int .i64 0] 25)); have R6 := hid ((R5.out.below c6).below ((Below.refl _ _).alloc (Nat.le_refl _) (.cells #[.string { data := #[] }, .string { data := #[] }, .slice A6 0 k6, .int .i64 0] 25))); clear s6 c6 b6; clear t_; clear tok5; have tok6 : Tk 6 := ⟨⟩)
    | (go_at_call 12; refine (xq _ (hG.below B6.out).a).mono ?_; rintro e w7 ⟨rfl, c7⟩; have B7 := hid (below_then B6.out c7); have f7 := F6.out.below c7; have x0 := f7.c0; have x1 := f7.c1; have x2 := f7.c2; have x3 := f7.c3; have S7 := hid (S6.out.below c7); have G7 := hid (G6.out.below c7); have R7 := hid (R6.out.below c7); clear c7 f7)
    | (go_at_call 10; have t_ : Tk 6 := ‹Tk 6›; refine (xs1 _ _ _ S7.out).mono ?_; rintro e w8 ⟨rfl, c8⟩; have B8 := hid (below_then B7.out c8); have g8 := G7.out.below c8; have y0 := g8.c0; have y1 := g8.c1; have y2 := g8.c2; have y3 := g8.c3; have R8 := hid (R7.out.below c8); clear c8 g8; clear t_; clear tok6; have tok7 : Tk 7 := ⟨⟩)
    | (go_at_call 10; have t_ : Tk 7 := ‹Tk 7›; refine (xs2 _ _ _ R8.out).mono ?_; rintro e w9 ⟨rfl, c9⟩; have B9 := hid (below_then B8.out c9); clear c9; clear t_; clear tok7; have tok8 : Tk 8 := ⟨⟩))
  go_ret
  exact ⟨by first | rfl | simp, B9.out⟩

end Go.Proofs.YtdbggicpcbecdaaGreatDoor
