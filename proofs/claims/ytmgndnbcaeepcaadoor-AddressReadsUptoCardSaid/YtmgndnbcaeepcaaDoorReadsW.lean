/-
  AddressReads walked.
-/
import Derived.Test.YtmgndnbcaeepcaaDoorShown
import Derived.Test.YtmgndnbcaeepcaaDoorRPath2
namespace Go.Proofs.YtmgndnbcaeepcaaDoor
open Go.RowKit Own Ad
set_option linter.unusedVariables false
set_option linter.unusedSimpArgs false
set_option maxRecDepth 100000
attribute [local go_sem] str_toList

/-- The block that an address is stored in. -/
def adO (n l d : List UInt8) : Obj := .cells #[.string (str n), .string (str l), .string (str d)] 31
theorem two_ad (n l d : List UInt8) : Value.agg #[.string (str n), .string (str l), .string (str d)] = adV (n, l, d) := rfl

set_option maxHeartbeats 8000000 in
theorem reads_walk (s : List UInt8) (a : Ad) (w : World) (hG : GoodA w) (h0 : 0 < w.heap.size) (hs : s.length ≤ 1000000000) (ha : a.1.length + a.2.1.length + a.2.2.length ≤ 1000000000) :
    Calls Tryd.prog 4 #[.string (str s), adV a] w fun e w' => e = .returned (.bool true) ∧ Below w.heap.size w w' := by
  obtain ⟨n, l, d⟩ := a
  dsimp only at ha
  dsimp only [adV]
  have p1 := fun W g => parse_any s W g (by omega)
  have p2 := fun W g => rparse_any s W g hs
  have q1 := fun W g => path_any s W g (by omega)
  have q2 := fun W g => rpath_any s W g hs
  have r1 := fun W g => print_any n l d W g (by omega) (by omega)
  have r2 := fun W g => rprint_any n l d W g (by omega) (by omega)
  obtain ⟨⟨pn, pl, pd⟩, pe, hp⟩ : ∃ a E, parseP s = (a, E) := ⟨_, _, rfl⟩
  obtain ⟨⟨qn, ql, qd⟩, qe, hq⟩ : ∃ a E, pathP s = (a, E) := ⟨_, _, rfl⟩
  obtain ⟨rt, re, hr⟩ : ∃ t E, printP (n, l, d) = (t, E) := ⟨_, _, rfl⟩
  rw [hp] at p1 p2
  rw [hq] at q1 q2
  rw [hr] at r1 r2
  dsimp only [adV] at p1 p2 q1 q2 r1 r2
  clear hp hq hr
  have K0 := hid (AdAt.new w (n, l, d))
  have B0 := hid ((Below.refl w.heap.size w).alloc (Nat.le_refl _) (.cells #[.string (str n), .string (str l), .string (str d)] 31))
  have e1 : ∀ x : List UInt8, (x == x) = true := fun x => by simp
  have e2 : ∀ x : Int, (x == x) = true := fun x => by simp
  go_enter Tryd.func4, Tryd.ntmps4
  go_wp2_with (first
    | (go_at_call 7; refine (shown_any _ (hG.below B0.out) (Nat.lt_of_lt_of_le h0 B0.out.size)).mono ?_; rintro e w1 ⟨rfl, c1⟩; have K1 := hid (K0.out.below c1); have B1 := hid (below_then B0.out c1); clear c1)
    | (go_at_call 9; refine (p1 _ (hG.below B1.out)).mono ?_; rintro e w2 ⟨rfl, c2⟩; have K2 := hid ((K1.out.below c2).alloc (adO pn pl pd)); have b2 := below_then B1.out c2; have B2 := hid (b2.alloc b2.size (adO pn pl pd)); have A2 := hid (AdAt.new w2 (pn, pl, pd)); clear b2 c2; unfold adO at K2 B2)
    | (go_at_call 10; refine (p2 _ (hG.below B2.out)).mono ?_; rintro e w3 ⟨rfl, c3⟩; have K3 := hid ((K2.out.below c3).alloc (adO pn pl pd)); have A3 := hid ((A2.out.below c3).alloc (adO pn pl pd)); have b3 := below_then B2.out c3; have B3 := hid (b3.alloc b3.size (adO pn pl pd)); have D3 := hid (AdAt.new w3 (pn, pl, pd)); clear b3 c3; unfold adO at K3 A3 B3)
    | (go_at_call 11; refine (q1 _ (hG.below B3.out)).mono ?_; rintro e w4 ⟨rfl, c4⟩; have K4 := hid ((K3.out.below c4).alloc (adO qn ql qd)); have A4 := hid ((A3.out.below c4).alloc (adO qn ql qd)); have D4 := hid ((D3.out.below c4).alloc (adO qn ql qd)); have b4 := below_then B3.out c4; have B4 := hid (b4.alloc b4.size (adO qn ql qd)); have E4 := hid (AdAt.new w4 (qn, ql, qd)); clear b4 c4; unfold adO at K4 A4 D4 B4)
    | (go_at_call 12; refine (q2 _ (hG.below B4.out)).mono ?_; rintro e w5 ⟨rfl, c5⟩; have K5 := hid ((K4.out.below c5).alloc (adO qn ql qd)); have A5 := hid ((A4.out.below c5).alloc (adO qn ql qd)); have D5 := hid ((D4.out.below c5).alloc (adO qn ql qd)); have E5 := hid ((E4.out.below c5).alloc (adO qn ql qd)); have b5 := below_then B4.out c5; have B5 := hid (b5.alloc b5.size (adO qn ql qd)); have F5 := hid (AdAt.new w5 (qn, ql, qd)); clear b5 c5; unfold adO at K5 A5 D5 E5 B5; have x0 := K5.out.c0; have x1 := K5.out.c1; have x2 := K5.out.c2)
    | (go_at_call 13; refine (r1 _ (hG.below B5.out)).mono ?_; rintro e w6 ⟨rfl, c6⟩; have K6 := hid (K5.out.below c6); have A6 := hid (A5.out.below c6); have D6 := hid (D5.out.below c6); have E6 := hid (E5.out.below c6); have F6 := hid (F5.out.below c6); have B6 := hid (below_then B5.out c6); clear c6; clear x0 x1 x2; have x0 := K6.out.c0; have x1 := K6.out.c1; have x2 := K6.out.c2)
    | (go_at_call 14; refine (r2 _ (hG.below B6.out)).mono ?_; rintro e w7 ⟨rfl, c7⟩; have A7 := A6.out.below c7; have D7 := D6.out.below c7; have E7 := E6.out.below c7; have F7 := F6.out.below c7; have B7 := hid (below_then B6.out c7); clear c7; have a0 := A7.c0; have a1 := A7.c1; have a2 := A7.c2; have d0 := D7.c0; have d1 := D7.c1; have d2 := D7.c2; have f0 := E7.c0; have f1 := E7.c1; have f2 := E7.c2; have g0 := F7.c0; have g1 := F7.c1; have g2 := F7.c2; clear A7 D7 E7 F7))
  go_ret
  exact ⟨by first | rfl | simp, B7.out⟩

end Go.Proofs.YtmgndnbcaeepcaaDoor
