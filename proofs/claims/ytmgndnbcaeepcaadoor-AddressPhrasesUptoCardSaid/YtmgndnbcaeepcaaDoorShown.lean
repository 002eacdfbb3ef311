/-
  The head of the laws: the document's examples hold.
-/
import Derived.Test.YtmgndnbcaeepcaaDoorList
namespace Go.Proofs.YtmgndnbcaeepcaaDoor
open Go.RowKit Own Ad
set_option linter.unusedVariables false
set_option linter.unusedSimpArgs false
set_option maxRecDepth 100000

theorem xp1 (w : World) (hG : GoodA w) : Calls Tryd.prog 9 #[.string { data := #[97, 46, 98, 64, 99, 46, 100] }] w fun e w' => e = .returned (.tuple #[.agg #[.string { data := #[] }, .string { data := #[97, 46, 98] }, .string { data := #[99, 46, 100] }], .int .i64 0]) ∧ Below w.heap.size w w' := by
  have := parse_any [97, 46, 98, 64, 99, 46, 100] w hG (by decide)
  rw [show parseP [97, 46, 98, 64, 99, 46, 100] = (([], [97, 46, 98], [99, 46, 100]), 0) by decide +kernel] at this
  exact this

theorem xp2 (w : World) (hG : GoodA w) : Calls Tryd.prog 9 #[.string { data := #[97, 46, 46, 98, 64, 99] }] w fun e w' => e = .returned (.tuple #[.agg #[.string { data := #[] }, .string { data := #[] }, .string { data := #[] }], .int .i64 90]) ∧ Below w.heap.size w w' := by
  have := parse_any [97, 46, 46, 98, 64, 99] w hG (by decide)
  rw [show parseP [97, 46, 46, 98, 64, 99] = (([], [], []), 90) by decide +kernel] at this
  exact this

theorem xp3 (w : World) (hG : GoodA w) : Calls Tryd.prog 9 #[.string { data := #[97, 64, 45, 99] }] w fun e w' => e = .returned (.tuple #[.agg #[.string { data := #[] }, .string { data := #[] }, .string { data := #[] }], .int .i64 90]) ∧ Below w.heap.size w w' := by
  have := parse_any [97, 64, 45, 99] w hG (by decide)
  rw [show parseP [97, 64, 45, 99] = (([], [], []), 90) by decide +kernel] at this
  exact this

theorem xq1 (w : World) (hG : GoodA w) : Calls Tryd.prog 11 #[.string { data := #[60, 62] }] w fun e w' => e = .returned (.tuple #[.agg #[.string { data := #[] }, .string { data := #[] }, .string { data := #[] }], .int .i64 0]) ∧ Below w.heap.size w w' := by
  have := path_any [60, 62] w hG (by decide)
  rw [show pathP [60, 62] = (([], [], []), 0) by decide +kernel] at this
  exact this

theorem xq2 (w : World) (hG : GoodA w) : Calls Tryd.prog 11 #[.string { data := #[60, 32, 97, 64, 98, 62] }] w fun e w' => e = .returned (.tuple #[.agg #[.string { data := #[] }, .string { data := #[] }, .string { data := #[] }], .int .i64 90]) ∧ Below w.heap.size w w' := by
  have := path_any [60, 32, 97, 64, 98, 62] w hG (by decide)
  rw [show pathP [60, 32, 97, 64, 98, 62] = (([], [], []), 90) by decide +kernel] at this
  exact this

theorem xl1 (w : World) (hG : GoodA w) (h0 : 0 < w.heap.size) : Calls Tryd.prog 8 #[.string { data := #[65, 110, 110, 32, 66, 46, 32, 60, 97, 64, 98, 62, 44, 32, 99, 64, 100, 32, 44, 32, 34, 120, 44, 32, 92, 34, 121, 34, 32, 60, 101, 64, 102, 62] }] w fun e w' => ∃ g c, e = .returned (.tuple #[.slice (some ⟨g, 0, none⟩) 3 c, .int .i64 0]) ∧ w'.cell? ⟨g, 0, none⟩ = some (.string { data := #[65, 110, 110, 32, 66, 46] }) ∧ w'.cell? ⟨g, 1, none⟩ = some (.string { data := #[97] }) ∧ w'.cell? ⟨g, 2, none⟩ = some (.string { data := #[98] }) ∧ w'.cell? ⟨g, 6, none⟩ = some (.string { data := #[120, 44, 32, 34, 121] }) ∧ Below w.heap.size w w' := by
  refine (list_any 5 20 [65, 110, 110, 32, 66, 46, 32, 60, 97, 64, 98, 62, 44, 32, 99, 64, 100, 32, 44, 32, 34, 120, 44, 32, 92, 34, 121, 34, 32, 60, 101, 64, 102, 62] w _ _ sp1 hG h0 (by unfold Ascii; decide) (by decide) (by decide) (by decide)).mono ?_
  rintro e w' ⟨v, rfl, hb, hl⟩
  obtain ⟨A, c, rfl, -, hA, hc⟩ := hb.full
  cases A with
  | none => cases hA rfl
  | some p =>
    obtain ⟨g, rfl, hcell⟩ := hc p rfl
    obtain ⟨k0, k1, k2⟩ := hcell 0 _ rfl
    obtain ⟨k6, _, _⟩ := hcell 2 _ rfl
    exact ⟨g, c, rfl, k0, k1, k2, k6, hl⟩
theorem xl2 (w : World) (hG : GoodA w) (h0 : 0 < w.heap.size) : Calls Tryd.prog 8 #[.string { data := #[97, 64, 98, 44] }] w fun e w' => ∃ v, e = .returned (.tuple #[v, .int .i64 90]) ∧ Below w.heap.size w w' := by
  refine (list_any 5 20 [97, 64, 98, 44] w _ _ sp2 hG h0 (by unfold Ascii; decide) (by decide) (by decide) (by decide)).mono ?_
  rintro e w' ⟨v, rfl, hb, hl⟩
  exact ⟨v, rfl, hl⟩

set_option maxHeartbeats 8000000 in
theorem shown_any (w : World) (hG : GoodA w) (h0 : 0 < w.heap.size) :
    Calls Tryd.prog 7 #[] w fun e w' => e = .returned (.bool true) ∧ Below w.heap.size w w' := by
  have tok0 : Tk 0 := ⟨⟩
  go_enter Tryd.func7, Tryd.ntmps7
  go_wp2_with (first
    | (go_at_call 9; have t_ : Tk 0 := ‹Tk 0›; refine (xp1 _ hG).mono ?_; rintro e w1 ⟨rfl, c1⟩; have b1 := hid (c1); have B1 := hid (b1.out.alloc b1.out.size (.cells #[.string { data := #[] }, .string { data := #[97, 46, 98] }, .string { data := #[99, 46, 100] }] 31)); have F1 := hid (AdAt.new w1 ([], [97, 46, 98], [99, 46, 100])); clear c1; clear t_; clear tok0; have tok1 : Tk 1 := ⟨⟩)
    | (go_at_call 9; have t_ : Tk 1 := ‹Tk 1›; refine (xp2 _ (hG.below B1.out)).mono ?_; rintro e w2 ⟨rfl, c2⟩; have b2 := hid (below_then B1.out c2); have B2 := hid (b2.out.alloc b2.out.size (.cells #[.string { data := #[] }, .string { data := #[] }, .string { data := #[] }] 31)); have F2 := hid ((F1.out.below c2).alloc (.cells #[.string { data := #[] }, .string { data := #[] }, .string { data := #[] }] 31)); clear c2; clear t_; clear tok1; have tok2 : Tk 2 := ⟨⟩)
    | (go_at_call 9; have t_ : Tk 2 := ‹Tk 2›; refine (xp3 _ (hG.below B2.out)).mono ?_; rintro e w3 ⟨rfl, c3⟩; have b3 := hid (below_then B2.out c3); have B3 := hid (b3.out.alloc b3.out.size (.cells #[.string { data := #[] }, .string { data := #[] }, .string { data := #[] }] 31)); have F3 := hid ((F2.out.below c3).alloc (.cells #[.string { data := #[] }, .string { data := #[] }, .string { data := #[] }] 31)); clear c3; clear t_; clear tok2; have tok3 : Tk 3 := ⟨⟩)
    | (go_at_call 11; have t_ : Tk 3 := ‹Tk 3›; refine (xq1 _ (hG.below B3.out)).mono ?_; rintro e w4 ⟨rfl, c4⟩; have b4 := hid (below_then B3.out c4); have B4 := hid (b4.out.alloc b4.out.size (.cells #[.string { data := #[] }, .string { data := #[] }, .string { data := #[] }] 31)); have F4 := hid ((F3.out.below c4).alloc (.cells #[.string { data := #[] }, .string { data := #[] }, .string { data := #[] }] 31)); have G4 := hid (AdAt.new w4 ([], [], [])); clear c4; clear t_; clear tok3; have tok4 : Tk 4 := ⟨⟩)
    | (go_at_call 11; have t_ : Tk 4 := ‹Tk 4›; refine (xq2 _ (hG.below B4.out)).mono ?_; rintro e w5 ⟨rfl, c5⟩; have b5 := hid (below_then B4.out c5); have B5 := hid (b5.out.alloc b5.out.size (.cells #[.string { data := #[] }, .string { data := #[] }, .string { data := #[] }] 31)); have F5 := hid ((F4.out.below c5).alloc (.cells #[.string { data := #[] }, .string { data := #[] }, .string { data := #[] }] 31)); have G5 := hid ((G4.out.below c5).alloc (.cells #[.string { data := #[] }, .string { data := #[] }, .string { data := #[] }] 31)); clear c5; clear t_; clear tok4; have tok5 : Tk 5 := ⟨⟩)
    | (go_at_call 8; have t_ : Tk 5 := ‹Tk 5›; refine (xl1 _ (hG.below B5.out) (Nat.lt_of_lt_of_le h0 B5.out.size)).mono ?_; rintro e w6 ⟨g, c, rfl, k0, k1, k2, k6, c6⟩; have b6 := hid (below_then B5.out c6); have F6 := hid (F5.out.below c6); have G6 := hid (G5.out.below c6); have K0 := hid k0; have K1 := hid k1; have K2 := hid k2; have K6 := hid k6; clear k0 k1 k2 k6; clear c6; clear t_; clear tok5; have tok6 : Tk 6 := ⟨⟩)
    | (go_at_call 8; have t_ : Tk 6 := ‹Tk 6›; refine (xl2 _ (hG.below b6.out) (Nat.lt_of_lt_of_le h0 b6.out.size)).mono ?_; rintro e w7 ⟨v7, rfl, c7⟩; have b7 := hid (below_then b6.out c7); have f7 := F6.out.below c7; have g7 := G6.out.below c7; have m0 := keep_below c7 rfl K0.out; have m1 := keep_below c7 rfl K1.out; have m2 := keep_below c7 rfl K2.out; have m6 := keep_below c7 rfl K6.out; have n0 : w7.cell? ⟨w1.heap.size, 0, none⟩ = some (.string { data := #[] }) := f7.c0; have n1 : w7.cell? ⟨w1.heap.size, 1, none⟩ = some (.string { data := #[97, 46, 98] }) := f7.c1; have n2 : w7.cell? ⟨w1.heap.size, 2, none⟩ = some (.string { data := #[99, 46, 100] }) := f7.c2; have o0 : w7.cell? ⟨w4.heap.size, 0, none⟩ = some (.string { data := #[] }) := g7.c0; have o1 : w7.cell? ⟨w4.heap.size, 1, none⟩ = some (.string { data := #[] }) := g7.c1; have o2 : w7.cell? ⟨w4.heap.size, 2, none⟩ = some (.string { data := #[] }) := g7.c2; clear f7 g7 c7; clear t_; clear tok6; have tok7 : Tk 7 := ⟨⟩))
  go_ret
  exact ⟨by first | rfl | simp, b7.out⟩

end Go.Proofs.YtmgndnbcaeepcaaDoor
