/-
  The reference's Good and Print.
-/
import Derived.Test.YtmgndnbcaeepcaaDoorRDot
namespace Go.Proofs.YtmgndnbcaeepcaaDoor
open Go.RowKit Own Ad
set_option linter.unusedVariables false
set_option linter.unusedSimpArgs false
set_option maxRecDepth 100000
attribute [local go_sem] str_toList

theorem rdot_atom (l : List UInt8) (w : World) (hG : GoodA w) (hl : l.length ≤ 1000000000) : Calls Tryd.prog 34 #[.string (str l), .bool false] w fun e w' => e = .returned (.bool (dottedP atomP l)) ∧ Below w.heap.size w w' := by
  refine (rdotted_any false l w hl).mono ?_
  rintro e w' ⟨rfl, rfl⟩
  exact ⟨rfl, Below.refl _ _⟩
theorem rdot_label (l : List UInt8) (w : World) (hG : GoodA w) (hl : l.length ≤ 1000000000) : Calls Tryd.prog 34 #[.string (str l), .bool true] w fun e w' => e = .returned (.bool (dottedP labelP l)) ∧ Below w.heap.size w w' := by
  refine (rdotted_any true l w hl).mono ?_
  rintro e w' ⟨rfl, rfl⟩
  exact ⟨rfl, Below.refl _ _⟩

theorem rgood_any (n l d : List UInt8) (w : World) (hG : GoodA w) (h1 : l.length ≤ 1000000000) (h2 : d.length ≤ 1000000000) :
    Calls Tryd.prog 21 #[.agg #[.string (str n), .string (str l), .string (str d)]] w fun e w' => e = .returned (.bool (goodP l d)) ∧ Below w.heap.size w w' := by
  have ha := fun W g => rdot_atom l W g h1
  have hb := fun W g => rdot_label d W g h2
  obtain ⟨R, hR⟩ : ∃ R, R = goodP l d := ⟨_, rfl⟩
  rw [← hR]
  unfold goodP at hR
  cases hq : dottedP atomP l with
  | true =>
    rw [hq, Bool.true_and] at hR
    rw [hq] at ha
    obtain ⟨S, hS⟩ : ∃ S, S = dottedP labelP d := ⟨_, rfl⟩
    rw [← hS] at hb hR
    subst hR
    have k0 : (w.alloc (.cells #[.string (str n), .string (str l), .string (str d)] 31)).cell? ⟨w.heap.size, 2, none⟩ = some (.string (str d)) := box_at w _ _ _ 2 _ rfl
    have tok0 : Tk 0 := ⟨⟩
    clear hS hq
    go_enter Tryd.func21, Tryd.ntmps21
    go_wp2_with (first
      | (go_at_call 34; have t_ : Tk 0 := ‹Tk 0›; refine (ha _ (hG.below ((Below.refl _ _).alloc (Nat.le_refl _) _))).mono ?_; rintro e w1 ⟨rfl, c1⟩; have b1 := below_then ((Below.refl w.heap.size w).alloc (Nat.le_refl _) _) c1; have k2 := keep_below c1 rfl k0; clear c1; clear t_; clear tok0; have tok1 : Tk 1 := ⟨⟩)
      | (go_at_call 34; have t_ : Tk 1 := ‹Tk 1›; refine (hb _ (hG.below b1)).mono ?_; rintro e w2 ⟨rfl, c2⟩; have b2 := below_then b1 c2; clear c2))
    go_ret
    exact ⟨by first | rfl | simp, b2⟩
  | false =>
    rw [hq, Bool.false_and] at hR
    rw [hq] at ha
    subst hR
    clear hq
    go_enter Tryd.func21, Tryd.ntmps21
    go_wp2_with (go_at_call 34; refine (ha _ (hG.below ((Below.refl _ _).alloc (Nat.le_refl _) _))).mono ?_; rintro e w1 ⟨rfl, c1⟩; have b1 := below_then ((Below.refl w.heap.size w).alloc (Nat.le_refl _) _) c1; clear c1)
    go_ret
    exact ⟨by first | rfl | simp, b1⟩

set_option maxHeartbeats 1000000 in
theorem rprint_any (n l d : List UInt8) (w : World) (hG : GoodA w) (h1 : l.length ≤ 1000000000) (h2 : d.length ≤ 1000000000) :
    Calls Tryd.prog 14 #[.agg #[.string (str n), .string (str l), .string (str d)]] w fun e w' => e = .returned (.tuple #[.string (str (printP (n, l, d)).1), .int .i64 (printP (n, l, d)).2]) ∧ Below w.heap.size w w' := by
  have hg := fun W g => rgood_any n l d W g h1 h2
  have hP : printP (n, l, d) = if goodP l d = true then (l ++ 64 :: d, 0) else ([], 90) := rfl
  rw [hP]
  have b0 := hid ((Below.refl w.heap.size w).alloc (Nat.le_refl _) (.cells #[.string (str n), .string (str l), .string (str d)] 31))
  have k0 := hid (AdAt.new w (n, l, d))
  have hz1 := str_size l
  have hz2 := str_size d
  clear hP
  cases hq : goodP l d with
  | true =>
    rw [hq] at hg
    clear hq
    rw [if_pos rfl]
    go_enter Tryd.func14, Tryd.ntmps14
    go_wp2_with (go_at_call 21; refine (hg _ (hG.below b0.out)).mono ?_; rintro e w3 ⟨rfl, c3⟩; have i1 := k0.out.below c3; have B3 := hid (below_then b0.out c3); have x1 := i1.c1; have x2 := i1.c2; clear c3 i1)
    exact bodyPost_ret (v := .tuple #[.string (str (l ++ 64 :: d)), .int .i64 0]) (by simp [results, Tryd.results14, go_sem]; exact at_text l d) rfl ⟨rfl, B3.out⟩
  | false =>
    rw [hq] at hg
    clear hq
    rw [if_neg (by simp)]
    go_enter Tryd.func14, Tryd.ntmps14
    go_wp2_with (go_at_call 21; refine (hg _ (hG.below b0.out)).mono ?_; rintro e w3 ⟨rfl, c3⟩; have B3 := hid (below_then b0.out c3); clear c3)
    exact bodyPost_ret (v := .tuple #[.string (str []), .int .i64 90]) (by simp [results, Tryd.results14, go_sem]; rfl) rfl ⟨rfl, B3.out⟩

end Go.Proofs.YtmgndnbcaeepcaaDoor
