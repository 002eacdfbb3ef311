/-
  An item.
-/
import Derived.Test.YtfdmdmahddjjmaaGreatDoorKImK
namespace Go.Proofs.YtfdmdmahddjjmaaGreatDoor
open Go.RowKit Own Im
set_option linter.unusedVariables false
set_option linter.unusedSimpArgs false
set_option maxRecDepth 100000
attribute [local go_sem] str_toList str_size

set_option maxHeartbeats 8000000 in
theorem item_any (b : Nat) (s : Bt) (w : World) (h : RdI w b s) :
    Calls Tryz.prog 100 #[.pointer (some ⟨b, 0, none⟩)] w fun e w' => Reads b w (vItem w.heap.size) (Im.item s) e w' := by
  have hmm := @run_makeMap Tryz.prog
  have hwd := fun W hW => word_any b s W hW
  have hblt := h.lt
  have hdb : w.heap.size ≠ b := by omega
  have H := hid h
  clear h
  obtain ⟨R, hR⟩ : ∃ R, R = Im.item s := ⟨_, rfl⟩
  rw [← hR]
  unfold Im.item at hR
  obtain ⟨x, s1, hw⟩ : ∃ x s1, Im.word s = (x, s1) := ⟨_, _, rfl⟩
  rw [hw] at hR hwd
  dsimp only at hR hwd
  obtain ⟨K, hK⟩ : ∃ K, kindOf itemKinds x = K := ⟨_, rfl⟩
  have hK0 : 0 ≤ K := by rw [← hK]; exact kind_nonneg x
  rw [hK] at hR
  obtain ⟨pk, hpk⟩ : ∃ pk, (x == [66, 79, 68, 89, 46, 80, 69, 69, 75]) = pk := ⟨_, rfl⟩
  have hpk2 : decide (x = [66, 79, 68, 89, 46, 80, 69, 69, 75]) = pk := by rw [← hpk]; by_cases hx : x = [66, 79, 68, 89, 46, 80, 69, 69, 75] <;> simp [hx]
  rw [hpk2] at hR
  clear hpk2 hw
  by_cases k0 : K = 0
  · rw [if_pos k0] at hR
    have HR := hid hR
    clear hR
    subst k0
    go_enter Tryz.func100, Tryz.ntmps100
    go_wp2_with (first
      | (go_at_call 25; refine (hwd _ (H.out.below ((Below.refl _ _).alloc (Nat.le_refl _) _))).mono ?_; rintro e w1 ⟨rfl, r1, o1⟩; have hM := MapIn.new' w1; have R1 := hid r1; have O1 := hid (Only.trans (Only.of ((Below.refl w.heap.size w).alloc (Nat.le_refl _) (.cells #[.int .i64 0, .slice none 0 0, .int .i64 0, .bool false, .int .i64 0, .int .i64 0] 37)) (Nat.le_of_lt H.out.lt)) o1); have Z1 := hid ((show ItAt (w.alloc (.cells #[.int .i64 0, .slice none 0 0, .int .i64 0, .bool false, .int .i64 0, .int .i64 0] 37)) w.heap.size 0 (.slice none 0 0) 0 false 0 0 from heap_alloc_new w _).only o1 hdb); clear r1 o1)
      | (refine wpList_putIn w1 _ rfl _ _ _ rfl Tryz.underlying100 Tryz.underlying9 _ _ rfl (by assumption) _ rfl _ rfl (by rfl) ?_; intro w_ h_; try (have hlk := lookK itemKinds x h_.map; rw [hK] at hlk))
      | (go_at_call 28; refine (must_f _).mono ?_; rintro e w2 ⟨rfl, he⟩; obtain rfl := he.symm))
    exact ⟨rfl, Reads.panic HR.out (O1.out.trans (Only.of (h_.low.alloc h_.low.size _) (Nat.le_of_lt R1.out.lt)))⟩
  rw [if_neg k0] at hR
  have kpos : 0 < K := by omega
  by_cases k7 : K ≠ 7
  · rw [if_pos k7] at hR
    have HR := hid hR
    clear hR
    have kne : (K != 7) = true := by simpa using k7
    have kpk : pk = false := by
      rw [← hpk, beq_eq_false_iff_ne]
      rintro rfl
      exact k7 hK.symm
    subst kpk
    go_enter Tryz.func100, Tryz.ntmps100
    go_wp2_with (first
      | (go_at_call 25; refine (hwd _ (H.out.below ((Below.refl _ _).alloc (Nat.le_refl _) _))).mono ?_; rintro e w1 ⟨rfl, r1, o1⟩; have hM := MapIn.new' w1; have R1 := hid r1; have O1 := hid (Only.trans (Only.of ((Below.refl w.heap.size w).alloc (Nat.le_refl _) (.cells #[.int .i64 0, .slice none 0 0, .int .i64 0, .bool false, .int .i64 0, .int .i64 0] 37)) (Nat.le_of_lt H.out.lt)) o1); have Z1 := hid ((show ItAt (w.alloc (.cells #[.int .i64 0, .slice none 0 0, .int .i64 0, .bool false, .int .i64 0, .int .i64 0] 37)) w.heap.size 0 (.slice none 0 0) 0 false 0 0 from heap_alloc_new w _).only o1 hdb); clear r1 o1)
      | (refine wpList_putIn w1 _ rfl _ _ _ rfl Tryz.underlying100 Tryz.underlying9 _ _ rfl (by assumption) _ rfl _ rfl (by rfl) ?_; intro w_ h_; try (have hlk := lookK itemKinds x h_.map; rw [hK] at hlk))
      | (go_at_call 28; refine (must_t _).mono ?_; rintro e w2 ⟨rfl, he⟩; obtain rfl := he.symm; have a2 := h_.low.alloc h_.low.size (.cells #[.int .i64 K, .slice none 0 0, .int .i64 0, .bool false, .int .i64 0, .int .i64 (-1)] 37); have O2 := hid (O1.out.trans (Only.of a2 (Nat.le_of_lt R1.out.lt))); have R2 := hid (R1.out.below a2); have k2 : ItAt _ w_.heap.size K (.slice none 0 0) 0 false 0 (-1) := heap_alloc_new w_ (.cells #[.int .i64 K, .slice none 0 0, .int .i64 0, .bool false, .int .i64 0, .int .i64 (-1)] 37); have z2 := Z1.out.below a2; have hwl := h_.low.size; have hcd : w.heap.size ≠ w_.heap.size := (by have := O1.out.size; have := Z1.out.lt; omega); have p0 := k2.c0; have pf0 := k2.free 0; have p1 := k2.c1; have pf1 := k2.free 1; have p2 := k2.c2; have pf2 := k2.free 2; have p3 := k2.c3; have pf3 := k2.free 3; have p4 := k2.c4; have pf4 := k2.free 4; have p5 := k2.c5; have pf5 := k2.free 5; have y0 := z2.c0; have yf0 := z2.free 0; have y1 := z2.c1; have yf1 := z2.free 1; have y2 := z2.c2; have yf2 := z2.free 2; have y3 := z2.c3; have yf3 := z2.free 3; have y4 := z2.c4; have yf4 := z2.free 4; have y5 := z2.c5; have yf5 := z2.free 5; clear a2 k2 z2))
    refine bodyPost_ret (v := .agg #[.int .i64 K, .slice none 0 0, .int .i64 0, .bool false, .int .i64 0, .int .i64 (-1)]) (by first | (simp [results, Tryz.results100, go_sem, y0, y1, y2, y3, y4, y5]; done) | (simp [results, Tryz.results100, go_sem, y0, y1, y2, y3, y4, y5]; rfl)) rfl ?_
    exact Reads.give HR.out ((((((O2.out.setNew hblt (Nat.le_refl _) _).setNew hblt (Nat.le_refl _) _).setNew hblt (Nat.le_refl _) _).setNew hblt (Nat.le_refl _) _).setNew hblt (Nat.le_refl _) _).setNew hblt (Nat.le_refl _) _) ⟨_, rfl, GBuf.nil (by have := O2.out.size; simpa [World.setCell] using this)⟩ ((((((R2.out.far hblt _).far hblt _).far hblt _).far hblt _).far hblt _).far hblt _)
  · rw [if_neg k7] at hR
    have k7 : K = 7 := Decidable.not_not.1 k7
    subst k7
    have HR := hid hR
    clear hR
    have tok0 : Tk 0 := ⟨⟩
    go_enter Tryz.func100, Tryz.ntmps100
    go_wp2_with (first
      | (go_at_call 25; refine (hwd _ (H.out.below ((Below.refl _ _).alloc (Nat.le_refl _) _))).mono ?_; rintro e w1 ⟨rfl, r1, o1⟩; have hM := MapIn.new' w1; have R1 := hid r1; have O1 := hid (Only.trans (Only.of ((Below.refl w.heap.size w).alloc (Nat.le_refl _) (.cells #[.int .i64 0, .slice none 0 0, .int .i64 0, .bool false, .int .i64 0, .int .i64 0] 37)) (Nat.le_of_lt H.out.lt)) o1); have Z1 := hid ((show ItAt (w.alloc (.cells #[.int .i64 0, .slice none 0 0, .int .i64 0, .bool false, .int .i64 0, .int .i64 0] 37)) w.heap.size 0 (.slice none 0 0) 0 false 0 0 from heap_alloc_new w _).only o1 hdb); clear r1 o1)
      | (refine wpList_putIn w1 _ rfl _ _ _ rfl Tryz.underlying100 Tryz.underlying9 _ _ rfl (by assumption) _ rfl _ rfl (by rfl) ?_; intro w_ h_; try (have hlk := lookK itemKinds x h_.map; rw [hK] at hlk))
      | (go_at_call 28; refine (must_t _).mono ?_; rintro e w2 ⟨rfl, he⟩; obtain rfl := he.symm; have a2 := h_.low.alloc h_.low.size (.cells #[.int .i64 7, .slice none 0 0, .int .i64 0, .bool pk, .int .i64 0, .int .i64 (-1)] 37); have O2 := hid (O1.out.trans (Only.of a2 (Nat.le_of_lt R1.out.lt))); have R2 := hid (R1.out.below a2); have K2 := hid (show ItAt _ w_.heap.size 7 (.slice none 0 0) 0 pk 0 (-1) from heap_alloc_new w_ (.cells #[.int .i64 7, .slice none 0 0, .int .i64 0, .bool pk, .int .i64 0, .int .i64 (-1)] 37)); have Z2 := hid (Z1.out.below a2); have hwl := h_.low.size; have hwc : w.heap.size ≤ w_.heap.size := (by have := O1.out.size; omega); have hcd : w.heap.size ≠ w_.heap.size := (by have := Z1.out.lt; omega); have hcb : w_.heap.size ≠ b := (by have := R1.out.lt; omega); have hbc : b < w_.heap.size := (by have := R1.out.lt; omega); clear a2)
      | (go_at_call 53; have t_ : Tk 0 := ‹Tk 0›; refine (sign_any b s1 [91] _ R2.out).mono ?_; intro e w3 h3; rcases sign_cases h3 with ⟨q3, rfl, o3⟩ | ⟨s3, q3, rfl, r3, o3⟩ <;> (first | (have R3 := hid r3; have Q3 := hid q3; have O3 := hid (O2.out.trans o3); have k3 := K2.out.only o3 hcb; have z3 := Z2.out.only o3 hdb; have K3 := hid k3; have Z3 := hid z3; clear k3 z3; have Y3 := hid o3; clear o3 q3 r3 h3) | (have O3 := hid (O2.out.trans o3); have Q3 := hid q3; clear o3 q3 h3)) <;> (clear t_ tok0; have tok1 : Tk 1 := ⟨⟩))
      | (go_at_call 132; refine (section_any b w_.heap.size s3 _ 7 pk 0 (-1) R3.out K3.out hbc).mono ?_; intro e w4 h4; rcases h4.cases with ⟨q4, rfl, o4⟩ | ⟨sec, wh, s4, sv, q4, rfl, r4, n4, k4, o4⟩ <;> (first | (obtain ⟨A4, c4, rfl, -, -, -⟩ := n4.full; have O4 := hid (O3.out.two_trans o4 hwc); have Q4 := hid q4; have Z4 := hid (Z3.out.two o4 hdb hcd); have R4 := hid r4; have N4 := hid n4; have K4 := hid k4; clear q4 r4 n4 k4 o4 h4) | (have O4 := hid (O3.out.two_trans o4 hwc); have Q4 := hid q4; clear q4 o4 h4)))
      | (go_at_call 53; have t_ : Tk 1 := ‹Tk 1›; refine (sign_any b s4 [93] _ R4.out).mono ?_; intro e w5 h5; rcases sign_cases h5 with ⟨q5, rfl, o5⟩ | ⟨s5, q5, rfl, r5, o5⟩ <;> (first | (have R5 := hid r5; have Q5 := hid q5; have O5 := hid (O4.out.trans o5); have k5 := K4.out.only o5 hcb; have z5 := Z4.out.only o5 hdb; have K5 := hid k5; have Z5 := hid z5; clear k5 z5; have Y5 := hid o5; clear o5 q5 r5 h5) | (have O5 := hid (O4.out.trans o5); have Q5 := hid q5; clear o5 q5 h5)) <;> (clear t_ tok1; have tok2 : Tk 2 := ⟨⟩))
      | (go_at_call 26; refine (takes_any b s5 [60] _ R5.out).mono ?_; intro e w6 h6; rcases takes_cases h6 with ⟨s6, q6, rfl, r6, o6⟩ | ⟨s6, q6, rfl, r6, o6⟩ <;> (have Q6 := hid q6; have R6 := hid r6; have O6 := hid (O5.out.trans o6); have k6 := K5.out.only o6 hcb; have z6 := Z5.out.only o6 hdb; have Y6 := hid o6; clear q6 r6 o6 h6) <;> (first | (have l6 := takes_no Q6.out; have p0 := k6.c0; have pf0 := k6.free 0; have p1 := k6.c1; have pf1 := k6.free 1; have p2 := k6.c2; have pf2 := k6.free 2; have p3 := k6.c3; have pf3 := k6.free 3; have p4 := k6.c4; have pf4 := k6.free 4; have p5 := k6.c5; have pf5 := k6.free 5; have y0 := z6.c0; have yf0 := z6.free 0; have y1 := z6.c1; have yf1 := z6.free 1; have y2 := z6.c2; have yf2 := z6.free 2; have y3 := z6.c3; have yf3 := z6.free 3; have y4 := z6.c4; have yf4 := z6.free 4; have y5 := z6.c5; have yf5 := z6.free 5; have K6 := hid k6; have Z6 := hid z6; clear k6 z6) | (have K6 := hid k6; have Z6 := hid z6; clear k6 z6)))
      | (go_at_call 103; have t_ : Tk 2 := ‹Tk 2›; refine (num_any b s6 0 4294967295 _ R6.out).mono ?_; intro e w7 h7; rcases h7.cases with ⟨q7, rfl, o7⟩ | ⟨n7, s7, y7, q7, rfl, rfl, r7, o7⟩ <;> (first | (have k7 := K6.out.only o7 hcb; have u7 := k7.c4; have v7 := k7.free 4; have R7 : Hid (RdI (w7.setCell ⟨w_.heap.size, 4, none⟩ (.int .i64 n7)) b s7) := hid (r7.far hbc _); have Q7 := hid q7; have K7 := hid (k7.set4 n7); have Z7 : Hid (ItAt (w7.setCell ⟨w_.heap.size, 4, none⟩ (.int .i64 n7)) w.heap.size 0 (.slice none 0 0) 0 false 0 0) := hid ((Z6.out.only o7 hdb).far hcd _); have O7 : Hid (Only b w (w7.setCell ⟨w_.heap.size, 4, none⟩ (.int .i64 n7))) := hid ((O6.out.trans o7).setNew hblt hwc _); have Y7 := hid o7; clear r7 q7 o7 h7 k7) | (have O7 := hid (O6.out.trans o7); have Q7 := hid q7; clear q7 o7 h7)) <;> (clear t_ tok2; have tok3 : Tk 3 := ⟨⟩))
      | (go_at_call 53; have t_ : Tk 3 := ‹Tk 3›; refine (sign_any b s7 [46] _ R7.out).mono ?_; intro e w8 h8; rcases sign_cases h8 with ⟨q8, rfl, o8⟩ | ⟨s8, q8, rfl, r8, o8⟩ <;> (first | (have R8 := hid r8; have Q8 := hid q8; have O8 := hid (O7.out.trans o8); have k8 := K7.out.only o8 hcb; have z8 := Z7.out.only o8 hdb; have K8 := hid k8; have Z8 := hid z8; clear k8 z8; have Y8 := hid o8; clear o8 q8 r8 h8) | (have O8 := hid (O7.out.trans o8); have Q8 := hid q8; clear o8 q8 h8)) <;> (clear t_ tok3; have tok4 : Tk 4 := ⟨⟩))
      | (go_at_call 103; have t_ : Tk 4 := ‹Tk 4›; refine (num_any b s8 1 4294967295 _ R8.out).mono ?_; intro e w9 h9; rcases h9.cases with ⟨q9, rfl, o9⟩ | ⟨n9, s9, y9, q9, rfl, rfl, r9, o9⟩ <;> (first | (have k9 := K8.out.only o9 hcb; have u9 := k9.c5; have v9 := k9.free 5; have R9 : Hid (RdI (w9.setCell ⟨w_.heap.size, 5, none⟩ (.int .i64 n9)) b s9) := hid (r9.far hbc _); have Q9 := hid q9; have K9 := hid (k9.set5 n9); have Z9 : Hid (ItAt (w9.setCell ⟨w_.heap.size, 5, none⟩ (.int .i64 n9)) w.heap.size 0 (.slice none 0 0) 0 false 0 0) := hid ((Z8.out.only o9 hdb).far hcd _); have O9 : Hid (Only b w (w9.setCell ⟨w_.heap.size, 5, none⟩ (.int .i64 n9))) := hid ((O8.out.trans o9).setNew hblt hwc _); have Y9 := hid o9; clear r9 q9 o9 h9 k9) | (have O9 := hid (O8.out.trans o9); have Q9 := hid q9; clear q9 o9 h9)) <;> (clear t_ tok4; have tok5 : Tk 5 := ⟨⟩))
      | (go_at_call 53; have t_ : Tk 5 := ‹Tk 5›; refine (sign_any b s9 [62] _ R9.out).mono ?_; intro e w10 h10; rcases sign_cases h10 with ⟨q10, rfl, o10⟩ | ⟨s10, q10, rfl, r10, o10⟩ <;> (first | (have R10 := hid r10; have Q10 := hid q10; have O10 := hid (O9.out.trans o10); have k10 := K9.out.only o10 hcb; have z10 := Z9.out.only o10 hdb; have p0 := k10.c0; have pf0 := k10.free 0; have p1 := k10.c1; have pf1 := k10.free 1; have p2 := k10.c2; have pf2 := k10.free 2; have p3 := k10.c3; have pf3 := k10.free 3; have p4 := k10.c4; have pf4 := k10.free 4; have p5 := k10.c5; have pf5 := k10.free 5; have y0 := z10.c0; have yf0 := z10.free 0; have y1 := z10.c1; have yf1 := z10.free 1; have y2 := z10.c2; have yf2 := z10.free 2; have y3 := z10.c3; have yf3 := z10.free 3; have y4 := z10.c4; have yf4 := z10.free 4; have y5 := z10.c5; have yf5 := z10.free 5; have K10 := hid k10; have Z10 := hid z10; clear k10 z10; have Y10 := hid o10; clear o10 q10 r10 h10) | (have O10 := hid (O9.out.trans o10); have Q10 := hid q10; clear o10 q10 h10)) <;> (clear t_ tok5; have tok6 : Tk 6 := ⟨⟩)))
    all_goals first
      | (refine ⟨rfl, Reads.panic ?_ O10.out⟩; rw [HR.out]; simp [most, Q3.out, Q4.out, Q5.out, Q6.out, Q7.out, Q8.out, Q9.out, Q10.out]; done)
      | (refine ⟨rfl, Reads.panic ?_ O9.out⟩; rw [HR.out]; simp [most, Q3.out, Q4.out, Q5.out, Q6.out, Q7.out, Q8.out, Q9.out]; done)
      | (refine ⟨rfl, Reads.panic ?_ O8.out⟩; rw [HR.out]; simp [most, Q3.out, Q4.out, Q5.out, Q6.out, Q7.out, Q8.out]; done)
      | (refine ⟨rfl, Reads.panic ?_ O7.out⟩; rw [HR.out]; simp [most, Q3.out, Q4.out, Q5.out, Q6.out, Q7.out]; done)
      | (refine ⟨rfl, Reads.panic ?_ O5.out⟩; rw [HR.out]; simp [most, Q3.out, Q4.out, Q5.out]; done)
      | (refine ⟨rfl, Reads.panic ?_ O4.out⟩; rw [HR.out]; simp [most, Q3.out, Q4.out]; done)
      | (refine ⟨rfl, Reads.panic ?_ O3.out⟩; rw [HR.out]; simp [most, Q3.out]; done)
      | skip
    all_goals clear hmm hwd
    · have hb3 := R3.out.lt
      have hc3 : w_.heap.size + 1 ≤ w3.heap.size := K3.out.lt
      have hd3 : w.heap.size + 1 ≤ w3.heap.size := Z3.out.lt
      have hw3 : w.heap.size ≤ w3.heap.size := by omega
      have N6 := (GBuf.stays (GBuf.stays N4.out (Y5.out.stays hb3)) (Y6.out.stays hb3))
      refine bodyPost_ret (v := .agg #[.int .i64 7, .slice A4 sec.length c4, .int .i64 wh, .bool pk, .int .i64 0, .int .i64 (-1)]) (by first | (simp [results, Tryz.results100, go_sem, y0, y1, y2, y3, y4, y5]; done) | (simp [results, Tryz.results100, go_sem, y0, y1, y2, y3, y4, y5]; rfl)) rfl ?_
      exact Reads.give (x := { kind := 7, sec := sec, what := wh, peek := pk, frm := 0, of := -1 }) (by rw [HR.out]; simp [Q3.out, Q4.out, Q5.out, Q6.out, takes_no Q6.out]) ((((((O6.out.setNew hblt (Nat.le_refl _) _).setNew hblt (Nat.le_refl _) _).setNew hblt (Nat.le_refl _) _).setNew hblt (Nat.le_refl _) _).setNew hblt (Nat.le_refl _) _).setNew hblt (Nat.le_refl _) _) ⟨_, rfl, GBuf.mono (GBuf.stays (GBuf.stays (GBuf.stays (GBuf.stays (GBuf.stays (GBuf.stays N6 ((setStays _ _ _ _).mono hd3)) ((setStays _ _ _ _).mono hd3)) ((setStays _ _ _ _).mono hd3)) ((setStays _ _ _ _).mono hd3)) ((setStays _ _ _ _).mono hd3)) ((setStays _ _ _ _).mono hd3)) hw3⟩ ((((((R6.out.far hblt _).far hblt _).far hblt _).far hblt _).far hblt _).far hblt _)
    · have hb3 := R3.out.lt
      have hc3 : w_.heap.size + 1 ≤ w3.heap.size := K3.out.lt
      have hd3 : w.heap.size + 1 ≤ w3.heap.size := Z3.out.lt
      have hw3 : w.heap.size ≤ w3.heap.size := by omega
      have N6 := (GBuf.stays (GBuf.stays (GBuf.stays (GBuf.stays (GBuf.stays (GBuf.stays (GBuf.stays (GBuf.stays N4.out (Y5.out.stays hb3)) (Y6.out.stays hb3)) (Y7.out.stays hb3)) ((setStays _ _ _ _).mono hc3)) (Y8.out.stays hb3)) (Y9.out.stays hb3)) ((setStays _ _ _ _).mono hc3)) (Y10.out.stays hb3))
      refine bodyPost_ret (v := .agg #[.int .i64 7, .slice A4 sec.length c4, .int .i64 wh, .bool pk, .int .i64 n7, .int .i64 n9]) (by first | (simp [results, Tryz.results100, go_sem, y0, y1, y2, y3, y4, y5]; done) | (simp [results, Tryz.results100, go_sem, y0, y1, y2, y3, y4, y5]; rfl)) rfl ?_
      exact Reads.give (x := { kind := 7, sec := sec, what := wh, peek := pk, frm := n7, of := n9 }) (by rw [HR.out]; simp [most, Q3.out, Q4.out, Q5.out, Q6.out, Q7.out, Q8.out, Q9.out, Q10.out]) ((((((O10.out.setNew hblt (Nat.le_refl _) _).setNew hblt (Nat.le_refl _) _).setNew hblt (Nat.le_refl _) _).setNew hblt (Nat.le_refl _) _).setNew hblt (Nat.le_refl _) _).setNew hblt (Nat.le_refl _) _) ⟨_, rfl, GBuf.mono (GBuf.stays (GBuf.stays (GBuf.stays (GBuf.stays (GBuf.stays (GBuf.stays N6 ((setStays _ _ _ _).mono hd3)) ((setStays _ _ _ _).mono hd3)) ((setStays _ _ _ _).mono hd3)) ((setStays _ _ _ _).mono hd3)) ((setStays _ _ _ _).mono hd3)) ((setStays _ _ _ _).mono hd3)) hw3⟩ ((((((R10.out.far hblt _).far hblt _).far hblt _).far hblt _).far hblt _).far hblt _)
end Go.Proofs.YtfdmdmahddjjmaaGreatDoor
