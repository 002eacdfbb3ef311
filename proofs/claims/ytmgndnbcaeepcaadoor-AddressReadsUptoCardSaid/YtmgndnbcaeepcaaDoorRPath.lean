/-
  The reference's Parse.
-/
import Derived.Test.YtmgndnbcaeepcaaDoorRGood
import Derived.Test.YtmgndnbcaeepcaaDoorOne
namespace Go.Proofs.YtmgndnbcaeepcaaDoor
open Go.RowKit Own Ad
set_option linter.unusedVariables false
set_option linter.unusedSimpArgs false
set_option maxRecDepth 100000
attribute [local go_sem] str_toList

theorem at_none {s : List UInt8} (h : (64 : UInt8) ∉ s) : parseP s = (([], [], []), 90) := by
  unfold parseP
  rw [Spl.cut_none h, if_neg]
  show ¬ (dottedP atomP s && dottedP labelP []) = true
  rw [show dottedP labelP [] = false from rfl, Bool.and_false]; simp

set_option maxHeartbeats 2000000 in
theorem rparse_any (s : List UInt8) (w : World) (hG : GoodA w) (hs : s.length ≤ 1000000000) :
    Calls Tryd.prog 10 #[.string (str s)] w fun e w' => e = .returned (.tuple #[adV (parseP s).1, .int .i64 (parseP s).2]) ∧ Below w.heap.size w w' := by
  have hsz := str_size s
  have K0 := hid (AdAt.new w ([], [], []))
  have B0 := hid ((Below.refl w.heap.size w).alloc (Nat.le_refl _) (.cells #[.string (str []), .string (str []), .string (str [])] 31))
  obtain ⟨P, hP⟩ : ∃ P, P = parseP s := ⟨_, rfl⟩
  rw [← hP]
  have HP := hid hP
  clear hP
  have y0 := K0.out.c0
  have y1 := K0.out.c1
  have y2 := K0.out.c2
  go_enter Tryd.func10, Tryd.ntmps10
  go_wp2_with fail
  go_loop [4] (fun v4 => ∃ i : Nat, i ≤ s.length ∧ v4 = .int .i64 i ∧ (64 : UInt8) ∉ s.take i) (fun v4 => s.length - (intOf v4).toNat)
  case atStart => exact ⟨0, Nat.zero_le _, rfl, by simp⟩
  case round =>
    obtain ⟨i, hi, rfl, hno⟩ := hrel
    by_cases hil : i < s.length
    · obtain ⟨c, hc⟩ : ∃ c, s[i]? = some c := ⟨_, List.getElem?_eq_getElem hil⟩
      have hix := str_ix hc
      by_cases h64 : c = 64
      · have e1 : ((c.toNat : Int) != 64) = false := by rw [h64]; rfl
        have e2 : ((i : Int) == (s.length : Int)) = false := by rw [beq_eq_false_iff_ne]; omega
        have hsp : s = s.take i ++ 64 :: s.drop (i + 1) := by
          conv => lhs; rw [← List.take_append_drop i s, drop_at hc, h64]
        have hpar : P = if goodP (s.take i) (s.drop (i + 1)) = true then (([], s.take i, s.drop (i + 1)), 0) else (([], [], []), 90) := by
          rw [HP.out]
          unfold parseP
          have : Lib.cut s [64] = (s.take i, s.drop (i + 1), true) := by
            conv => lhs; rw [hsp]
            exact Spl.cut_at _ hno
          rw [this]
        have x1 := str_upto s i
        have x2 := str_from s (i + 1) s.length rfl
        have HPAR := hid hpar
        clear hc hsp hpar hno h64
        have hg := fun W g => rgood_any [] (s.take i) (s.drop (i + 1)) W g (by simp; omega) (by simp; omega)
        have hb0 : (0 : Int) ≤ (i : Int) := Int.natCast_nonneg _
        have hb1 : (i : Int) ≤ (s.length : Int) := by omega
        have hb2 : (0 : Int) ≤ (i : Int) + 1 := by omega
        have hb3 : (i : Int) + 1 ≤ (s.length : Int) := by omega
        have hb4 : IntKind.i64.wrap ((i : Int) + 1) = (i : Int) + 1 := wrap_small (i + 1) (by omega)
        go_wp2_with fail
        go_region_held3 (fun _ => True) (trivial) (fail)
        have hpar := HPAR.out
        cases hq : goodP (s.take i) (s.drop (i + 1)) with
        | true =>
          rw [hq] at hg hpar
          rw [if_pos rfl] at hpar
          subst hpar
          clear HPAR HP hq
          go_wp2_with (go_at_call 21; refine calls_named ?_; intro W2 hW2; have g1 : AdAt W2 w.heap.size ([], [], []) := by { rw [hW2]; exact K0.out.drew.alloc _ }; have g2 : AdAt W2 (w.heap.size + 1) ([], s.take i, s.drop (i + 1)) := by { rw [hW2]; have := AdAt.new (w.alloc (.cells #[.string (str []), .string (str []), .string (str [])] 31)).drew ([], s.take i, s.drop (i + 1)); rw [show (w.alloc (.cells #[.string (str []), .string (str []), .string (str [])] 31)).drew.heap.size = w.heap.size + 1 by simp [World.drew]] at this; exact this }; have g3 : Below w.heap.size w W2 := by { rw [hW2]; exact B0.out.drew.alloc B0.out.drew.size _ }; clear hW2; refine (hg _ (hG.below g3)).mono ?_; rintro e w3 ⟨rfl, c3⟩; have i1 := g1.below c3; have i2 := g2.below c3; have B3 := hid (below_then g3 c3); have x0 := i2.c0; have x3 := i2.c1; have x4 := i2.c2; have u0 := i1.c0; have u1 := i1.c1; have u2 := i1.c2; have z0 := i1.free 0; have z1 := i1.free 1; have z2 := i1.free 2; clear g1 g2 g3 c3 i1 i2)
          exact bodyPost_ret (v := .tuple #[adV ([], s.take i, s.drop (i + 1)), .int .i64 0]) (by first | (simp [results, Tryd.results10, go_sem, adV, u0, u1, u2]; done) | (simp [results, Tryd.results10, go_sem, adV, u0, u1, u2]; rfl)) rfl ⟨rfl, ((B3.out.setCell (by simp) _).setCell (by simp) _).setCell (by simp) _⟩
        | false =>
          rw [hq] at hg hpar
          rw [if_neg (by simp)] at hpar
          subst hpar
          clear HPAR HP hq
          go_wp2_with (go_at_call 21; refine calls_named ?_; intro W2 hW2; have g1 : AdAt W2 w.heap.size ([], [], []) := by { rw [hW2]; exact K0.out.drew.alloc _ }; have g2 : AdAt W2 (w.heap.size + 1) ([], s.take i, s.drop (i + 1)) := by { rw [hW2]; have := AdAt.new (w.alloc (.cells #[.string (str []), .string (str []), .string (str [])] 31)).drew ([], s.take i, s.drop (i + 1)); rw [show (w.alloc (.cells #[.string (str []), .string (str []), .string (str [])] 31)).drew.heap.size = w.heap.size + 1 by simp [World.drew]] at this; exact this }; have g3 : Below w.heap.size w W2 := by { rw [hW2]; exact B0.out.drew.alloc B0.out.drew.size _ }; clear hW2; refine (hg _ (hG.below g3)).mono ?_; rintro e w3 ⟨rfl, c3⟩; have i1 := g1.below c3; have i2 := g2.below c3; have B3 := hid (below_then g3 c3); have x0 := i2.c0; have x3 := i2.c1; have x4 := i2.c2; have u0 := i1.c0; have u1 := i1.c1; have u2 := i1.c2; have z0 := i1.free 0; have z1 := i1.free 1; have z2 := i1.free 2; clear g1 g2 g3 c3 i1 i2)
          exact bodyPost_ret (v := .tuple #[adV ([], [], []), .int .i64 90]) (by first | (simp [results, Tryd.results10, go_sem, adV, u0, u1, u2]; done) | (simp [results, Tryd.results10, go_sem, adV, u0, u1, u2]; rfl)) rfl ⟨rfl, ((B3.out.setCell (by simp) _).setCell (by simp) _).setCell (by simp) _⟩
      · have e1 : ((c.toNat : Int) != 64) = true := by
          rw [bne_iff_ne]; intro h; exact h64 ((u8_eq c 64 (by decide)).1 (by rw [beq_iff_eq]; exact h))
        have HN : Hid ((64 : UInt8) ∉ s.take (i + 1)) := hid (by
          obtain ⟨h1, h2⟩ := List.getElem?_eq_some_iff.1 hc
          rw [List.take_succ_eq_append_getElem h1, h2]
          intro h
          rcases List.mem_append.1 h with h | h
          · exact hno h
          · simp at h; exact h64 h.symm)
        clear hc hno h64
        go_wp2_with fail
        go_round
        case rel => exact ⟨i + 1, by omega, by go_num, HN.out⟩
        case measure => (simp [intOf]) <;> omega
    · obtain rfl : i = s.length := by omega
      rw [List.take_length] at hno
      have hpar := HP.out.trans (at_none hno)
      subst hpar
      clear hno hil
      go_wp2_with fail
      exact bodyPost_ret (v := .tuple #[adV ([], [], []), .int .i64 90]) (by first | (simp [results, Tryd.results10, go_sem, adV, y0, y1, y2]; done) | (simp [results, Tryd.results10, go_sem, adV, y0, y1, y2]; rfl)) rfl ⟨rfl, B0.out⟩

end Go.Proofs.YtmgndnbcaeepcaaDoor
