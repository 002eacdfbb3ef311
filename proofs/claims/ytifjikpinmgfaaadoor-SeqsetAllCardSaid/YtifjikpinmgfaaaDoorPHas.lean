/-
  The program's Has: its closures, and the library's ContainsFunc over ranges.
-/
import Derived.Test.YtifjikpinmgfaaaDoorRHas
namespace Go.Proofs.YtifjikpinmgfaaaDoor
open Go.RowKit Own Dec Sq
set_option linter.unusedVariables false
set_option linter.unusedSimpArgs false
set_option maxRecDepth 100000

theorem below_dn {B : Nat} {w w' : World} (h : Below B w w') (n : Nat) : Below B w (w'.drewN n) := ⟨h.os, h.tape, h.output, h.size, h.block⟩
theorem end_any (k g : Int) (bg : Nat) (w : World) (hg : w.cell? ⟨bg, 0, none⟩ = some (.int .i64 g)) :
    Calls Tryd.prog 18 #[.int .i64 k, .pointer (some ⟨bg, 0, none⟩)] w fun e w' => e = .returned (.int .i64 (end_ g k)) ∧ w = w' := by
  by_cases hk : k = 0
  · have e1 : (k == 0) = true := by simpa using hk
    have he : end_ g k = g := by unfold end_; rw [if_pos hk]
    rw [he]
    clear hk he
    go_enter Tryd.func18, Tryd.ntmps18
    go_wp2
    go_ret
    exact ⟨rfl, rfl⟩
  · have e1 : (k == 0) = false := by simpa using hk
    have he : end_ g k = k := by unfold end_; rw [if_neg hk]
    rw [he]
    clear hk he
    go_enter Tryd.func18, Tryd.ntmps18
    go_wp2
    go_ret
    exact ⟨rfl, rfl⟩

/-- What the inner function has captured. -/
structure Cap (w : World) (n g : Int) (bg bf bn : Nat) : Prop where
  hg : w.cell? ⟨bg, 0, none⟩ = some (.int .i64 g)
  hf : w.cell? ⟨bf, 0, none⟩ = some (.func (.func 18) #[] #[.pointer (some ⟨bg, 0, none⟩)])
  hn : w.cell? ⟨bn, 0, none⟩ = some (.int .i64 n)
theorem Cap.below {w w' : World} {n g : Int} {bg bf bn : Nat} (h : Cap w n g bg bf bn) (hb : Below w.heap.size w w') : Cap w' n g bg bf bn :=
  ⟨keep_below hb rfl h.hg, keep_below hb rfl h.hf, keep_below hb rfl h.hn⟩

set_option maxHeartbeats 2000000 in
theorem inner_any (r : Rg) (n g : Int) (bg bf bn : Nat) (w : World) (hc : Cap w n g bg bf bn) :
    Calls Tryd.prog 20 #[.agg #[.int .i64 r.1, .int .i64 r.2], .pointer (some ⟨bg, 0, none⟩), .pointer (some ⟨bf, 0, none⟩), .pointer (some ⟨bn, 0, none⟩)] w fun e w' => e = .returned (.bool (inR n g r)) ∧ Below w.heap.size w w' := by
  obtain ⟨a, b⟩ := r
  obtain ⟨R, hR⟩ : ∃ R, R = inR n g (a, b) := ⟨_, rfl⟩
  rw [← hR]
  have HR := hid hR
  have HC := hid (hc.below ((Below.refl _ _).alloc (Nat.le_refl _) (.cells #[.int .i64 a, .int .i64 b] 30)))
  have hlg := HC.out.hg
  have hlf := HC.out.hf
  have hln := HC.out.hn
  clear hR hc
  have hxe : ∀ k W, W.cell? ⟨bg, 0, none⟩ = some (.int .i64 g) → Calls Tryd.prog 18 #[.int .i64 k, .pointer (some ⟨bg, 0, none⟩)] W fun e w' => e = .returned (.int .i64 (end_ g k)) ∧ W = w' := fun k W h => end_any k g bg W h
  have hsplit : (g < 1 ∧ (a = 0 ∨ b = 0)) ∨ (1 ≤ g ∨ g < 1 ∧ ¬ a = 0 ∧ ¬ b = 0) := by omega
  rcases hsplit with ⟨h1, h2⟩ | h1
  · have hr : R = false := by rw [HR.out]; unfold inR; rw [if_pos ⟨h1, h2⟩]
    have HR2 := hid hr
    clear hr HR
    rcases h2 with h2 | h2
    · have e1 : (a == 0) = true := by simpa using h2
      clear h2
      go_enter Tryd.func20, Tryd.ntmps20
      go_wp2_with fail
      go_ret
      exact ⟨by rw [HR2.out]; rfl, (Below.refl _ _).alloc (Nat.le_refl _) _⟩
    · have e2 : (b == 0) = true := by simpa using h2
      clear h2
      cases e1 : (a == 0) with
      | true =>
        go_enter Tryd.func20, Tryd.ntmps20
        go_wp2_with fail
        go_ret
        exact ⟨by rw [HR2.out]; rfl, (Below.refl _ _).alloc (Nat.le_refl _) _⟩
      | false =>
        go_enter Tryd.func20, Tryd.ntmps20
        go_wp2_with fail
        go_ret
        exact ⟨by rw [HR2.out]; rfl, (Below.refl _ _).alloc (Nat.le_refl _) _⟩
  have hr : R = (decide (min (end_ g a) (end_ g b) ≤ n) && decide (n ≤ max (end_ g a) (end_ g b))) := by
    rw [HR.out]; unfold inR; rw [if_neg (by omega)]
  obtain ⟨x, hx⟩ : ∃ x, x = end_ g a := ⟨_, rfl⟩
  obtain ⟨y, hy⟩ : ∃ y, y = end_ g b := ⟨_, rfl⟩
  have hxa := fun q => hxe a ((w.alloc (.cells #[.int .i64 a, .int .i64 b] 30)).drewN q) hlg
  have hxb := fun q => hxe b ((w.alloc (.cells #[.int .i64 a, .int .i64 b] 30)).drewN q) hlg
  rw [← hx] at hr hxa
  rw [← hy] at hr hxb
  have HR2 := hid hr
  clear hr hx hy hxe
  rcases h1 with h1 | ⟨h1, ha, hb⟩
  · have e0 : True := trivial
    go_enter Tryd.func20, Tryd.ntmps20
    go_wp2_with fail
    go_quiet ((go_at_call 18; first | exact Calls.quiet_of_same ((hxa _).mono fun _ _ ⟨he, hw⟩ => ⟨he, hw.symm⟩) | exact Calls.quiet_of_same ((hxb _).mono fun _ _ ⟨he, hw⟩ => ⟨he, hw.symm⟩)))
    by_cases t1 : min x y ≤ n
    · by_cases t2 : n ≤ max x y
      · have hr : R = true := by rw [HR2.out, decide_eq_true t1, decide_eq_true t2]; rfl
        have HR3 := hid hr
        clear HR2 HR hr
        go_wp2_with fail
        go_ret
        exact ⟨by rw [HR3.out]; rfl, below_dn ((Below.refl _ _).alloc (Nat.le_refl _) _) _⟩
      · have hr : R = false := by rw [HR2.out, decide_eq_true t1, decide_eq_false t2]; rfl
        have HR3 := hid hr
        clear HR2 HR hr
        go_wp2_with fail
        go_ret
        exact ⟨by rw [HR3.out]; rfl, below_dn ((Below.refl _ _).alloc (Nat.le_refl _) _) _⟩
    · have hr : R = false := by rw [HR2.out, decide_eq_false t1]; rfl
      have HR3 := hid hr
      clear HR2 HR hr
      go_wp2_with fail
      go_ret
      exact ⟨by rw [HR3.out]; rfl, below_dn ((Below.refl _ _).alloc (Nat.le_refl _) _) _⟩
  · have e1 : (a == 0) = false := by simpa using ha
    have e2 : (b == 0) = false := by simpa using hb
    clear ha hb
    go_enter Tryd.func20, Tryd.ntmps20
    go_wp2_with fail
    go_quiet ((go_at_call 18; first | exact Calls.quiet_of_same ((hxa _).mono fun _ _ ⟨he, hw⟩ => ⟨he, hw.symm⟩) | exact Calls.quiet_of_same ((hxb _).mono fun _ _ ⟨he, hw⟩ => ⟨he, hw.symm⟩)))
    by_cases t1 : min x y ≤ n
    · by_cases t2 : n ≤ max x y
      · have hr : R = true := by rw [HR2.out, decide_eq_true t1, decide_eq_true t2]; rfl
        have HR3 := hid hr
        clear HR2 HR hr
        go_wp2_with fail
        go_ret
        exact ⟨by rw [HR3.out]; rfl, below_dn ((Below.refl _ _).alloc (Nat.le_refl _) _) _⟩
      · have hr : R = false := by rw [HR2.out, decide_eq_true t1, decide_eq_false t2]; rfl
        have HR3 := hid hr
        clear HR2 HR hr
        go_wp2_with fail
        go_ret
        exact ⟨by rw [HR3.out]; rfl, below_dn ((Below.refl _ _).alloc (Nat.le_refl _) _) _⟩
    · have hr : R = false := by rw [HR2.out, decide_eq_false t1]; rfl
      have HR3 := hid hr
      clear HR2 HR hr
      go_wp2_with fail
      go_ret
      exact ⟨by rw [HR3.out]; rfl, below_dn ((Below.refl _ _).alloc (Nat.le_refl _) _) _⟩

end Go.Proofs.YtifjikpinmgfaaaDoor
