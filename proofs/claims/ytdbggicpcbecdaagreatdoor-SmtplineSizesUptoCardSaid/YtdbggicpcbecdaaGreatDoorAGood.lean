/-
  good, Parse, Print of the program.
-/
import Derived.Test.YtdbggicpcbecdaaGreatDoorDot
namespace Go.Proofs.YtdbggicpcbecdaaGreatDoor
open Go.RowKit Own Ad
set_option linter.unusedVariables false
set_option linter.unusedSimpArgs false
set_option maxRecDepth 100000

/-- How far a walk is. -/
structure Tk (n : Nat) : Prop where
/-- An address as a value. -/
def adV (a : Ad) : Value := .agg #[.string (str a.1), .string (str a.2.1), .string (str a.2.2)]
attribute [local go_sem] str_toList

theorem box_at (w : World) (cs : Array Value) (t : TypeId) (fr : Nat × Nat) (j : Nat) (v : Value) (h : cs[j]? = some v) : (w.alloc (.cells cs t fr)).cell? ⟨w.heap.size, j, none⟩ = some v := by
  rw [cells_at (heap_alloc_new w _)]; exact h

theorem good_any (n l d : List UInt8) (w : World) (hG : GoodA w) (h1 : l.length ≤ 2147483648) (h2 : d.length ≤ 2147483648) :
    Calls Tryz.prog 74 #[.agg #[.string (str n), .string (str l), .string (str d)]] w fun e w' => e = .returned (.bool (goodP l d)) ∧ Below w.heap.size w w' := by
  have ha := fun W g => dotted_atom l W g h1
  have hb := fun W g => dotted_label d W g h2
  obtain ⟨R, hR⟩ : ∃ R, R = goodP l d := ⟨_, rfl⟩
  rw [← hR]
  unfold goodP at hR
  cases hq : dottedP atomP l with
  | true =>
    rw [hq, Bool.true_and] at hR
    rw [hq] at ha
    obtain ⟨S, hS⟩ : ∃ S, S = dottedP labelP d := ⟨_, rfl⟩
    rw [← hS] at hb hR
    subst hR
    have k0 : (w.alloc (.cells #[.string (str n), .string (str l), .string (str d)] 74)).cell? ⟨w.heap.size, 2, none⟩ = some (.string (str d)) := box_at w _ _ _ 2 _ rfl
    have tok0 : Tk 0 := ⟨⟩
    clear hS hq
    go_enter Tryz.func74, Tryz.ntmps74
    go_wp2_with (first
      | (go_at_call 81; have t_ : Tk 0 := ‹Tk 0›; refine (ha _ (hG.below ((Below.refl _ _).alloc (Nat.le_refl _) _))).mono ?_; rintro e w1 ⟨rfl, c1⟩; have b1 := below_then ((Below.refl w.heap.size w).alloc (Nat.le_refl _) _) c1; have k2 := keep_below c1 rfl k0; clear c1; clear t_; clear tok0; have tok1 : Tk 1 := ⟨⟩)
      | (go_at_call 81; have t_ : Tk 1 := ‹Tk 1›; refine (hb _ (hG.below b1)).mono ?_; rintro e w2 ⟨rfl, c2⟩; have b2 := below_then b1 c2; clear c2))
    go_ret
    exact ⟨by first | rfl | simp, b2⟩
  | false =>
    rw [hq, Bool.false_and] at hR
    rw [hq] at ha
    subst hR
    clear hq
    go_enter Tryz.func74, Tryz.ntmps74
    go_wp2_with (go_at_call 81; refine (ha _ (hG.below ((Below.refl _ _).alloc (Nat.le_refl _) _))).mono ?_; rintro e w1 ⟨rfl, c1⟩; have b1 := below_then ((Below.refl w.heap.size w).alloc (Nat.le_refl _) _) c1; clear c1)
    go_ret
    exact ⟨by first | rfl | simp, b1⟩

/-- A block holds an address. -/
def AdAt (w : World) (b : Nat) (a : Ad) : Prop := w.heap[b]? = some (.cells #[.string (str a.1), .string (str a.2.1), .string (str a.2.2)] 74 (0, 0))
section
variable {w w' : World} {b : Nat} {a : Ad}
theorem AdAt.below (h : AdAt w b a) (hb : Below w.heap.size w w') : AdAt w' b a := (hb.block b (lt_of_block h)).trans h
theorem AdAt.c0 (h : AdAt w b a) : w.cell? ⟨b, 0, none⟩ = some (.string (str a.1)) := by rw [cells_at h]; rfl
theorem AdAt.c1 (h : AdAt w b a) : w.cell? ⟨b, 1, none⟩ = some (.string (str a.2.1)) := by rw [cells_at h]; rfl
theorem AdAt.c2 (h : AdAt w b a) : w.cell? ⟨b, 2, none⟩ = some (.string (str a.2.2)) := by rw [cells_at h]; rfl
theorem AdAt.free (h : AdAt w b a) (j : Nat) : w.frozen? ⟨b, j, none⟩ = false := by unfold World.frozen?; rw [h]; simp
theorem AdAt.new (w : World) (a : Ad) : AdAt (w.alloc (.cells #[.string (str a.1), .string (str a.2.1), .string (str a.2.2)] 74)) w.heap.size a := heap_alloc_new w _
end
theorem block_set {w : World} {b j : Nat} {cs : Array Value} {t : TypeId} {fr : Nat × Nat} (h : w.heap[b]? = some (.cells cs t fr)) (v : Value) : (w.setCell ⟨b, j, none⟩ v).heap[b]? = some (.cells (cs.setIfInBounds j v) t fr) := by
  simp [World.setCell, Array.getElem?_modify, h]
section
variable {w : World} {b : Nat} {n l d : List UInt8}
theorem AdAt.set0 (h : AdAt w b (n, l, d)) (x : List UInt8) : AdAt (w.setCell ⟨b, 0, none⟩ (.string (str x))) b (x, l, d) := block_set h _
theorem AdAt.set1 (h : AdAt w b (n, l, d)) (x : List UInt8) : AdAt (w.setCell ⟨b, 1, none⟩ (.string (str x))) b (n, x, d) := block_set h _
theorem AdAt.set2 (h : AdAt w b (n, l, d)) (x : List UInt8) : AdAt (w.setCell ⟨b, 2, none⟩ (.string (str x))) b (n, l, x) := block_set h _
theorem AdAt.other {a : Ad} (h : AdAt w b a) {k j : Nat} (hk : b ≠ k) (v : Value) : AdAt (w.setCell ⟨k, j, none⟩ v) b a := (Below.heap_setCell w ⟨k, j, none⟩ v b hk).trans h
theorem AdAt.dn {a : Ad} (h : AdAt w b a) (q : Nat) : AdAt (w.drewN q) b a := h
end
theorem below_dn2 {B : Nat} {w w' : World} (h : Below B w w') (n : Nat) : Below B w (w'.drewN n) := ⟨h.os, h.tape, h.output, h.size, h.block⟩
theorem two_at {w W2 : World} {q : Nat} {l d : List UInt8}
    (h : W2 = ((((w.alloc (.cells #[.string (str []), .string (str []), .string (str [])] 74)).alloc (.cells #[.string (str []), .string (str []), .string (str [])] 74)).drewN q).setCell ⟨w.heap.size + 1, 1, none⟩ (.string (str l))).setCell ⟨w.heap.size + 1, 2, none⟩ (.string (str d))) :
    AdAt W2 w.heap.size ([], [], []) ∧ AdAt W2 (w.heap.size + 1) ([], l, d) ∧ Below w.heap.size w W2 := by
  subst h
  obtain ⟨w1, hw1⟩ : ∃ w1, w1 = w.alloc (.cells #[.string (str []), .string (str []), .string (str [])] 74) := ⟨_, rfl⟩
  have hn : w1.heap.size = w.heap.size + 1 := by rw [hw1]; simp
  have k1 : AdAt w1 w.heap.size ([], [], []) := by rw [hw1]; exact AdAt.new w ([], [], [])
  have c1 : Below w.heap.size w w1 := by rw [hw1]; exact (Below.refl _ _).alloc (Nat.le_refl _) _
  rw [← hw1, ← hn]
  have k2 := AdAt.new w1 ([], [], [])
  have c2 : Below w1.heap.size w1 (w1.alloc (.cells #[.string (str []), .string (str []), .string (str [])] 74)) := (Below.refl _ _).alloc (Nat.le_refl _) _
  refine ⟨(((k1.below c2).dn q).other (by omega) _).other (by omega) _, ((k2.dn q).set1 l).set2 d, ?_⟩
  have c3 := below_dn2 (below_then c1 c2) q
  have hle := c1.size
  exact (c3.setCell hle _).setCell hle _

set_option maxHeartbeats 1000000 in
theorem parse_any (s : List UInt8) (w : World) (hG : GoodA w) (hs : s.length ≤ 2147483648) :
    Calls Tryz.prog 60 #[.string (str s)] w fun e w' => e = .returned (.tuple #[adV (parseP s).1, .int .i64 (parseP s).2]) ∧ Below w.heap.size w w' := by
  have hc := fun W g => cut_exact 64 s W g hs
  obtain ⟨l, d, f, hcut⟩ : ∃ l d f, Lib.cut s [64] = (l, d, f) := ⟨_, _, _, rfl⟩
  have hb : l.length ≤ 2147483648 ∧ d.length ≤ 2147483648 := by
    rcases Spl.first 64 s with h | ⟨a, b, h, h2⟩
    · rw [Spl.cut_none h] at hcut
      simp only [Prod.mk.injEq] at hcut
      obtain ⟨rfl, rfl, _⟩ := hcut
      exact ⟨hs, by simp⟩
    · rw [h, Spl.cut_at b h2] at hcut
      simp only [Prod.mk.injEq] at hcut
      obtain ⟨rfl, rfl, _⟩ := hcut
      rw [h] at hs
      simp at hs
      omega
  rw [hcut] at hc
  dsimp only at hc
  have hg := fun W g => good_any [] l d W g hb.1 hb.2
  have hP : parseP s = if goodP l d = true then (([], l, d), 0) else (([], [], []), 90) := by unfold parseP; rw [hcut]
  rw [hP]
  have HB := hid hb
  have a0 := (Below.refl w.heap.size w).alloc (Nat.le_refl _) (.cells #[.string (str []), .string (str []), .string (str [])] 74)
  have a1 := hid (a0.alloc a0.size (.cells #[.string (str []), .string (str []), .string (str [])] 74))
  clear hcut hP hb a0
  cases hq : goodP l d with
  | true =>
    rw [hq] at hg
    clear hq
    rw [if_pos rfl]
    go_enter Tryz.func60, Tryz.ntmps60
    go_wp2_with (first
      | (go_at_call 40; refine (hc _ (hG.below a1.out)).mono ?_; rintro e w1 ⟨rfl, q, rfl⟩)
      | (go_at_call 74; refine calls_named ?_; intro W2 hW2; obtain ⟨g1, g2, g3⟩ := two_at hW2; clear hW2; refine (hg _ (hG.below g3)).mono ?_; rintro e w3 ⟨rfl, c3⟩; have i1 := g1.below c3; have i2 := g2.below c3; have B3 := hid (below_then g3 c3); have x0 := i2.c0; have x1 := i2.c1; have x2 := i2.c2; have y0 := i1.c0; have y1 := i1.c1; have y2 := i1.c2; have z0 := i1.free 0; have z1 := i1.free 1; have z2 := i1.free 2; have HI := hid i1; clear g1 g2 g3 c3 i1 i2))
    exact bodyPost_ret (v := .tuple #[adV ([], l, d), .int .i64 0]) (by first | (simp [results, Tryz.results60, go_sem, adV, y0, y1, y2]; done) | (simp [results, Tryz.results60, go_sem, adV, y0, y1, y2]; rfl)) rfl ⟨rfl, ((B3.out.setCell (by simp) _).setCell (by simp) _).setCell (by simp) _⟩
  | false =>
    rw [hq] at hg
    clear hq
    rw [if_neg (by simp)]
    go_enter Tryz.func60, Tryz.ntmps60
    go_wp2_with (first
      | (go_at_call 40; refine (hc _ (hG.below a1.out)).mono ?_; rintro e w1 ⟨rfl, q, rfl⟩)
      | (go_at_call 74; refine calls_named ?_; intro W2 hW2; obtain ⟨g1, g2, g3⟩ := two_at hW2; clear hW2; refine (hg _ (hG.below g3)).mono ?_; rintro e w3 ⟨rfl, c3⟩; have i1 := g1.below c3; have i2 := g2.below c3; have B3 := hid (below_then g3 c3); have x0 := i2.c0; have x1 := i2.c1; have x2 := i2.c2; have y0 := i1.c0; have y1 := i1.c1; have y2 := i1.c2; have z0 := i1.free 0; have z1 := i1.free 1; have z2 := i1.free 2; have HI := hid i1; clear g1 g2 g3 c3 i1 i2))
    exact bodyPost_ret (v := .tuple #[adV ([], [], []), .int .i64 90]) (by first | (simp [results, Tryz.results60, go_sem, adV, y0, y1, y2]; done) | (simp [results, Tryz.results60, go_sem, adV, y0, y1, y2]; rfl)) rfl ⟨rfl, ((B3.out.setCell (by simp) _).setCell (by simp) _).setCell (by simp) _⟩

end Go.Proofs.YtdbggicpcbecdaaGreatDoor
