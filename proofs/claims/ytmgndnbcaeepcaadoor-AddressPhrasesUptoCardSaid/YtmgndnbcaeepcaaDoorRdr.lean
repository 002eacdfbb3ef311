/-
  The reader: its block; blanks.
-/
import Derived.Test.YtmgndnbcaeepcaaDoorPath
import Derived.Test.YtmgndnbcaeepcaaDoorBld
import Derived.Shelf.Strings.SlTrimAscii
namespace Go.Proofs.YtmgndnbcaeepcaaDoor
open Go.RowKit Own Ad
set_option linter.unusedVariables false
set_option linter.unusedSimpArgs false
set_option maxRecDepth 100000
attribute [local go_sem] str_toList

/-- Of old memory, block b alone may be another. -/
structure Only (b : Nat) (w w' : World) : Prop where
  low : Below b w w'
  high : ∀ k, b < k → k < w.heap.size → w'.heap[k]? = w.heap[k]?
section
variable {b : Nat} {w w' w2 : World}
theorem Only.refl (b : Nat) (w : World) : Only b w w := ⟨Below.refl _ _, fun _ _ _ => rfl⟩
theorem Only.trans (h : Only b w w') (k : Only b w' w2) : Only b w w2 := ⟨h.low.trans k.low, fun i h1 h2 => (k.high i h1 (Nat.lt_of_lt_of_le h2 h.low.size)).trans (h.high i h1 h2)⟩
theorem Only.of (h : Below w.heap.size w w') (hb : b ≤ w.heap.size) : Only b w w' := ⟨h.mono hb, fun i _ h2 => h.block i h2⟩
theorem Only.trans' {B : Nat} (h : Only b w w') (k : Below B w' w2) (hb : b < B) (hw : w.heap.size ≤ B) : Only b w w2 := ⟨h.low.trans (k.mono (Nat.le_of_lt hb)), fun i h1 h2 => (k.block i (Nat.lt_of_lt_of_le h2 hw)).trans (h.high i h1 h2)⟩
theorem Only.set (w : World) (b j : Nat) (v : Value) : Only b w (w.setCell ⟨b, j, none⟩ v) := ⟨(Below.refl b w).setCell (p := ⟨b, j, none⟩) (Nat.le_refl b) v, fun k h _ => Below.heap_setCell w ⟨b, j, none⟩ v k (by simp; omega)⟩
theorem Only.block (h : Only b w w') {k : Nat} (hk : k ≠ b) (hlt : k < w.heap.size) : w'.heap[k]? = w.heap[k]? := by
  rcases Nat.lt_or_ge k b with h1 | h1
  · exact h.low.block k h1
  · exact h.high k (by omega) hlt
theorem Only.size (h : Only b w w') : w.heap.size ≤ w'.heap.size := h.low.size
theorem Only.ad {k : Nat} {a : Ad} (h : Only b w w') (ha : AdAt w k a) (hk : k ≠ b) : AdAt w' k a := (h.block hk (lt_of_block ha)).trans ha
theorem Only.good (h : Only b w w') (hG : GoodA w) (hb : 0 < b) : GoodA w' := by
  obtain ⟨m, hm⟩ := hG
  exact ⟨m, (h.low.cell hb).trans hm⟩
end
/-- A block holds a reader's text. -/
def RdAt (w : World) (b : Nat) (s : List UInt8) : Prop := w.heap[b]? = some (.cells #[.string (str s)] 42 (0, 0))
section
variable {b : Nat} {w w' : World} {s : List UInt8}
theorem RdAt.c (h : RdAt w b s) : w.cell? ⟨b, 0, none⟩ = some (.string (str s)) := by rw [cells_at h]; rfl
theorem RdAt.free (h : RdAt w b s) : w.frozen? ⟨b, 0, none⟩ = false := by unfold World.frozen?; rw [h]; simp
theorem RdAt.below (h : RdAt w b s) (hb : Below w.heap.size w w') : RdAt w' b s := (hb.block b (lt_of_block h)).trans h
theorem RdAt.below' {B : Nat} (h : RdAt w b s) (hb : Below B w w') (hlt : b < B) : RdAt w' b s := (hb.block b hlt).trans h
theorem RdAt.set (h : RdAt w b s) (t : List UInt8) : RdAt (w.setCell ⟨b, 0, none⟩ (.string (str t))) b t := block_set h _
theorem RdAt.lt (h : RdAt w b s) : b < w.heap.size := lt_of_block h
end

theorem trim_bl (s : List UInt8) : Lib.trimLeftS s [32, 9] = blanksP s := by
  unfold Lib.trimLeftS blanksP
  congr 1
  funext c
  unfold isBl
  simp only [List.contains_cons, List.contains_nil, Bool.or_false]

theorem blanks_any (b : Nat) (s : List UInt8) (w : World) (h : RdAt w b s) :
    Calls Tryd.prog 25 #[.pointer (some ⟨b, 0, none⟩)] w fun e w' => e = .returned (.tuple #[]) ∧ RdAt w' b (blanksP s) ∧ Only b w w' := by
  have htr : ∀ W : World, Calls Tryd.prog 37 #[.string (str s), .string (str [32, 9])] W fun e w' => e = .returned (.string (str (blanksP s))) ∧ Below W.heap.size W w' := fun W => by
    refine (Any.strings_TrimLeft_laid Tryd.lays161 (by kernel_rfl) (str s) (str [32, 9]) W (by decide) (ascii_of_all (by decide))).mono ?_
    rintro e w' ⟨rfl, hb⟩
    refine ⟨?_, hb⟩
    rw [← trim_bl]
    rfl
  have h0 := h.c
  have H := hid h
  clear h
  go_enter Tryd.func25, Tryd.ntmps25
  go_wp2_with (go_at_call 37; refine (htr _).mono ?_; rintro e w1 ⟨rfl, c1⟩; have i1 := H.out.below c1; have f1 := i1.free; have x1 := i1.c; have I1 := hid i1; have O1 := hid (Only.of c1 (Nat.le_of_lt H.out.lt)); clear c1 i1)
  go_end0
  exact ⟨rfl, I1.out.set _, O1.out.trans (Only.set _ _ _ _)⟩

end Go.Proofs.YtmgndnbcaeepcaaDoor
