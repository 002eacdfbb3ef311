/-
  Worlds in which one block alone may be another.
-/
import Derived.Test.YtdbggicpcbecdaaGreatDoorAPath
namespace Go.Proofs.YtdbggicpcbecdaaGreatDoor
open Go.RowKit Own Ad
set_option linter.unusedVariables false
set_option linter.unusedSimpArgs false

/-- Of old memory, block b alone may be another. -/
structure Only (b : Nat) (w w' : World) : Prop where
  low : Below b w w'
  high : ∀ k, b < k → k < w.heap.size → w'.heap[k]? = w.heap[k]?
section
variable {b : Nat} {w w' w2 : World}
theorem Only.refl (b : Nat) (w : World) : Only b w w := ⟨Below.refl _ _, fun _ _ _ => rfl⟩
theorem Only.trans (h : Only b w w') (k : Only b w' w2) : Only b w w2 := ⟨h.low.trans k.low, fun i h1 h2 => (k.high i h1 (Nat.lt_of_lt_of_le h2 h.low.size)).trans (h.high i h1 h2)⟩
theorem Only.of (h : Below w.heap.size w w') (hb : b ≤ w.heap.size) : Only b w w' := ⟨h.mono hb, fun i _ h2 => h.block i h2⟩
theorem Only.trans' {B : Nat} (h : Only b w w') (k : Below B w' w2) (hb : b < B) (hw : w.heap.size ≤ B) : Only b w w2 := ⟨h.low.trans (k.mono (Nat.le_of_lt hb)), fun i h1 h2 => (k.block i (Nat.lt_of_lt_of_le h2 hw)).trans (h.high i h1 h2)⟩
theorem Only.set (w : World) (b j : Nat) (v : Value) : Only b w (w.setCell ⟨b, j, none⟩ v) := ⟨(Below.refl b w).setCell (p := ⟨b, j, none⟩) (Nat.le_refl b) v, fun k h _ => Below.heap_setCell w ⟨b, j, none⟩ v k (by simp; omega)⟩
theorem Only.block (h : Only b w w') {k : Nat} (hk : k ≠ b) (hlt : k < w.heap.size) : w'.heap[k]? = w.heap[k]? := by
  rcases Nat.lt_or_ge k b with h1 | h1
  · exact h.low.block k h1
  · exact h.high k (by omega) hlt
theorem Only.size (h : Only b w w') : w.heap.size ≤ w'.heap.size := h.low.size
theorem Only.ad {k : Nat} {a : Ad} (h : Only b w w') (ha : AdAt w k a) (hk : k ≠ b) : AdAt w' k a := (h.block hk (lt_of_block ha)).trans ha
theorem Only.good (h : Only b w w') (hG : GoodA w) (hb : 0 < b) : GoodA w' := by
  obtain ⟨m, hm⟩ := hG
  exact ⟨m, (h.low.cell hb).trans hm⟩
end
end Go.Proofs.YtdbggicpcbecdaaGreatDoor
