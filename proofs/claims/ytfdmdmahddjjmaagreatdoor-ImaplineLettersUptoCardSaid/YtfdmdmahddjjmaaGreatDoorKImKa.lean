/-
  A key: plain parts; the result's block.
-/
import Derived.Test.YtfdmdmahddjjmaaGreatDoorKImR
import Derived.Deep.CutBlock
import Derived.Deep.DeepCutAuto
import Derived.Test.YtfdmdmahddjjmaaGreatDoorPkOwn
import Derived.Deep.RegionHeld3
namespace Go.Proofs.YtfdmdmahddjjmaaGreatDoor
open Go.RowKit Own Im
set_option linter.unusedVariables false
set_option linter.unusedSimpArgs false
set_option maxRecDepth 100000
attribute [local go_sem] str_toList str_size

/-- A key's block. -/
def KyB (w : World) (c : Nat) (a0 a1 a2 a3 a4 : Value) : Prop := w.heap[c]? = some (.cells #[a0, a1, a2, a3, a4] 39 (0, 0))
section
variable {w w' : World} {c : Nat} {a0 a1 a2 a3 a4 : Value}
theorem KyB.c0 (h : KyB w c a0 a1 a2 a3 a4) : w.cell? ⟨c, 0, none⟩ = some a0 := by rw [cells_at h]; rfl
theorem KyB.c1 (h : KyB w c a0 a1 a2 a3 a4) : w.cell? ⟨c, 1, none⟩ = some a1 := by rw [cells_at h]; rfl
theorem KyB.c2 (h : KyB w c a0 a1 a2 a3 a4) : w.cell? ⟨c, 2, none⟩ = some a2 := by rw [cells_at h]; rfl
theorem KyB.c3 (h : KyB w c a0 a1 a2 a3 a4) : w.cell? ⟨c, 3, none⟩ = some a3 := by rw [cells_at h]; rfl
theorem KyB.c4 (h : KyB w c a0 a1 a2 a3 a4) : w.cell? ⟨c, 4, none⟩ = some a4 := by rw [cells_at h]; rfl
theorem KyB.free (h : KyB w c a0 a1 a2 a3 a4) (j : Nat) : w.frozen? ⟨c, j, none⟩ = false := by unfold World.frozen?; rw [h]; simp
theorem KyB.lt (h : KyB w c a0 a1 a2 a3 a4) : c < w.heap.size := lt_of_block h
theorem KyB.below (h : KyB w c a0 a1 a2 a3 a4) (hb : Below w.heap.size w w') : KyB w' c a0 a1 a2 a3 a4 := (hb.block c h.lt).trans h
theorem KyB.only {b : Nat} (h : KyB w c a0 a1 a2 a3 a4) (ho : Only b w w') (hcb : c ≠ b) : KyB w' c a0 a1 a2 a3 a4 := (ho.block hcb h.lt).trans h
theorem KyB.far {d j : Nat} (h : KyB w c a0 a1 a2 a3 a4) (hd : c ≠ d) (y : Value) : KyB (w.setCell ⟨d, j, none⟩ y) c a0 a1 a2 a3 a4 := (Below.heap_setCell w ⟨d, j, none⟩ y c hd).trans h
end
theorem MapAt.of_block {w w' : World} {m : Nat} {l : List (Bt × Value)} (h : MapAt w m l) (hb : w'.heap[m]? = w.heap[m]?) : MapAt w' m l := by
  obtain ⟨es, n, h1, h2⟩ := h
  exact ⟨es, n, hb.trans h1, h2⟩
theorem MapAt.only {b m : Nat} {w w' : World} {l : List (Bt × Value)} (h : MapAt w m l) (ho : Only b w w') (hm : m ≠ b) : MapAt w' m l := h.of_block (ho.block hm h.lt)
theorem MapAt.farK {m d j : Nat} {w : World} {l : List (Bt × Value)} (h : MapAt w m l) (hm : m ≠ d) (y : Value) : MapAt (w.setCell ⟨d, j, none⟩ y) m l := h.of_block (Below.heap_setCell w ⟨d, j, none⟩ y m hm)
/-- A key behind its word; the keys behind a NOT are read by nx. -/
def keyW (nx : Option (Rd Ky)) (wd t : Bt) : Option (Ky × Bt) :=
  match flagAt (takes [85, 78] wd).2 with
  | some i => some ({ kind := 2, n := ((2 ^ i : Nat) : Int), not := (takes [85, 78] wd).1 }, t)
  | none =>
    if wd = [65, 76, 76] then some ({ kind := 1 }, t) else
    if wd = [78, 79, 84] then (match nx with
      | none => none
      | some f => (sign [32] t).bind fun s => (f s).map fun q => ({ q.1 with not := !q.1.not }, q.2)) else
    if wd = [85, 73, 68] then (sign [32] t).bind fun s => (Im.set s).map fun q => ({ kind := 7, set := q.1 }, q.2) else
    if 0 < kindOf textKinds wd then (then_ t).map fun q => ({ kind := kindOf textKinds wd, text := q.1 }, q.2) else
    if 0 < kindOf sizeKinds wd then (sign [32] t).bind fun t => (number 0 most t).map fun q => ({ kind := kindOf sizeKinds wd, n := q.1 }, q.2) else none
def headB (s : Bt) : Bool := s.head?.any fun c => isDg c || decide (c = 42)
def keyS (s : Bt) : Option (Ky × Bt) := (Im.set s).map fun q => ({ kind := 8, set := q.1 }, q.2)
theorem takes_un (wd : Bt) : (takes [85, 78] wd) = (Lib.hasPrefix wd [85, 78], if Lib.hasPrefix wd [85, 78] = true then wd.drop 2 else wd) := by
  unfold takes
  cases Lib.hasPrefix wd [85, 78] <;> rfl
theorem key_eq0 (s : Bt) : Im.key 0 s = if headB s = true then keyS s else keyW none (Im.word s).1 (Im.word s).2 := by
  rw [Im.key.eq_def]
  unfold keyW
  rw [takes_un]
  rfl
theorem key_eq (d : Nat) (s : Bt) : Im.key (d + 1) s = if headB s = true then keyS s else keyW (some (Im.key d)) (Im.word s).1 (Im.word s).2 := by
  rw [Im.key.eq_def]
  unfold keyW
  rw [takes_un]
  rfl
theorem kind_pos {l : List (Bt × Int)} (hall : ∀ p ∈ l, 0 ≤ p.2) (x : Bt) : 0 ≤ kindOf l x := by
  unfold kindOf
  cases h : l.find? fun p => p.1 == x with
  | none => decide
  | some p =>
    have := List.mem_of_find?_eq_some h
    exact hall p this
end Go.Proofs.YtfdmdmahddjjmaaGreatDoor
