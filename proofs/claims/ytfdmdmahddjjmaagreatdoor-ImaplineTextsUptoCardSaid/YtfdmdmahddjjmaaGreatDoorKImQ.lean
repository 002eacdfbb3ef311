/-
  The commands' readers: their form, their block.
-/
import Derived.Test.YtfdmdmahddjjmaaGreatDoorKImP
import Derived.Test.YtfdmdmahddjjmaaGreatDoorKImI
import Derived.Test.YtfdmdmahddjjmaaGreatDoorKImF
namespace Go.Proofs.YtfdmdmahddjjmaaGreatDoor
open Go.RowKit Own Im
set_option linter.unusedVariables false
set_option linter.unusedSimpArgs false
set_option maxRecDepth 100000
attribute [local go_sem] str_toList str_size

section
variable {w w' : World} {c : Nat} {x : Cm} {v : CmV}
theorem CmAt.lt (h : CmAt w c x v) : c < w.heap.size := lt_of_block h
theorem CmAt.free (h : CmAt w c x v) (j : Nat) : w.frozen? ⟨c, j, none⟩ = false := by unfold World.frozen?; rw [h]; simp
theorem CmAt.below (h : CmAt w c x v) (hb : Below w.heap.size w w') : CmAt w' c x v := (hb.block c h.lt).trans h
theorem CmAt.below' {B : Nat} (h : CmAt w c x v) (hb : Below B w w') (hc : c < B) : CmAt w' c x v := (hb.block c hc).trans h
theorem CmAt.only {b : Nat} (h : CmAt w c x v) (ho : Only b w w') (hcb : c ≠ b) : CmAt w' c x v := (ho.block hcb h.lt).trans h
theorem CmAt.far {d j : Nat} (h : CmAt w c x v) (hd : c ≠ d) (y : Value) : CmAt (w.setCell ⟨d, j, none⟩ y) c x v := (Below.heap_setCell w ⟨d, j, none⟩ y c hd).trans h
theorem CmAt.drew (h : CmAt w c x v) : CmAt w.drew c x v := h
theorem CmAt.c0 (h : CmAt w c x v) : w.cell? ⟨c, 0, none⟩ = some (.string (str x.tag)) := by rw [cells_at h]; rfl
theorem CmAt.c1 (h : CmAt w c x v) : w.cell? ⟨c, 1, none⟩ = some (.string (str x.word)) := by rw [cells_at h]; rfl
theorem CmAt.c2 (h : CmAt w c x v) : w.cell? ⟨c, 2, none⟩ = some (.bool x.uid) := by rw [cells_at h]; rfl
theorem CmAt.c3 (h : CmAt w c x v) : w.cell? ⟨c, 3, none⟩ = some (v.set) := by rw [cells_at h]; rfl
theorem CmAt.c4 (h : CmAt w c x v) : w.cell? ⟨c, 4, none⟩ = some (.string (str x.box)) := by rw [cells_at h]; rfl
theorem CmAt.c5 (h : CmAt w c x v) : w.cell? ⟨c, 5, none⟩ = some (.string (str x.dest)) := by rw [cells_at h]; rfl
theorem CmAt.c6 (h : CmAt w c x v) : w.cell? ⟨c, 6, none⟩ = some (v.names) := by rw [cells_at h]; rfl
theorem CmAt.c7 (h : CmAt w c x v) : w.cell? ⟨c, 7, none⟩ = some (.int .i64 x.flags) := by rw [cells_at h]; rfl
theorem CmAt.c8 (h : CmAt w c x v) : w.cell? ⟨c, 8, none⟩ = some (.int .i64 x.mode) := by rw [cells_at h]; rfl
theorem CmAt.c9 (h : CmAt w c x v) : w.cell? ⟨c, 9, none⟩ = some (.bool x.silent) := by rw [cells_at h]; rfl
theorem CmAt.c10 (h : CmAt w c x v) : w.cell? ⟨c, 10, none⟩ = some (v.items) := by rw [cells_at h]; rfl
theorem CmAt.c11 (h : CmAt w c x v) : w.cell? ⟨c, 11, none⟩ = some (v.keys) := by rw [cells_at h]; rfl
theorem CmAt.c12 (h : CmAt w c x v) : w.cell? ⟨c, 12, none⟩ = some (.int .i64 x.date) := by rw [cells_at h]; rfl
theorem CmAt.c13 (h : CmAt w c x v) : w.cell? ⟨c, 13, none⟩ = some (v.lit) := by rw [cells_at h]; rfl
theorem CmAt.set0 (h : CmAt w c x v) (y : Bt) : CmAt (w.setCell ⟨c, 0, none⟩ (.string (str y))) c { x with tag := y } v := block_set h _
theorem CmAt.set1 (h : CmAt w c x v) (y : Bt) : CmAt (w.setCell ⟨c, 1, none⟩ (.string (str y))) c { x with word := y } v := block_set h _
theorem CmAt.set2 (h : CmAt w c x v) (y : Bool) : CmAt (w.setCell ⟨c, 2, none⟩ (.bool y)) c { x with uid := y } v := block_set h _
theorem CmAt.set3 (h : CmAt w c x v) (y : Value) (l : List Rg) : CmAt (w.setCell ⟨c, 3, none⟩ y) c { x with set := l } { v with set := y } := block_set h _
theorem CmAt.set4 (h : CmAt w c x v) (y : Bt) : CmAt (w.setCell ⟨c, 4, none⟩ (.string (str y))) c { x with box := y } v := block_set h _
theorem CmAt.set5 (h : CmAt w c x v) (y : Bt) : CmAt (w.setCell ⟨c, 5, none⟩ (.string (str y))) c { x with dest := y } v := block_set h _
theorem CmAt.set6 (h : CmAt w c x v) (y : Value) (l : List Bt) : CmAt (w.setCell ⟨c, 6, none⟩ y) c { x with names := l } { v with names := y } := block_set h _
theorem CmAt.set7 (h : CmAt w c x v) (y : Nat) : CmAt (w.setCell ⟨c, 7, none⟩ (.int .i64 y)) c { x with flags := y } v := block_set h _
theorem CmAt.set8 (h : CmAt w c x v) (y : Int) : CmAt (w.setCell ⟨c, 8, none⟩ (.int .i64 y)) c { x with mode := y } v := block_set h _
theorem CmAt.set9 (h : CmAt w c x v) (y : Bool) : CmAt (w.setCell ⟨c, 9, none⟩ (.bool y)) c { x with silent := y } v := block_set h _
theorem CmAt.set10 (h : CmAt w c x v) (y : Value) (l : List It) : CmAt (w.setCell ⟨c, 10, none⟩ y) c { x with items := l } { v with items := y } := block_set h _
theorem CmAt.set11 (h : CmAt w c x v) (y : Value) (l : List Ky) : CmAt (w.setCell ⟨c, 11, none⟩ y) c { x with keys := l } { v with keys := y } := block_set h _
theorem CmAt.set12 (h : CmAt w c x v) (y : Int) : CmAt (w.setCell ⟨c, 12, none⟩ (.int .i64 y)) c { x with date := y } v := block_set h _
theorem CmAt.set13 (h : CmAt w c x v) (y : Value) (l : Bt) : CmAt (w.setCell ⟨c, 13, none⟩ y) c { x with lit := l } { v with lit := y } := block_set h _
end
theorem CmRows.as {B c : Nat} {w : World} {x : Cm} {v : CmV} (_ : CmAt w c x v) (h1 : Sq.RBuf B w v.set x.set) (h2 : SBuf B w v.names x.names) (h3 : vItems B x.items v.items w) (h4 : vKeys B x.keys v.keys w) (h5 : LBuf B w v.lit x.lit) : CmRows B w x v := ⟨h1, h2, h3, h4, h5⟩
/-- What a command's reader does. -/
def FormPost (b c B : Nat) (w : World) (r : Option (Cm × Bt)) (e : Ending) (w' : World) : Prop :=
  Two b c w w' ∧ match r with
    | none => e = .panicked thrown
    | some q => e = .returned (.tuple #[]) ∧ RdI w' b q.2 ∧ ∃ v, CmAt w' c q.1 v ∧ CmRows B w' q.1 v
theorem FormPost.panic {b c B : Nat} {w w' : World} {r : Option (Cm × Bt)} (hr : r = none) (ho : Two b c w w') : FormPost b c B w r (.panicked thrown) w' := by
  subst hr
  exact ⟨ho, rfl⟩
theorem FormPost.give {b c B : Nat} {w w' : World} {r : Option (Cm × Bt)} {x : Cm} {t : Bt} {v : CmV} (hr : r = some (x, t)) (ho : Two b c w w') (ht : RdI w' b t) (hc : CmAt w' c x v) (hv : CmRows B w' x v) : FormPost b c B w r (.returned (.tuple #[])) w' := by
  subst hr
  exact ⟨ho, rfl, ht, v, hc, hv⟩
theorem FormPost.cases {b c B : Nat} {w w' : World} {r : Option (Cm × Bt)} {e : Ending} (h : FormPost b c B w r e w') :
    (r = none ∧ e = .panicked thrown ∧ Two b c w w') ∨ ∃ x t v, r = some (x, t) ∧ e = .returned (.tuple #[]) ∧ RdI w' b t ∧ CmAt w' c x v ∧ CmRows B w' x v ∧ Two b c w w' := by
  obtain ⟨ho, h⟩ := h
  rcases r with _ | ⟨x, t⟩
  · exact .inl ⟨rfl, h, ho⟩
  · obtain ⟨h1, h2, v, h3, h4⟩ := h
    exact .inr ⟨x, t, v, rfl, h1, h2, h3, h4, ho⟩
/-- The form of a reader's contract. -/
def FormC (fid : FuncId) (rd : Cm → Rd Cm) : Prop := ∀ (b c B : Nat) (s : Bt) (x : Cm) (v : CmV) (w : World), RdI w b s → CmAt w c x v → CmRows B w x v → b < c → c < B → B ≤ w.heap.size → x.flags = 0 → (x.names = [] ∧ v.names = .slice none 0 0) →
  Calls Tryz.prog fid #[.pointer (some ⟨b, 0, none⟩), .pointer (some ⟨c, 0, none⟩)] w fun e w' => FormPost b c B w (rd x s) e w'
end Go.Proofs.YtfdmdmahddjjmaaGreatDoor
