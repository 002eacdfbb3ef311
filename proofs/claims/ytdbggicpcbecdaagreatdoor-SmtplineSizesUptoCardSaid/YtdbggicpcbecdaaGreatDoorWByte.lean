/-
  The builder's bytes.
-/
import Derived.Test.YtdbggicpcbecdaaGreatDoorBld
namespace Go.Proofs.YtdbggicpcbecdaaGreatDoor
open Go.RowKit Own
set_option linter.unusedVariables false

/-- The builder at block b holds these bytes; its memory lies behind B. -/
def Bld (B b : Nat) (l : List UInt8) (w : World) : Prop := Lib.IsBuilder 81 5 B b (Lib.byteCells l) w ∧ B ≤ w.heap.size
theorem cells_bv (l : List UInt8) : Lib.byteCells l = bv l := by simp [Lib.byteCells, bv]
theorem wbyte_any (B b : Nat) (l : List UInt8) (c : UInt8) (w : World) (h : Bld B b l w) (hl : l.length ≤ 70368744177664) :
    Calls Tryz.prog 45 #[.pointer (some ⟨b, 0, none⟩), .int .u8 c.toNat] w fun e w' => e = .returned .nilIface ∧ Bld B b (l ++ [c]) w' ∧ Below B w w' := by
  obtain ⟨h1, h2⟩ := h
  rw [cells_bv] at h1
  refine (wb_raw B b l c w h1 (by omega) h2).mono ?_
  rintro e w' ⟨rfl, hb, hbel⟩
  exact ⟨rfl, ⟨by rw [cells_bv]; exact hb, Nat.le_trans h2 hbel.size⟩, hbel⟩
theorem bstring_any (B b : Nat) (l : List UInt8) (w : World) (h : Bld B b l w) :
    Calls Tryz.prog 46 #[.pointer (some ⟨b, 0, none⟩)] w fun e w' => e = .returned (.string ⟨l.toArray⟩) ∧ Below B w w' :=
  Tryz.Builder_String_any B b l w h.1 h.2
end Go.Proofs.YtdbggicpcbecdaaGreatDoor
