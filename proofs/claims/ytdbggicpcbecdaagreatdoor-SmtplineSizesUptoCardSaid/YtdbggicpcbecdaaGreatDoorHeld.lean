/-
  Small laws for regions that draw their order next to calls that make memory; the sizes of short strings.
-/
import Derived.Test.YtdbggicpcbecdaaGreatDoorDigits
import Derived.Deep.RegionHeld3
namespace Go.Proofs.YtdbggicpcbecdaaGreatDoor
open Go.RowKit Own

theorem keep_below {B : Nat} {w w' : World} {p : Addr} {v : Value} (hb : Below B w w') (hB : B = w.heap.size) (hc : w.cell? p = some v) : w'.cell? p = some v := by
  subst hB; exact (hb.cell (World.block_lt_of_cell? w _ hc)).trans hc
theorem keep_below_free {B : Nat} {w w' : World} {p : Addr} (hb : Below B w w') (hB : p.block < B) (hc : w.frozen? p = false) : w'.frozen? p = false := (hb.frozen hB).trans hc
theorem below_then {a b c : World} (h : Below a.heap.size a b) (k : Below b.heap.size b c) : Below a.heap.size a c := h.trans (k.mono h.size)
theorem below_then' {B : Nat} {a b c : World} (h : Below B a b) (hB : B ≤ a.heap.size) (k : Below b.heap.size b c) : Below B a c := h.trans (k.mono (Nat.le_trans hB h.size))
theorem below_made {w w1 : World} {o : Obj} (h : Below (w.alloc o).drew.heap.size (w.alloc o).drew w1) : Below w.heap.size w w1 :=
  below_then ((Below.refl _ _).alloc (Nat.le_refl _) o).drew h
theorem lit_size (l : List UInt8) : (ByteArray.mk l.toArray).size = l.length := by simp [ByteArray.size]

end Go.Proofs.YtdbggicpcbecdaaGreatDoor
