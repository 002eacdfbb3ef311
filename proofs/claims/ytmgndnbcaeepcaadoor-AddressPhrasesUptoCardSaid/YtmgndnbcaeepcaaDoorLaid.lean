/-
  What the rows' condition on the library's variables gives the walks; a world that meets it.
-/
import Derived.Test.YtmgndnbcaeepcaaDoorRows
import Derived.Test.YtmgndnbcaeepcaaDoorTie
import Derived.Test.YtmgndnbcaeepcaaDoorCards
import Derived.Test.YtmgndnbcaeepcaaDoorShown
import Derived.Test.YtmgndnbcaeepcaaDoorOpen
import Derived.WalkKit
import Derived.ProofKit
import Derived.LaidMore
import Derived.LaidLaws
import Derived.LaidHandle
import Derived.MakeChecks
import Derived.Deep.DeepHandedRow
import Derived.Deep.DeepWitnessRowRef
import Derived.Lib.LaidTab
import Derived.Shelf.Vars
import Derived.SevenTiedAt
namespace Go.Proofs.YtmgndnbcaeepcaaDoor
open Go.ChangeShapes Go.WideShapes Go.ChangeAt Go.RowKit
set_option linter.unusedVariables false
set_option linter.unusedSimpArgs false
set_option maxRecDepth 100000

theorem own : ownKnob Tryd.prog.godebug = none := by kernel_rfl
theorem laidOut : laidOutB Tryd.prog = true := by kernel_rfl

abbrev laidL : List (String × DataW Unit) := Rows.addressSameRow.laid

theorem good_of {W : World} (h : laidMetH Tryd.prog laidL W) (hs : W.ShapedOpen Tryd.prog) : GoodA W :=
  ⟨cell_of_shapedOpen_int (zero := #[.int .i64 0]) (t := 3) hs (of_decide_eq_true (by kernel_rfl)) (by kernel_rfl) rfl (by kernel_rfl) (by kernel_rfl) Tryd.underlying3⟩
theorem good_pos {W : World} (h : GoodA W) : 0 < W.heap.size := by
  obtain ⟨m, hm⟩ := h.max
  exact World.block_lt_of_cell? W _ hm

/-- The great table's cells. -/
def cellOf : DataW Unit → Value
  | .lit (.int k n) => .int k n
  | _ => undef
def cellsOf : DataW Unit → Array Value
  | .agg ds => (ds.map cellOf).toArray
  | _ => #[]
/-- A start that meets the condition: the door's heap, the great table laid. -/
noncomputable def laidWorld (os : Os) : World :=
  { World.doorLaid Tryd.prog 400 os with heap := (World.doorLaid Tryd.prog 400 os).heap.modify 1 fun
      | .cells _ t frozen => .cells (cellsOf Go.Pinned.utf8First) t frozen
      | o => o }
theorem laid_met (os : Os) (args : Array Value) : laidMetH Tryd.prog laidL ((laidWorld os).forCall (fun _ _ => 0) ⟨#[], args, []⟩).memory :=
  laidMetH_of_parts3 (fuel := 8) (laidMet_of_run' 8 (by kernel_rfl) (by kernel_rfl)) (by kernel_rfl) (by kernel_rfl)
theorem laid_refs (os : Os) (args : Array Value) : ((laidWorld os).forCall (fun _ _ => 0) ⟨#[], args, []⟩).variablesRefB Tryd.prog = true := by kernel_rfl
theorem laid_rest (os : Os) (args : Array Value) : (((laidWorld os).forCall (fun _ _ => 0) ⟨#[], args, []⟩).heap.toList.drop Tryd.prog.globals.size).take ((begin Tryd.prog (fun _ _ => 0) default).world.heap.size - Tryd.prog.globals.size) =
      (begin Tryd.prog (fun _ _ => 0) default).world.heap.toList.drop Tryd.prog.globals.size := by kernel_rfl

end Go.Proofs.YtmgndnbcaeepcaaDoor
