/-
  What the rows' condition on the library's variables gives the walks; a world that meets it.
-/
import Derived.Test.YtifjikpinmgfaaaDoorRows
import Derived.Test.YtifjikpinmgfaaaDoorTie
import Derived.Test.YtifjikpinmgfaaaDoorCards
import Derived.Test.YtifjikpinmgfaaaDoorShown
import Derived.Test.YtifjikpinmgfaaaDoorOpen
import Derived.WalkKit
import Derived.ProofKit
import Derived.LaidMore
import Derived.LaidLaws
import Derived.LaidHandle
import Derived.MakeChecks
import Derived.Deep.DeepHandedRow
import Derived.Deep.DeepWitnessRowRef
import Derived.Lib.LaidTab
import Derived.Shelf.Vars
import Derived.SevenTiedAt
namespace Go.Proofs.YtifjikpinmgfaaaDoor
open Go.ChangeShapes Go.WideShapes Go.ChangeAt Go.RowKit
set_option linter.unusedVariables false
set_option linter.unusedSimpArgs false
set_option maxRecDepth 100000

theorem own : ownKnob Tryd.prog.godebug = none := by kernel_rfl
theorem laidOut : laidOutB Tryd.prog = true := by kernel_rfl
theorem gPow : Tryd.prog.globalNamed "internal/strconv.uint64pow10" = some 5 := by kernel_rfl
theorem tPow : (Tryd.prog.globals[5]?).map (·.type) = some 108 := by kernel_rfl
theorem gErr : Tryd.prog.globalNamed "strconv.ErrSyntax" = some 3 := by kernel_rfl
theorem tErr : (Tryd.prog.globals[3]?).map (·.type) = some 64 := by kernel_rfl
theorem cellsPow : Tryd.prog.cellsOf 108 = 20 := by kernel_rfl
theorem cellsU64 : Tryd.prog.cellsOf 92 = 1 := by kernel_rfl

abbrev laidL : List (String × DataW Unit) := Rows.seqsetHasRow.laid

theorem good_of {W : World} (h : laidMetH Tryd.prog laidL W) (hs : W.ShapedOpen Tryd.prog) : GoodC W := by
  rw [MakeChecks.laidMetH_plain _ _ _ (by kernel_rfl)] at h
  obtain ⟨ps, ⟨_, _, _, _, _, _, _, _, _, _, ⟨_, _, _, _, _, _, _, _, _, _, ⟨g1, t1, cs1, f1, p1, q1, hg1, ht1, hv1, hd1, ⟨_, _, _, _, _, _, _, _, _, _, ⟨_, _, _, _, _, _, _, _, _, _, ⟨g2, t2, cs2, f2, p2, q2, hg2, ht2, hv2, hd2, _⟩, _⟩, _⟩, _⟩, _⟩, _⟩, _⟩ := h
  obtain rfl := Option.some.inj (gPow.symm.trans hg1)
  obtain rfl := Option.some.inj (tPow.symm.trans ht1)
  obtain rfl := Option.some.inj (gErr.symm.trans hg2)
  obtain rfl := Option.some.inj (tErr.symm.trans ht2)
  refine ⟨?_, ?_, ?_⟩
  · have hd : DataW.trod (fun _ => ()) Tryd.prog W 0 (fun _ => true) false f1 108 cs1.toList = some (Lib.tabData .u64 Lib.pow10Tab, p1) := hd1
    unfold Lib.TabIs
    rw [hv1, ← Lib.cells_of_tab Tryd.underlying108 Tryd.underlying92 cellsU64 cellsPow hd]
  · obtain ⟨_, u, v, hcs, _, _⟩ := iface_of_trod Tryd.underlying64 hd2
    refine ⟨u, v, ?_⟩
    rw [hv2]
    congr 1
    apply Array.ext'
    simpa using hcs
  · exact cell_of_shapedOpen_int (zero := #[.int .i64 0]) (t := 3) hs (of_decide_eq_true (by kernel_rfl)) (by kernel_rfl) rfl (by kernel_rfl) (by kernel_rfl) Tryd.underlying3

/-- The great table's cells. -/
def cellOf : DataW Unit → Value
  | .lit (.int k n) => .int k n
  | _ => undef
def cellsOf : DataW Unit → Array Value
  | .agg ds => (ds.map cellOf).toArray
  | _ => #[]
/-- A start that meets the condition: the door's heap, the great table laid. -/
noncomputable def laidWorld (os : Os) : World :=
  { World.doorLaid Tryd.prog 400 os with heap := (World.doorLaid Tryd.prog 400 os).heap.modify 1 fun
      | .cells _ t frozen => .cells (cellsOf Go.Pinned.utf8First) t frozen
      | o => o }
theorem laid_met (os : Os) (args : Array Value) : laidMetH Tryd.prog laidL ((laidWorld os).forCall (fun _ _ => 0) ⟨#[], args, []⟩).memory :=
  laidMetH_of_parts3 (fuel := 8) (laidMet_of_run' 8 (by kernel_rfl) (by kernel_rfl)) (by kernel_rfl) (by kernel_rfl)
theorem laid_refs (os : Os) (args : Array Value) : ((laidWorld os).forCall (fun _ _ => 0) ⟨#[], args, []⟩).variablesRefB Tryd.prog = true := by kernel_rfl
theorem laid_rest (os : Os) (args : Array Value) : (((laidWorld os).forCall (fun _ _ => 0) ⟨#[], args, []⟩).heap.toList.drop Tryd.prog.globals.size).take ((begin Tryd.prog (fun _ _ => 0) default).world.heap.size - Tryd.prog.globals.size) =
      (begin Tryd.prog (fun _ _ => 0) default).world.heap.toList.drop Tryd.prog.globals.size := by kernel_rfl

end Go.Proofs.YtifjikpinmgfaaaDoor
