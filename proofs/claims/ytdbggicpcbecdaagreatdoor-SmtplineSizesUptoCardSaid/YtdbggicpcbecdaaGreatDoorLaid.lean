/-
  What the rows' condition on the library's variables gives the walks; a world that meets it.
-/
import Derived.Test.YtdbggicpcbecdaaGreatDoorRows
import Derived.Test.YtdbggicpcbecdaaGreatDoorTie
import Derived.Test.YtdbggicpcbecdaaGreatDoorCards
import Derived.Test.YtdbggicpcbecdaaGreatDoorSmShown
import Derived.Test.YtdbggicpcbecdaaGreatDoorOpen
import Derived.WalkKit
import Derived.ProofKit
import Derived.LaidMore
import Derived.LaidLaws
import Derived.LaidHandle
import Derived.MakeChecks
import Derived.Deep.DeepHandedRow
import Derived.Deep.DeepWitnessRowRef
import Derived.Lib.LaidTab
import Derived.Shelf.Vars
import Derived.SevenTiedAt
namespace Go.Proofs.YtdbggicpcbecdaaGreatDoor
open Go.ChangeShapes Go.WideShapes Go.ChangeAt Go.RowKit
set_option linter.unusedVariables false
set_option linter.unusedSimpArgs false
set_option maxRecDepth 100000

theorem own : ownKnob Tryz.prog.godebug = none := by kernel_rfl
theorem laidOut : laidOutB Tryz.prog = true := by kernel_rfl
theorem gPow : Tryz.prog.globalNamed "internal/strconv.uint64pow10" = some 5 := by kernel_rfl
theorem tPow : (Tryz.prog.globals[5]?).map (·.type) = some 131 := by kernel_rfl
theorem gErr : Tryz.prog.globalNamed "strconv.ErrSyntax" = some 3 := by kernel_rfl
theorem tErr : (Tryz.prog.globals[3]?).map (·.type) = some 84 := by kernel_rfl
theorem cellsPow : Tryz.prog.cellsOf 131 = 20 := by kernel_rfl
theorem cellsU64 : Tryz.prog.cellsOf 115 = 1 := by kernel_rfl

abbrev laidL : List (String × DataW Unit) := Rows.smtplineLettersRow.laid

theorem good_of {W : World} (h : laidMetH Tryz.prog laidL W) (hs : W.ShapedOpen Tryz.prog) : GoodC W := by
  rw [MakeChecks.laidMetH_plain _ _ _ (by kernel_rfl)] at h
  obtain ⟨ps, ⟨_, _, _, _, _, _, _, _, _, _, ⟨_, _, _, _, _, _, _, _, _, _, ⟨g1, t1, cs1, f1, p1, q1, hg1, ht1, hv1, hd1, ⟨_, _, _, _, _, _, _, _, _, _, ⟨_, _, _, _, _, _, _, _, _, _, ⟨g2, t2, cs2, f2, p2, q2, hg2, ht2, hv2, hd2, _⟩, _⟩, _⟩, _⟩, _⟩, _⟩, _⟩ := h
  obtain rfl := Option.some.inj (gPow.symm.trans hg1)
  obtain rfl := Option.some.inj (tPow.symm.trans ht1)
  obtain rfl := Option.some.inj (gErr.symm.trans hg2)
  obtain rfl := Option.some.inj (tErr.symm.trans ht2)
  refine ⟨?_, ?_, ?_⟩
  · have hd : DataW.trod (fun _ => ()) Tryz.prog W 0 (fun _ => true) false f1 131 cs1.toList = some (Lib.tabData .u64 Lib.pow10Tab, p1) := hd1
    unfold Lib.TabIs
    rw [hv1, ← Lib.cells_of_tab Tryz.underlying131 Tryz.underlying115 cellsU64 cellsPow hd]
  · obtain ⟨_, u, v, hcs, _, _⟩ := iface_of_trod Tryz.underlying84 hd2
    refine ⟨u, v, ?_⟩
    rw [hv2]
    congr 1
    apply Array.ext'
    simpa using hcs
  · exact cell_of_shapedOpen_int (zero := #[.int .i64 0]) (t := 3) hs (of_decide_eq_true (by kernel_rfl)) (by kernel_rfl) rfl (by kernel_rfl) (by kernel_rfl) Tryz.underlying3

/-- The great table's cells. -/
def cellOf : DataW Unit → Value
  | .lit (.int k n) => .int k n
  | _ => undef
def cellsOf : DataW Unit → Array Value
  | .agg ds => (ds.map cellOf).toArray
  | _ => #[]
/-- A start that meets the condition: the door's heap, the great table laid. -/
noncomputable def laidWorld (os : Os) : World :=
  { World.doorLaid Tryz.prog 400 os with heap := (World.doorLaid Tryz.prog 400 os).heap.modify 1 fun
      | .cells _ t frozen => .cells (cellsOf Go.Pinned.utf8First) t frozen
      | o => o }
theorem laid_met (os : Os) (args : Array Value) : laidMetH Tryz.prog laidL ((laidWorld os).forCall (fun _ _ => 0) ⟨#[], args, []⟩).memory :=
  laidMetH_of_parts3 (fuel := 8) (laidMet_of_run' 8 (by kernel_rfl) (by kernel_rfl)) (by kernel_rfl) (by kernel_rfl)
theorem laid_refs (os : Os) (args : Array Value) : ((laidWorld os).forCall (fun _ _ => 0) ⟨#[], args, []⟩).variablesRefB Tryz.prog = true := by kernel_rfl
theorem laid_rest (os : Os) (args : Array Value) : (((laidWorld os).forCall (fun _ _ => 0) ⟨#[], args, []⟩).heap.toList.drop Tryz.prog.globals.size).take ((begin Tryz.prog (fun _ _ => 0) default).world.heap.size - Tryz.prog.globals.size) =
      (begin Tryz.prog (fun _ _ => 0) default).world.heap.toList.drop Tryz.prog.globals.size := by kernel_rfl

end Go.Proofs.YtdbggicpcbecdaaGreatDoor
