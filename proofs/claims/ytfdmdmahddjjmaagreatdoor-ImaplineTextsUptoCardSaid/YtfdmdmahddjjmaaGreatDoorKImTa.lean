/-
  The commands' table.
-/
import Derived.Test.YtfdmdmahddjjmaaGreatDoorKImK
import Derived.MapKept
import Derived.Laws.EntriesVeiled
import Derived.Test.YtfdmdmahddjjmaaGreatDoorPkOwn
import Derived.Deep.RegionHeld3
namespace Go.Proofs.YtfdmdmahddjjmaaGreatDoor
open Go.RowKit Own Im
set_option linter.unusedVariables false
set_option linter.unusedSimpArgs false
set_option maxRecDepth 100000
attribute [local go_sem] str_toList str_size

def fidOf : Nat → FuncId
  | 0 => 49
  | 1 => 50
  | 2 => 52
  | 3 => 56
  | 4 => 57
  | 5 => 58
  | 6 => 59
  | 7 => 60
  | 8 => 61
  | 9 => 63
  | _ => 65
def formV (k : Nat) : Value := .agg #[.bool (uidF k), .func (.func (fidOf k)) #[] #[]]
def formsV : List (Bt × Value) := Im.forms.map fun p => (p.1, formV p.2)
theorem look_forms (w : Bt) : lookL formsV w = (formK w).map formV := by
  unfold lookL formsV formK
  rw [List.find?_map]
  show Option.map _ (Option.map _ (List.find? (fun p => p.1 == w) Im.forms)) = _
  cases List.find? (fun p : Bt × Nat => p.1 == w) Im.forms <;> rfl
end Go.Proofs.YtfdmdmahddjjmaaGreatDoor
