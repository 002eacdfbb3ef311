/-
  Imports of what walks over a text's runes.
-/
import Derived.Test.YtdbggicpcbecdaaGreatDoorEnc
import Derived.Test.YtdbggicpcbecdaaGreatDoorStr
import Derived.Laws.RangeString
import Derived.Laws.RangeAny
import Derived.Shelf.GgClosure.StringsIndexFuncTop
namespace Go.Proofs.YtdbggicpcbecdaaGreatDoor
open Go.RowKit Own Dec
set_option linter.unusedVariables false
set_option linter.unusedSimpArgs false
set_option maxRecDepth 100000

end Go.Proofs.YtdbggicpcbecdaaGreatDoor
