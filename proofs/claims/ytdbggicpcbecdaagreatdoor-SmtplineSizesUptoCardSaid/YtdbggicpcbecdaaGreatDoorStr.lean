/-
  Texts as lists; numbers' plain laws.
-/
import Derived.Test.YtdbggicpcbecdaaGreatDoorDec
import Derived.Test.YtdbggicpcbecdaaGreatDoorDigits
import Derived.Test.YtdbggicpcbecdaaGreatDoorHeld
import Derived.LoopTactic
import Derived.Deep.LoopGhost
import Derived.Deep.DeepCutAuto
import Derived.Deep.CutBlock
import Derived.Deep.QuietTactic
import Derived.BigQuiet
import Derived.IntWalk
namespace Go.Proofs.YtdbggicpcbecdaaGreatDoor
open Go.RowKit Own Dec
set_option linter.unusedVariables false
set_option linter.unusedSimpArgs false
set_option maxRecDepth 100000

theorem str_toList (l : List UInt8) : (str l).toList = l := ByteArray.toList_mk l
attribute [local go_sem] str_toList

theorem numR_short (l : List UInt8) (most : Int) (h : l.length < 1 ∨ 10 < l.length) : numR l most = (0, false) := by unfold numR; rw [if_pos h]
theorem numR_other (l : List UInt8) (most : Int) (h : ¬ ∀ c ∈ l, isDig c) : numR l most = (0, false) := by
  unfold numR
  split
  · rfl
  · first | rfl | rw [if_pos h]
theorem numR_digits (l : List UInt8) (most : Int) (h1 : 1 ≤ l.length) (h2 : l.length ≤ 10) (h : ∀ c ∈ l, isDig c) :
    numR l most = if Text.digs (numF 0 l) ≠ l ∨ most < (numF 0 l : Int) then (0, false) else ((numF 0 l : Int), true) := by
  unfold numR
  rw [if_neg (by omega), if_neg (fun c => c h)]

end Go.Proofs.YtdbggicpcbecdaaGreatDoor
