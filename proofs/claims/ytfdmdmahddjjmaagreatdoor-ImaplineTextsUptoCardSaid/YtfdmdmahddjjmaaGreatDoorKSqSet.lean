/-
  Sets of numbers: plain laws. No program here.
-/
import Derived.Test.YtfdmdmahddjjmaaGreatDoorPkOwn
namespace Go.Proofs.YtfdmdmahddjjmaaGreatDoor.Sq.Sq
open Go.Proofs.YtfdmdmahddjjmaaGreatDoor
set_option linter.unusedVariables false
set_option linter.unusedSimpArgs false

/-- A range: its two ends; 0 is the greatest. -/
abbrev Rg := Int × Int
/-- A number of a set, read. -/
def numS (l : List UInt8) : Int × Bool := if l = [42] then (0, true) else ((Dec.numR l 4294967295).1, (Dec.numR l 4294967295).2 && decide (0 < (Dec.numR l 4294967295).1))
/-- A number's text. -/
def txt (n : Int) : List UInt8 := if n = 0 then [42] else Lib.itoa n
def end_ (g k : Int) : Int := if k = 0 then g else k
/-- Whether a range has a number. -/
def inR (n g : Int) (r : Rg) : Bool := if g < 1 ∧ (r.1 = 0 ∨ r.2 = 0) then false else decide (min (end_ g r.1) (end_ g r.2) ≤ n) && decide (n ≤ max (end_ g r.1) (end_ g r.2))
def has (l : List Rg) (n g : Int) : Bool := decide (1 ≤ n) && l.any (inR n g)
def great (l : List Int) : Int := l.foldl max 0
def pick (l : List Rg) (all : List Int) : List Int := all.filter fun n => has l n (great all)

/-- A part of a set's text. -/
def partS (x : List UInt8) : Option Rg :=
  if (numS (Lib.cut x [58]).1).2 && (numS (if (Lib.cut x [58]).2.2 = true then (Lib.cut x [58]).2.1 else (Lib.cut x [58]).1)).2 = true
  then some ((numS (Lib.cut x [58]).1).1, (numS (if (Lib.cut x [58]).2.2 = true then (Lib.cut x [58]).2.1 else (Lib.cut x [58]).1)).1) else none
def partsS : List (List UInt8) → Option (List Rg)
  | [] => some []
  | x :: t => match partS x with
    | none => none
    | some r => (partsS t).map fun l => r :: l
theorem partsS_none {x : List UInt8} (t : List (List UInt8)) (h : partS x = none) : partsS (x :: t) = none := by unfold partsS; rw [h]
theorem partsS_some {x : List UInt8} (t : List (List UInt8)) {r : Rg} (h : partS x = some r) : partsS (x :: t) = (partsS t).map fun l => r :: l := by
  conv => lhs; unfold partsS
  rw [h]
theorem partsS_len : ∀ {l : List (List UInt8)} {r : List Rg}, partsS l = some r → r.length = l.length
  | [], r, h => by simp [partsS] at h; subst h; rfl
  | x :: t, r, h => by
    cases hp : partS x with
    | none => rw [partsS_none t hp] at h; cases h
    | some y =>
      rw [partsS_some t hp] at h
      cases ht : partsS t with
      | none => rw [ht] at h; cases h
      | some z =>
        rw [ht] at h
        obtain rfl : y :: z = r := by simpa using h
        simp [partsS_len ht]
def parseV : Option (List Rg) → List Rg × Int
  | none => ([], 190)
  | some r => if 16 < r.length then ([], 5) else (r, 0)
/-- A set's text, read: the ranges, and the error's number. -/
def parseS (l : List UInt8) : List Rg × Int := parseV (partsS (Spl.splitL 44 l))
/-- A range's text; a set's. -/
def rtxt (r : Rg) : List UInt8 := if r.1 = r.2 then txt r.1 else txt r.1 ++ [58] ++ txt r.2
def okR (r : Rg) : Bool := decide (0 ≤ r.1) && decide (r.1 ≤ 4294967295) && decide (0 ≤ r.2) && decide (r.2 ≤ 4294967295)
def printS (l : List Rg) : List UInt8 × Int := if l.all okR = false then ([], 190) else if l.length = 0 then ([], 190) else if 16 < l.length then ([], 5) else (Lib.join (l.map rtxt) [44], 0)

end Go.Proofs.YtfdmdmahddjjmaaGreatDoor.Sq.Sq
