/-
  Addresses: plain laws. No program here.
-/
import Derived.Test.YtdbggicpcbecdaaGreatDoorSplit
namespace Go.Proofs.YtdbggicpcbecdaaGreatDoor.Ad
open Go.Proofs.YtdbggicpcbecdaaGreatDoor
set_option linter.unusedVariables false
set_option linter.unusedSimpArgs false

/-- An address: its name, its local part, its domain. -/
abbrev Ad := List UInt8 × List UInt8 × List UInt8
def isLet (c : UInt8) : Bool := decide (97 ≤ c.toNat ∧ c.toNat ≤ 122 ∨ 65 ≤ c.toNat ∧ c.toNat ≤ 90 ∨ 48 ≤ c.toNat ∧ c.toNat ≤ 57)
def specials : List UInt8 := [33, 35, 36, 37, 38, 39, 42, 43, 45, 47, 61, 63, 94, 95, 96, 123, 124, 125, 126]
def isAt (c : UInt8) : Bool := isLet c || specials.contains c
def atomP (s : List UInt8) : Bool := s.all isAt && !s.isEmpty
def labelP (s : List UInt8) : Bool := s.all (fun c => isLet c || c == 45) && !s.isEmpty && s.head? != some 45 && s.getLast? != some 45
def dottedP (is : List UInt8 → Bool) (s : List UInt8) : Bool := (Spl.splitL 46 s).all is && decide (s.length ≤ 64)
def goodP (l d : List UInt8) : Bool := dottedP atomP l && dottedP labelP d
def parseP (s : List UInt8) : Ad × Int := if goodP (Lib.cut s [64]).1 (Lib.cut s [64]).2.1 = true then (([], (Lib.cut s [64]).1, (Lib.cut s [64]).2.1), 0) else (([], [], []), 90)
def printP (a : Ad) : List UInt8 × Int := if goodP a.2.1 a.2.2 = true then (a.2.1 ++ 64 :: a.2.2, 0) else ([], 90)
def pathP : List UInt8 → Ad × Int
  | 60 :: t => if t = [62] then (([], [], []), 0) else if t.getLast? = some 62 then parseP t.dropLast else (([], [], []), 90)
  | _ => (([], [], []), 90)

def isBl (c : UInt8) : Bool := c == 32 || c == 9
def blanksP (s : List UInt8) : List UInt8 := s.dropWhile isBl
def isPl (c : UInt8) : Bool := isAt c || c == 46
/-- A quoted word behind its first sign: what it says, what follows. -/
def qs (acc : List UInt8) : List UInt8 → Option (List UInt8 × List UInt8)
  | [] => none
  | 34 :: r => some (acc, r)
  | [92] => none
  | 92 :: c :: r => if c = 13 ∨ c = 10 then none else qs (acc ++ [c]) r
  | c :: r => if c = 13 ∨ c = 10 then none else qs (acc ++ [c]) r
/-- A word of a phrase. -/
def word (s : List UInt8) : Option (List UInt8 × List UInt8) :=
  if s.head? = some 34 then qs [] s.tail else if (s.takeWhile isPl).length = 0 then none else some (s.takeWhile isPl, s.dropWhile isPl)
/-- A phrase; the outer none: no fuel. -/
def phr : Nat → List (List UInt8) → List UInt8 → Option (Option (List (List UInt8) × List UInt8))
  | 0, _, _ => none
  | f + 1, ws, s => if s.head? = some 60 then some (some (ws, s)) else match word s with
    | none => some none
    | some (w, r) => phr f (ws ++ [w]) (blanksP r)
def isCut (c : UInt8) : Bool := c == 44 || c == 32 || c == 9
/-- An address of a list, and what follows. -/
def one (f : Nat) (s : List UInt8) : Option (Option (Ad × List UInt8)) :=
  let r := blanksP s
  let p := parseP (r.takeWhile fun c => !isCut c)
  if p.2 = 0 then some (some (p.1, blanksP (r.dropWhile fun c => !isCut c))) else match phr f [] r with
    | none => none
    | some none => some none
    | some (some (ws, t)) => if (62 : UInt8) ∈ t ∧ ws ≠ [] then
        let q := pathP (t.takeWhile (fun c => c != 62) ++ [62])
        if q.2 = 0 ∧ q.1.2.1 ≠ [] then some (some ((Lib.join ws [32], q.1.2), blanksP (t.dropWhile (fun c => c != 62)).tail)) else some none
      else some none
def fin (l : List Ad) : List Ad × Int := if 16 < l.length then ([], 5) else (l, 0)
def lst : Nat → Nat → List Ad → List UInt8 → Option (List Ad × Int)
  | 0, _, _, _ => none
  | f + 1, g, acc, s => match one g s with
    | none => none
    | some none => some ([], 90)
    | some (some (a, [])) => some (fin (acc ++ [a]))
    | some (some (a, c :: r)) => if c = 44 then lst f g (acc ++ [a]) r else some ([], 90)

theorem sp1 : lst 5 20 [] [65, 110, 110, 32, 66, 46, 32, 60, 97, 64, 98, 62, 44, 32, 99, 64, 100, 32, 44, 32, 34, 120, 44, 32, 92, 34, 121, 34, 32, 60, 101, 64, 102, 62] = some ([([65, 110, 110, 32, 66, 46], [97], [98]), ([], [99], [100]), ([120, 44, 32, 34, 121], [101], [102])], 0) := by decide +kernel
theorem sp2 : lst 5 20 [] [97, 64, 98, 44] = some ([], 90) := by decide +kernel
end Go.Proofs.YtdbggicpcbecdaaGreatDoor.Ad
