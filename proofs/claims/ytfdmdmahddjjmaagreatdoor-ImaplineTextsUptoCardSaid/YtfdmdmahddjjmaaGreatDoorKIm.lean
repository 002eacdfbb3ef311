/-
  Commands of IMAP: plain laws. No program here.
-/
import Derived.Test.YtfdmdmahddjjmaaGreatDoorPkSt
import Derived.Test.YtfdmdmahddjjmaaGreatDoorKSqSet
import Derived.Test.YtfdmdmahddjjmaaGreatDoorPkOwn
import Derived.Lib.TrimByte
namespace Go.Proofs.YtfdmdmahddjjmaaGreatDoor.Im
open Go.Proofs.YtfdmdmahddjjmaaGreatDoor
set_option linter.unusedVariables false
set_option linter.unusedSimpArgs false

abbrev Bt := List UInt8
abbrev Rg := Int × Int
/-- What is fetched. -/
structure It where
  kind : Int := 0
  sec : List Int := []
  what : Int := 0
  peek : Bool := false
  frm : Int := 0
  of : Int := 0
  deriving DecidableEq
/-- What is searched. -/
structure Ky where
  kind : Int := 0
  not : Bool := false
  text : Bt := []
  n : Int := 0
  set : List Rg := []
  deriving DecidableEq
/-- A command. -/
structure Cm where
  tag : Bt := []
  word : Bt := []
  uid : Bool := false
  set : List Rg := []
  box : Bt := []
  dest : Bt := []
  names : List Bt := []
  flags : Nat := 0
  mode : Int := 0
  silent : Bool := false
  items : List It := []
  keys : List Ky := []
  date : Int := 0
  lit : Bt := []
  deriving DecidableEq

def great (l : Bt) : Bt := l.map (moveB 97 65)
def isDg (c : UInt8) : Bool := decide (48 ≤ c.toNat) && decide (c.toNat ≤ 57)
def atomB (c : UInt8) : Bool := decide (32 < c.toNat) && decide (c.toNat ≤ 126) && !([40, 41, 123, 37, 42, 34, 92] : Bt).contains c
def patB (c : UInt8) : Bool := atomB c || decide (c = 37) || decide (c = 42)
def letB (c : UInt8) : Bool := decide (97 ≤ c.toNat) && decide (c.toNat ≤ 122) || decide (65 ≤ c.toNat) && decide (c.toNat ≤ 90) || isDg c || decide (c = 46)
def rangedB (c : UInt8) : Bool := isDg c || ([42, 58, 44] : Bt).contains c
/-- A tag; none: no tag. -/
def tagS (s : Bt) : Bt :=
  if (Lib.cut s [32]).2.2 = false ∨ (Lib.cut s [32]).1 = [] then [] else
  if (Lib.cut s [32]).1.all (fun c => atomB c && !decide (c = 43)) then (Lib.cut s [32]).1 else []
/-- What is read, and what is left. -/
abbrev Rd (α : Type) := Bt → Option (α × Bt)
def sign (t : Bt) (s : Bt) : Option Bt := if Lib.hasPrefix s t = true then some (s.drop t.length) else none
def takes (t : Bt) (s : Bt) : Bool × Bt := if Lib.hasPrefix s t = true then (true, s.drop t.length) else (false, s)
def word (s : Bt) : Bt × Bt := (great (s.takeWhile letB), s.dropWhile letB)
def most : Int := 4294967295
def number (lo hi : Int) : Rd Int := fun s =>
  if (Dec.numR (s.takeWhile isDg) hi).2 = true ∧ lo ≤ (Dec.numR (s.takeWhile isDg) hi).1 then some ((Dec.numR (s.takeWhile isDg) hi).1, s.dropWhile isDg) else none
def literal : Rd Bt := fun s =>
  (sign [123] s).bind fun s => (number 0 4096 s).bind fun q => (sign [125, 13, 10] q.2).bind fun s =>
    if q.1 ≤ (s.length : Int) then some (s.take q.1.toNat, s.drop q.1.toNat) else none
def quoteL : Bt → Option (Bt × Bt)
  | [] => none
  | c :: t => if c = 34 then some ([], t) else
    if c = 92 then match t with
      | [] => none
      | d :: t => if d = 34 ∨ d = 92 then (quoteL t).map fun q => (d :: q.1, q.2) else none
    else if c = 13 ∨ c = 10 then none else (quoteL t).map fun q => (c :: q.1, q.2)
def quoted : Rd Bt := fun s => (sign [34] s).bind quoteL
def text (p : UInt8 → Bool) : Rd Bt := fun s =>
  if Lib.hasPrefix s [34] = true then quoted s else if Lib.hasPrefix s [123] = true then literal s else
  if s.takeWhile p = [] then none else some (s.takeWhile p, s.dropWhile p)
def then_ : Rd Bt := fun s => (sign [32] s).bind (text atomB)
def set : Rd (List Rg) := fun s => if (Sq.Sq.parseS (s.takeWhile rangedB)).2 = 0 then some ((Sq.Sq.parseS (s.takeWhile rangedB)).1, s.dropWhile rangedB) else none
/-- The flags' names: Seen, Answered, Flagged, Deleted, Draft. -/
def flagNames : List Bt := [[83, 101, 101, 110], [65, 110, 115, 119, 101, 114, 101, 100], [70, 108, 97, 103, 103, 101, 100], [68, 101, 108, 101, 116, 101, 100], [68, 114, 97, 102, 116]]
def flagAt (w : Bt) : Option Nat := flagNames.findIdx? fun f => great f == w
def flag : Rd Nat := fun s => (sign [92] s).bind fun s => (flagAt (word s).1).map fun i => (2 ^ i, (word s).2)
def listL : Nat → Bool → Nat → Rd Nat
  | 0, _, _, _ => none
  | f + 1, first, n, s => if (takes [41] s).1 = true then some (n, (takes [41] s).2) else
    (if first = true then some s else sign [32] s).bind fun s => (flag s).bind fun q => listL f false (n ||| q.1) q.2
def list : Rd Nat := fun s => (sign [40] s).bind fun s => listL (s.length + 1) true 0 s
/-- Kinds of items. -/
def itemKinds : List (Bt × Int) :=
  [([70, 76, 65, 71, 83], 1), ([85, 73, 68], 2), ([73, 78, 84, 69, 82, 78, 65, 76, 68, 65, 84, 69], 3), ([82, 70, 67, 56, 50, 50, 46, 83, 73, 90, 69], 4),
   ([69, 78, 86, 69, 76, 79, 80, 69], 5), ([66, 79, 68, 89, 83, 84, 82, 85, 67, 84, 85, 82, 69], 6), ([66, 79, 68, 89], 7), ([66, 79, 68, 89, 46, 80, 69, 69, 75], 7)]
def kindOf (l : List (Bt × Int)) (w : Bt) : Int := ((l.find? fun p => p.1 == w).map (·.2)).getD 0
/-- The numbers of a section; true: nothing more may come. -/
def numsL : Nat → List Int → Bt → Option ((List Int × Bool) × Bt)
  | 0, _, _ => none
  | f + 1, l, s => if s.head?.any isDg = true then
      (number 1 99 s).bind fun q => if l.length + 1 ≤ 8 then
        (if (takes [46] q.2).1 = true then numsL f (l ++ [q.1]) (takes [46] q.2).2 else some ((l ++ [q.1], true), q.2)) else none
    else some ((l, false), s)
def whatOf (l : List Int) (w : Bt) : Option Int :=
  if l = [] then (if w = [72, 69, 65, 68, 69, 82] then some 1 else if w = [84, 69, 88, 84] then some 2 else none)
  else if w = [77, 73, 77, 69] then some 3 else none
def section_ : Rd (List Int × Int) := fun s => if Lib.hasPrefix s [93] = true then some (([], 0), s) else
  (numsL (s.length + 1) [] s).bind fun q => if q.1.2 = true then some ((q.1.1, 0), q.2) else
    (whatOf q.1.1 (word q.2).1).map fun k => ((q.1.1, k), (word q.2).2)
def item : Rd It := fun s =>
  if kindOf itemKinds (word s).1 = 0 then none else
  if kindOf itemKinds (word s).1 ≠ 7 then some ({ kind := kindOf itemKinds (word s).1, of := -1 }, (word s).2) else
  (sign [91] (word s).2).bind fun t => (section_ t).bind fun q => (sign [93] q.2).bind fun t =>
    if (takes [60] t).1 = true then (number 0 most (takes [60] t).2).bind fun a => (sign [46] a.2).bind fun t => (number 1 most t).bind fun b => (sign [62] b.2).map fun t =>
      ({ kind := 7, sec := q.1.1, what := q.1.2, peek := decide ((word s).1 = [66, 79, 68, 89, 46, 80, 69, 69, 75]), frm := a.1, of := b.1 }, t)
    else some ({ kind := 7, sec := q.1.1, what := q.1.2, peek := decide ((word s).1 = [66, 79, 68, 89, 46, 80, 69, 69, 75]), of := -1 }, t)
def itemsL : Nat → List It → Rd (List It)
  | 0, _, _ => none
  | f + 1, l, s => if (takes [32] s).1 = true then (item (takes [32] s).2).bind fun q => itemsL f (l ++ [q.1]) q.2 else some (l, s)
def short : List (Bt × Int) := [([65, 76, 76], 4), ([70, 65, 83, 84], 3)]
def four : List It := [{ kind := 1, of := -1 }, { kind := 3, of := -1 }, { kind := 4, of := -1 }, { kind := 5, of := -1 }]
def items : Rd (List It) := fun s => if 0 < kindOf short (great s) then some (four.take (kindOf short (great s)).toNat, []) else
  if (takes [40] s).1 = false then (item s).map fun q => ([q.1], q.2) else
  (item (takes [40] s).2).bind fun q => (itemsL (q.2.length + 1) [q.1] q.2).bind fun q => (sign [41] q.2).bind fun s => if q.1.length ≤ 16 then some (q.1, s) else none
def textKinds : List (Bt × Int) := [([70, 82, 79, 77], 3), ([83, 85, 66, 74, 69, 67, 84], 4), ([84, 69, 88, 84], 9)]
def sizeKinds : List (Bt × Int) := [([76, 65, 82, 71, 69, 82], 5), ([83, 77, 65, 76, 76, 69, 82], 6)]
/-- A key, so many NOTs still allowed. -/
def key : Nat → Rd Ky := fun d s =>
  if s.head?.any (fun c => isDg c || decide (c = 42)) = true then (set s).map fun q => ({ kind := 8, set := q.1 }, q.2) else
  match flagAt (if Lib.hasPrefix (word s).1 [85, 78] = true then (word s).1.drop 2 else (word s).1) with
  | some i => some ({ kind := 2, n := ((2 ^ i : Nat) : Int), not := Lib.hasPrefix (word s).1 [85, 78] }, (word s).2)
  | none =>
    if (word s).1 = [65, 76, 76] then some ({ kind := 1 }, (word s).2) else
    if (word s).1 = [78, 79, 84] then (match d with
      | 0 => none
      | d + 1 => (sign [32] (word s).2).bind fun s => (key d s).map fun q => ({ q.1 with not := !q.1.not }, q.2)) else
    if (word s).1 = [85, 73, 68] then (sign [32] (word s).2).bind fun s => (set s).map fun q => ({ kind := 7, set := q.1 }, q.2) else
    if 0 < kindOf textKinds (word s).1 then (then_ (word s).2).map fun q => ({ kind := kindOf textKinds (word s).1, text := q.1 }, q.2) else
    if 0 < kindOf sizeKinds (word s).1 then (sign [32] (word s).2).bind fun t => (number 0 most t).map fun q => ({ kind := kindOf sizeKinds (word s).1, n := q.1 }, q.2) else none
def keysL : Nat → List Ky → Rd (List Ky)
  | 0, _, _ => none
  | f + 1, l, s => if (takes [32] s).1 = true then (key 8 (takes [32] s).2).bind fun q => keysL f (l ++ [q.1]) q.2 else some (l, s)
/-- The commands' readers. -/
def oneF (x : Cm) : Rd Cm := fun s => (then_ s).map fun q => ({ x with box := q.1 }, q.2)
def listF (x : Cm) : Rd Cm := fun s => (then_ s).bind fun q => (sign [32] q.2).bind fun s => (text patB s).map fun r => ({ x with box := q.1, dest := r.1 }, r.2)
def loginF (x : Cm) : Rd Cm := fun s => (then_ s).bind fun q => (then_ q.2).map fun r => ({ x with names := [q.1, r.1] }, r.2)
def renameF (x : Cm) : Rd Cm := fun s => (then_ s).bind fun q => (then_ q.2).map fun r => ({ x with box := q.1, dest := r.1 }, r.2)
def statusNames : List Bt := [[77, 69, 83, 83, 65, 71, 69, 83], [85, 73, 68, 78, 69, 88, 84], [85, 73, 68, 86, 65, 76, 73, 68, 73, 84, 89], [85, 78, 83, 69, 69, 78]]
def statusL : Nat → List Bt → Rd (List Bt)
  | 0, _, _ => none
  | f + 1, l, s => if statusNames.contains (word s).1 = true then
      (if (takes [32] (word s).2).1 = true then statusL f (l ++ [(word s).1]) (takes [32] (word s).2).2 else some (l ++ [(word s).1], (word s).2)) else none
def statusF (x : Cm) : Rd Cm := fun s => (then_ s).bind fun q => (sign [32, 40] q.2).bind fun s => (statusL (s.length + 1) x.names s).bind fun r => (sign [41] r.2).map fun s => ({ x with box := q.1, names := r.1 }, s)
def appendF (x : Cm) : Rd Cm := fun s => (then_ s).bind fun q => (sign [32] q.2).bind fun s =>
  (if Lib.hasPrefix s [40] = true then (list s).bind fun r => (sign [32] r.2).map fun s => (r.1, s) else some (x.flags, s)).bind fun r =>
  (if Lib.hasPrefix r.2 [34] = true then (quoted r.2).bind fun t => if (St.parseP t.1).2 = 0 then (sign [32] t.2).map fun s => ((St.parseP t.1).1, s) else none else some (-1, r.2)).bind fun t =>
  (literal t.2).map fun u => ({ x with box := q.1, flags := r.1, date := t.1, lit := u.1 }, u.2)
def flagsL : Nat → Nat → Rd Nat
  | 0, _, _ => none
  | f + 1, n, s => (flag s).bind fun q => if (takes [32] q.2).1 = true then flagsL f (n ||| q.1) (takes [32] q.2).2 else some (n ||| q.1, q.2)
def modeS (m : Int) (s : Bt) : Int × Bt := if (takes [43] s).1 = true then (1, (takes [43] s).2) else if (takes [45] s).1 = true then (2, (takes [45] s).2) else (m, s)
def storeF (x : Cm) : Rd Cm := fun s => (sign [32] s).bind fun s => (set s).bind fun q => (sign [32] q.2).bind fun s =>
  if (word (modeS x.mode s).2).1 = [70, 76, 65, 71, 83, 46, 83, 73, 76, 69, 78, 84] ∨ (word (modeS x.mode s).2).1 = [70, 76, 65, 71, 83] then
    (sign [32] (word (modeS x.mode s).2).2).bind fun t => (if Lib.hasPrefix t [40] = true then list t else flagsL (t.length + 1) x.flags t).map fun r =>
      ({ x with set := q.1, mode := (modeS x.mode s).1, silent := decide ((word (modeS x.mode s).2).1 = [70, 76, 65, 71, 83, 46, 83, 73, 76, 69, 78, 84]), flags := r.1 }, r.2)
  else none
def copyF (x : Cm) : Rd Cm := fun s => (sign [32] s).bind fun s => (set s).bind fun q => (then_ q.2).map fun r => ({ x with set := q.1, box := r.1 }, r.2)
def fetchF (x : Cm) : Rd Cm := fun s => (sign [32] s).bind fun s => (set s).bind fun q => (sign [32] q.2).bind fun s => (items s).map fun r => ({ x with set := q.1, items := r.1 }, r.2)
def searchF (x : Cm) : Rd Cm := fun s => (sign [32] s).bind fun s => (key 8 s).bind fun q => (keysL (q.2.length + 1) [q.1] q.2).bind fun r => if r.1.length ≤ 16 then some ({ x with keys := r.1 }, r.2) else none
def readF : Nat → Cm → Rd Cm
  | 0 => fun x s => some (x, s)
  | 1 => oneF
  | 2 => listF
  | 3 => loginF
  | 4 => renameF
  | 5 => statusF
  | 6 => appendF
  | 7 => storeF
  | 8 => copyF
  | 9 => fetchF
  | _ => searchF
def uidF (k : Nat) : Bool := decide (7 ≤ k)
/-- The commands' words and their readers. -/
def forms : List (Bt × Nat) :=
  [([67, 65, 80, 65, 66, 73, 76, 73, 84, 89], 0), ([78, 79, 79, 80], 0), ([76, 79, 71, 79, 85, 84], 0), ([67, 72, 69, 67, 75], 0), ([67, 76, 79, 83, 69], 0), ([69, 88, 80, 85, 78, 71, 69], 0),
   ([83, 69, 76, 69, 67, 84], 1), ([69, 88, 65, 77, 73, 78, 69], 1), ([67, 82, 69, 65, 84, 69], 1), ([68, 69, 76, 69, 84, 69], 1), ([83, 85, 66, 83, 67, 82, 73, 66, 69], 1), ([85, 78, 83, 85, 66, 83, 67, 82, 73, 66, 69], 1),
   ([76, 73, 83, 84], 2), ([76, 83, 85, 66], 2), ([76, 79, 71, 73, 78], 3), ([82, 69, 78, 65, 77, 69], 4), ([83, 84, 65, 84, 85, 83], 5), ([65, 80, 80, 69, 78, 68], 6),
   ([83, 84, 79, 82, 69], 7), ([67, 79, 80, 89], 8), ([70, 69, 84, 67, 72], 9), ([83, 69, 65, 82, 67, 72], 10)]
def formK (w : Bt) : Option Nat := (forms.find? fun p => p.1 == w).map (·.2)
/-- The word, and whether it stands behind UID. -/
def headS (s : Bt) : Bt × Bool × Bt := if (word s).1 = [85, 73, 68] ∧ (takes [32] (word s).2).1 = true then ((word (takes [32] (word s).2).2).1, true, (word (takes [32] (word s).2).2).2) else ((word s).1, false, (word s).2)
def parseS (s : Bt) : Cm × Int :=
  if tagS s = [] then ({}, 160) else
  let h := headS (s.drop ((tagS s).length + 1))
  match formK h.1 with
  | none => ({ tag := tagS s }, 161)
  | some k => if h.2.1 = true ∧ uidF k = false then ({ tag := tagS s }, 161) else
    match readF k { tag := tagS s, word := h.1, uid := h.2.1 } h.2.2 with
    | some (x, []) => (x, 0)
    | _ => ({ tag := tagS s }, 160)
/-- What a line's end asks for. -/
def needS (s : Bt) : Int × Bool :=
  if s.getLast? = some 125 then
    (if (123 : UInt8) ∈ s.dropLast then Dec.numR (s.dropLast.reverse.takeWhile (fun c => c != 123)).reverse most else (0, false))
  else (0, false)
def flagsS (n : Int) : Bt := [40] ++ Lib.join ((flagNames.zipIdx.filter fun p => decide (n / 2 ^ p.2 % 2 = 1)).map fun p => 92 :: p.1) [32] ++ [41]
end Go.Proofs.YtfdmdmahddjjmaaGreatDoor.Im
