/-
  Joined texts: Im ImA ImB ImC ImD ImV ImL LetP.
-/
import Derived.Test.YtfdmdmahddjjmaaGreatDoorPkSt
import Derived.Test.YtfdmdmahddjjmaaGreatDoorPkSq
import Derived.Test.YtfdmdmahddjjmaaGreatDoorPkOwn
import Derived.Lib.TrimByte
import Derived.Test.YtfdmdmahddjjmaaGreatDoorPkAd
import Derived.Test.YtfdmdmahddjjmaaGreatDoorShelfB
import Derived.LoopTactic
import Derived.Lib.ConvBytes
set_option linter.unusedVariables false
set_option linter.unusedSimpArgs false
set_option maxRecDepth 100000
namespace Go.Proofs.YtfdmdmahddjjmaaGreatDoor.Im
open Go.Proofs.YtfdmdmahddjjmaaGreatDoor
abbrev Bt:=List UInt8
abbrev Rg:=Int × Int
structure It where
 kind:Int:=0
 sec:List Int:=[]
 what:Int:=0
 peek:Bool:=false
 frm:Int:=0
 of:Int:=0
 deriving DecidableEq
structure Ky where
 kind:Int:=0
 not:Bool:=false
 text:Bt:=[]
 n:Int:=0
 set:List Rg:=[]
 deriving DecidableEq
structure Cm where
 tag:Bt:=[]
 word:Bt:=[]
 uid:Bool:=false
 set:List Rg:=[]
 box:Bt:=[]
 dest:Bt:=[]
 names:List Bt:=[]
 flags:Nat:=0
 mode:Int:=0
 silent:Bool:=false
 items:List It:=[]
 keys:List Ky:=[]
 date:Int:=0
 lit:Bt:=[]
 deriving DecidableEq
def great (l:Bt):Bt:=l.map (moveB 97 65)
def isDg (c:UInt8):Bool:=decide (48 ≤ c.toNat) && decide (c.toNat ≤ 57)
def atomB (c:UInt8):Bool:=decide (32 < c.toNat) && decide (c.toNat ≤ 126) && !([40,41,123,37,42,34,92]:Bt).contains c
def patB (c:UInt8):Bool:=atomB c || decide (c = 37) || decide (c = 42)
def letB (c:UInt8):Bool:=decide (97 ≤ c.toNat) && decide (c.toNat ≤ 122) || decide (65 ≤ c.toNat) && decide (c.toNat ≤ 90) || isDg c || decide (c = 46)
def rangedB (c:UInt8):Bool:=isDg c || ([42,58,44]:Bt).contains c
def tagS (s:Bt):Bt :=
 if (Lib.cut s [32]).2.2 = false∨(Lib.cut s [32]).1 = [] then [] else
 if (Lib.cut s [32]).1.all (fun c=>atomB c && !decide (c = 43)) then (Lib.cut s [32]).1 else []
abbrev Rd (α:Type):=Bt→Option (α × Bt)
def sign (t:Bt) (s:Bt):Option Bt:=if Lib.hasPrefix s t = true then some (s.drop t.length) else none
def takes (t:Bt) (s:Bt):Bool × Bt:=if Lib.hasPrefix s t = true then (true,s.drop t.length) else (false,s)
def word (s:Bt):Bt × Bt:=(great (s.takeWhile letB),s.dropWhile letB)
def most:Int:=4294967295
def number (lo hi:Int):Rd Int:=fun s =>
 if (Dec.numR (s.takeWhile isDg) hi).2 = true∧lo ≤ (Dec.numR (s.takeWhile isDg) hi).1 then some ((Dec.numR (s.takeWhile isDg) hi).1,s.dropWhile isDg) else none
def literal:Rd Bt:=fun s =>
 (sign [123] s).bind fun s=>(number 0 4096 s).bind fun q=>(sign [125,13,10] q.2).bind fun s =>
   if q.1 ≤ (s.length:Int) then some (s.take q.1.toNat,s.drop q.1.toNat) else none
def quoteL:Bt→Option (Bt × Bt)
 | []=>none
 | c :: t=>if c = 34 then some ([],t) else
   if c = 92 then match t with
    | []=>none
    | d :: t=>if d = 34∨d = 92 then (quoteL t).map fun q=>(d :: q.1,q.2) else none
   else if c = 13∨c = 10 then none else (quoteL t).map fun q=>(c :: q.1,q.2)
def quoted:Rd Bt:=fun s=>(sign [34] s).bind quoteL
def text (p:UInt8→Bool):Rd Bt:=fun s =>
 if Lib.hasPrefix s [34] = true then quoted s else if Lib.hasPrefix s [123] = true then literal s else
 if s.takeWhile p = [] then none else some (s.takeWhile p,s.dropWhile p)
def then_:Rd Bt:=fun s=>(sign [32] s).bind (text atomB)
def set:Rd (List Rg):=fun s=>if (Sq.Sq.parseS (s.takeWhile rangedB)).2 = 0 then some ((Sq.Sq.parseS (s.takeWhile rangedB)).1,s.dropWhile rangedB) else none
def flagNames:List Bt:=[[83,101,101,110],[65,110,115,119,101,114,101,100],[70,108,97,103,103,101,100],[68,101,108,101,116,101,100],[68,114,97,102,116]]
def flagAt (w:Bt):Option Nat:=flagNames.findIdx? fun f=>great f == w
def flag:Rd Nat:=fun s=>(sign [92] s).bind fun s=>(flagAt (word s).1).map fun i=>(2 ^ i,(word s).2)
def listL:Nat→Bool→Nat→Rd Nat
 | 0,_,_,_=>none
 | f + 1,first,n,s=>if (takes [41] s).1 = true then some (n,(takes [41] s).2) else
   (if first = true then some s else sign [32] s).bind fun s=>(flag s).bind fun q=>listL f false (n ||| q.1) q.2
def list:Rd Nat:=fun s=>(sign [40] s).bind fun s=>listL (s.length + 1) true 0 s
def itemKinds:List (Bt × Int) :=
 [([70,76,65,71,83],1),([85,73,68],2),([73,78,84,69,82,78,65,76,68,65,84,69],3),([82,70,67,56,50,50,46,83,73,90,69],4),
  ([69,78,86,69,76,79,80,69],5),([66,79,68,89,83,84,82,85,67,84,85,82,69],6),([66,79,68,89],7),([66,79,68,89,46,80,69,69,75],7)]
def kindOf (l:List (Bt × Int)) (w:Bt):Int:=((l.find? fun p=>p.1 == w).map (·.2)).getD 0
def numsL:Nat→List Int→Bt→Option ((List Int × Bool) × Bt)
 | 0,_,_=>none
 | f + 1,l,s=>if s.head?.any isDg = true then
     (number 1 99 s).bind fun q=>if l.length + 1 ≤ 8 then
       (if (takes [46] q.2).1 = true then numsL f (l ++ [q.1]) (takes [46] q.2).2 else some ((l ++ [q.1],true),q.2)) else none
   else some ((l,false),s)
def whatOf (l:List Int) (w:Bt):Option Int :=
 if l = [] then (if w = [72,69,65,68,69,82] then some 1 else if w = [84,69,88,84] then some 2 else none)
 else if w = [77,73,77,69] then some 3 else none
def section_:Rd (List Int × Int):=fun s=>if Lib.hasPrefix s [93] = true then some (([],0),s) else
 (numsL (s.length + 1) [] s).bind fun q=>if q.1.2 = true then some ((q.1.1,0),q.2) else
   (whatOf q.1.1 (word q.2).1).map fun k=>((q.1.1,k),(word q.2).2)
def item:Rd It:=fun s =>
 if kindOf itemKinds (word s).1 = 0 then none else
 if kindOf itemKinds (word s).1 ≠ 7 then some ({ kind:=kindOf itemKinds (word s).1,of:=-1 },(word s).2) else
 (sign [91] (word s).2).bind fun t=>(section_ t).bind fun q=>(sign [93] q.2).bind fun t =>
   if (takes [60] t).1 = true then (number 0 most (takes [60] t).2).bind fun a=>(sign [46] a.2).bind fun t=>(number 1 most t).bind fun b=>(sign [62] b.2).map fun t =>
    ({ kind:=7,sec:=q.1.1,what:=q.1.2,peek:=decide ((word s).1 = [66,79,68,89,46,80,69,69,75]),frm:=a.1,of:=b.1 },t)
   else some ({ kind:=7,sec:=q.1.1,what:=q.1.2,peek:=decide ((word s).1 = [66,79,68,89,46,80,69,69,75]),of:=-1 },t)
def itemsL:Nat→List It→Rd (List It)
 | 0,_,_=>none
 | f + 1,l,s=>if (takes [32] s).1 = true then (item (takes [32] s).2).bind fun q=>itemsL f (l ++ [q.1]) q.2 else some (l,s)
def short:List (Bt × Int):=[([65,76,76],4),([70,65,83,84],3)]
def four:List It:=[{ kind:=1,of:=-1 },{ kind:=3,of:=-1 },{ kind:=4,of:=-1 },{ kind:=5,of:=-1 }]
def items:Rd (List It):=fun s=>if 0 < kindOf short (great s) then some (four.take (kindOf short (great s)).toNat,[]) else
 if (takes [40] s).1 = false then (item s).map fun q=>([q.1],q.2) else
 (item (takes [40] s).2).bind fun q=>(itemsL (q.2.length + 1) [q.1] q.2).bind fun q=>(sign [41] q.2).bind fun s=>if q.1.length ≤ 16 then some (q.1,s) else none
def textKinds:List (Bt × Int):=[([70,82,79,77],3),([83,85,66,74,69,67,84],4),([84,69,88,84],9)]
def sizeKinds:List (Bt × Int):=[([76,65,82,71,69,82],5),([83,77,65,76,76,69,82],6)]
def key:Nat→Rd Ky:=fun d s =>
 if s.head?.any (fun c=>isDg c || decide (c = 42)) = true then (set s).map fun q=>({ kind:=8,set:=q.1 },q.2) else
 match flagAt (if Lib.hasPrefix (word s).1 [85,78] = true then (word s).1.drop 2 else (word s).1) with
 | some i=>some ({ kind:=2,n:=((2 ^ i:Nat):Int),not:=Lib.hasPrefix (word s).1 [85,78] },(word s).2)
 | none =>
  if (word s).1 = [65,76,76] then some ({ kind:=1 },(word s).2) else
  if (word s).1 = [78,79,84] then (match d with
   | 0=>none
   | d + 1=>(sign [32] (word s).2).bind fun s=>(key d s).map fun q=>({ q.1 with not:=!q.1.not },q.2)) else
  if (word s).1 = [85,73,68] then (sign [32] (word s).2).bind fun s=>(set s).map fun q=>({ kind:=7,set:=q.1 },q.2) else
  if 0 < kindOf textKinds (word s).1 then (then_ (word s).2).map fun q=>({ kind:=kindOf textKinds (word s).1,text:=q.1 },q.2) else
  if 0 < kindOf sizeKinds (word s).1 then (sign [32] (word s).2).bind fun t=>(number 0 most t).map fun q=>({ kind:=kindOf sizeKinds (word s).1,n:=q.1 },q.2) else none
def keysL:Nat→List Ky→Rd (List Ky)
 | 0,_,_=>none
 | f + 1,l,s=>if (takes [32] s).1 = true then (key 8 (takes [32] s).2).bind fun q=>keysL f (l ++ [q.1]) q.2 else some (l,s)
def oneF (x:Cm):Rd Cm:=fun s=>(then_ s).map fun q=>({ x with box:=q.1 },q.2)
def listF (x:Cm):Rd Cm:=fun s=>(then_ s).bind fun q=>(sign [32] q.2).bind fun s=>(text patB s).map fun r=>({ x with box:=q.1,dest:=r.1 },r.2)
def loginF (x:Cm):Rd Cm:=fun s=>(then_ s).bind fun q=>(then_ q.2).map fun r=>({ x with names:=[q.1,r.1] },r.2)
def renameF (x:Cm):Rd Cm:=fun s=>(then_ s).bind fun q=>(then_ q.2).map fun r=>({ x with box:=q.1,dest:=r.1 },r.2)
def statusNames:List Bt:=[[77,69,83,83,65,71,69,83],[85,73,68,78,69,88,84],[85,73,68,86,65,76,73,68,73,84,89],[85,78,83,69,69,78]]
def statusL:Nat→List Bt→Rd (List Bt)
 | 0,_,_=>none
 | f + 1,l,s=>if statusNames.contains (word s).1 = true then
     (if (takes [32] (word s).2).1 = true then statusL f (l ++ [(word s).1]) (takes [32] (word s).2).2 else some (l ++ [(word s).1],(word s).2)) else none
def statusF (x:Cm):Rd Cm:=fun s=>(then_ s).bind fun q=>(sign [32,40] q.2).bind fun s=>(statusL (s.length + 1) x.names s).bind fun r=>(sign [41] r.2).map fun s=>({ x with box:=q.1,names:=r.1 },s)
def appendF (x:Cm):Rd Cm:=fun s=>(then_ s).bind fun q=>(sign [32] q.2).bind fun s =>
 (if Lib.hasPrefix s [40] = true then (list s).bind fun r=>(sign [32] r.2).map fun s=>(r.1,s) else some (x.flags,s)).bind fun r =>
 (if Lib.hasPrefix r.2 [34] = true then (quoted r.2).bind fun t=>if (St.parseP t.1).2 = 0 then (sign [32] t.2).map fun s=>((St.parseP t.1).1,s) else none else some (-1,r.2)).bind fun t =>
 (literal t.2).map fun u=>({ x with box:=q.1,flags:=r.1,date:=t.1,lit:=u.1 },u.2)
def flagsL:Nat→Nat→Rd Nat
 | 0,_,_=>none
 | f + 1,n,s=>(flag s).bind fun q=>if (takes [32] q.2).1 = true then flagsL f (n ||| q.1) (takes [32] q.2).2 else some (n ||| q.1,q.2)
def modeS (m:Int) (s:Bt):Int × Bt:=if (takes [43] s).1 = true then (1,(takes [43] s).2) else if (takes [45] s).1 = true then (2,(takes [45] s).2) else (m,s)
def storeF (x:Cm):Rd Cm:=fun s=>(sign [32] s).bind fun s=>(set s).bind fun q=>(sign [32] q.2).bind fun s =>
 if (word (modeS x.mode s).2).1 = [70,76,65,71,83,46,83,73,76,69,78,84]∨(word (modeS x.mode s).2).1 = [70,76,65,71,83] then
  (sign [32] (word (modeS x.mode s).2).2).bind fun t=>(if Lib.hasPrefix t [40] = true then list t else flagsL (t.length + 1) x.flags t).map fun r =>
    ({ x with set:=q.1,mode:=(modeS x.mode s).1,silent:=decide ((word (modeS x.mode s).2).1 = [70,76,65,71,83,46,83,73,76,69,78,84]),flags:=r.1 },r.2)
 else none
def copyF (x:Cm):Rd Cm:=fun s=>(sign [32] s).bind fun s=>(set s).bind fun q=>(then_ q.2).map fun r=>({ x with set:=q.1,box:=r.1 },r.2)
def fetchF (x:Cm):Rd Cm:=fun s=>(sign [32] s).bind fun s=>(set s).bind fun q=>(sign [32] q.2).bind fun s=>(items s).map fun r=>({ x with set:=q.1,items:=r.1 },r.2)
def searchF (x:Cm):Rd Cm:=fun s=>(sign [32] s).bind fun s=>(key 8 s).bind fun q=>(keysL (q.2.length + 1) [q.1] q.2).bind fun r=>if r.1.length ≤ 16 then some ({ x with keys:=r.1 },r.2) else none
def readF:Nat→Cm→Rd Cm
 | 0=>fun x s=>some (x,s)
 | 1=>oneF
 | 2=>listF
 | 3=>loginF
 | 4=>renameF
 | 5=>statusF
 | 6=>appendF
 | 7=>storeF
 | 8=>copyF
 | 9=>fetchF
 | _=>searchF
def uidF (k:Nat):Bool:=decide (7 ≤ k)
def forms:List (Bt × Nat) :=
 [([67,65,80,65,66,73,76,73,84,89],0),([78,79,79,80],0),([76,79,71,79,85,84],0),([67,72,69,67,75],0),([67,76,79,83,69],0),([69,88,80,85,78,71,69],0),
  ([83,69,76,69,67,84],1),([69,88,65,77,73,78,69],1),([67,82,69,65,84,69],1),([68,69,76,69,84,69],1),([83,85,66,83,67,82,73,66,69],1),([85,78,83,85,66,83,67,82,73,66,69],1),
  ([76,73,83,84],2),([76,83,85,66],2),([76,79,71,73,78],3),([82,69,78,65,77,69],4),([83,84,65,84,85,83],5),([65,80,80,69,78,68],6),
  ([83,84,79,82,69],7),([67,79,80,89],8),([70,69,84,67,72],9),([83,69,65,82,67,72],10)]
def formK (w:Bt):Option Nat:=(forms.find? fun p=>p.1 == w).map (·.2)
def headS (s:Bt):Bt × Bool × Bt:=if (word s).1 = [85,73,68]∧(takes [32] (word s).2).1 = true then ((word (takes [32] (word s).2).2).1,true,(word (takes [32] (word s).2).2).2) else ((word s).1,false,(word s).2)
def parseS (s:Bt):Cm × Int :=
 if tagS s = [] then ({},160) else
 let h:=headS (s.drop ((tagS s).length + 1))
 match formK h.1 with
 | none=>({ tag:=tagS s },161)
 | some k=>if h.2.1 = true∧uidF k = false then ({ tag:=tagS s },161) else
   match readF k { tag:=tagS s,word:=h.1,uid:=h.2.1 } h.2.2 with
   | some (x,[])=>(x,0)
   | _=>({ tag:=tagS s },160)
def needS (s:Bt):Int × Bool :=
 if s.getLast? = some 125 then
  (if (123:UInt8) ∈ s.dropLast then Dec.numR (s.dropLast.reverse.takeWhile (fun c=>c != 123)).reverse most else (0,false))
 else (0,false)
def flagsS (n:Int):Bt:=[40] ++ Lib.join ((flagNames.zipIdx.filter fun p=>decide (n / 2 ^ p.2 % 2 = 1)).map fun p=>92 :: p.1) [32] ++ [41]
end Go.Proofs.YtfdmdmahddjjmaaGreatDoor.Im
namespace Go.Proofs.YtfdmdmahddjjmaaGreatDoor
open Go.RowKit Own Im
attribute [local go_sem] str_toList str_size
abbrev thrown:List PanicEntry:=[{ v:=.iface 51 (.agg #[]),recovered:=false }]
structure Gd (w:World):Prop where
 c:GoodC w
 lens:St.Lens w
 lt:3 < w.heap.size
def GoodI (b:Nat) (w:World):Prop:=∃ w0,Gd w0∧w0.heap.size ≤ b∧Below w0.heap.size w0 w
theorem GoodI.below {b B:Nat} {w w':World} (h:GoodI b w) (hb:Below B w w') (hB:b ≤ B):GoodI b w':=by
 obtain ⟨w0,g,h1,h2⟩:=h
 exact ⟨w0,g,h1,h2.trans (hb.mono (Nat.le_trans h1 hB))⟩
theorem GoodI.good {b:Nat} {w:World} (h:GoodI b w):GoodC w:=by
 obtain ⟨w0,g,h1,h2⟩:=h
 exact g.c.below h2
theorem GoodI.only {b:Nat} {w w':World} (h:GoodI b w) (hb:Only b w w'):GoodI b w':=h.below hb.low (Nat.le_refl _)
structure RdI (w:World) (b:Nat) (s:Bt):Prop where
 blk:w.heap[b]? = some (.cells #[.string (str s)] 54 (0,0))
 len:s.length ≤ 100000000
 good:GoodI b w
section
variable {b:Nat} {w w':World} {s:Bt}
theorem RdI.c (h:RdI w b s):w.cell? ⟨b,0,none⟩ = some (.string (str s)):=by rw [cells_at h.blk];rfl
theorem RdI.free (h:RdI w b s):w.frozen? ⟨b,0,none⟩ = false:=by unfold World.frozen?;rw [h.blk];simp
theorem RdI.lt (h:RdI w b s):b < w.heap.size:=lt_of_block h.blk
theorem RdI.below (h:RdI w b s) (hb:Below w.heap.size w w'):RdI w' b s:=⟨(hb.block b h.lt).trans h.blk,h.len,h.good.below hb (Nat.le_of_lt h.lt)⟩
theorem RdI.below' {B:Nat} (h:RdI w b s) (hb:Below B w w') (hlt:b < B):RdI w' b s:=⟨(hb.block b hlt).trans h.blk,h.len,h.good.below hb (Nat.le_of_lt hlt)⟩
theorem RdI.set (h:RdI w b s) (t:Bt) (ht:t.length ≤ s.length):RdI (w.setCell ⟨b,0,none⟩ (.string (str t))) b t:=⟨block_set h.blk _,Nat.le_trans ht h.len,h.good.only (Only.set _ _ _ _)⟩
end
def Reads {α:Type} (b:Nat) (w:World) (val:α→Value→World→Prop) (r:Option (α × Bt)) (e:Ending) (w':World):Prop :=
 Only b w w'∧match r with
  | none=>e = .panicked thrown
  | some q=>∃ v,e = .returned v∧val q.1 v w'∧RdI w' b q.2
abbrev vText:Bt→Value→World→Prop:=fun t v _=>v = .string (str t)
abbrev vInt:Int→Value→World→Prop:=fun n v _=>v = .int .i64 n
abbrev vFlags:Nat→Value→World→Prop:=fun n v _=>v = .int .i64 n
abbrev vUnit:Unit→Value→World→Prop:=fun _ v _=>v = .tuple #[]
theorem must_t (w:World):Calls Tryz.prog 28 #[.bool true] w fun e w'=>e = .returned (.tuple #[])∧w' = w:=by
 go_enter Tryz.func28,Tryz.ntmps28
 go_wp2
 go_end0
 exact ⟨rfl,rfl⟩
theorem must_f (w:World):Calls Tryz.prog 28 #[.bool false] w fun e w'=>e = .panicked thrown∧w' = w:=by
 go_enter Tryz.func28,Tryz.ntmps28
 go_wp2
 exact ⟨rfl,rfl,rfl⟩
theorem must_any (c:Bool) (w:World):Calls Tryz.prog 28 #[.bool c] w fun e w'=>e = (if c = true then .returned (.tuple #[]) else .panicked thrown)∧w' = w:=by
 cases c
 · exact must_f w
 · exact must_t w
theorem trim_drop (s t:Bt):Lib.trimPrefix s t = (takes t s).2:=by
 unfold Lib.trimPrefix takes
 cases Lib.hasPrefix s t <;> simp
theorem takes_fst (t s:Bt):(takes t s).1 = Lib.hasPrefix s t:=by unfold takes;cases Lib.hasPrefix s t <;> rfl
theorem takes_len (t s:Bt):(takes t s).2.length ≤ s.length:=by unfold takes;split <;> simp
theorem takes_any (b:Nat) (s t:Bt) (w:World) (h:RdI w b s) :
  Calls Tryz.prog 26 #[.pointer (some ⟨b,0,none⟩),.string (str t)] w fun e w'=>e = .returned (.bool (takes t s).1)∧RdI w' b (takes t s).2∧Only b w w':=by
 have hcp:∀ W:World,Calls Tryz.prog 48 #[.string (str s),.string (str t)] W fun e w'=>e = .returned (.tuple #[.string (str (takes t s).2),.bool (takes t s).1])∧w' = W:=fun W=>by
  refine (Tryz.strings_CutPrefix (str s) (str t) W).mono ?_
  rintro e w' ⟨rfl,rfl⟩
  refine ⟨?_,rfl⟩
  rw [takes_fst,← trim_drop]
  rfl
 have h0:=h.c
 have f0:=h.free
 have H:=hid h
 clear h
 go_enter Tryz.func26,Tryz.ntmps26
 go_wp2_with (go_at_call 48;refine (hcp _).mono ?_;rintro e w1 ⟨rfl,rfl⟩)
 go_ret
 exact ⟨rfl,H.out.set _ (takes_len t s),Only.set _ _ _ _⟩
theorem sees_any (b:Nat) (s t:Bt) (w:World) (h:RdI w b s) :
  Calls Tryz.prog 91 #[.pointer (some ⟨b,0,none⟩),.string (str t)] w fun e w'=>e = .returned (.bool (Lib.hasPrefix s t))∧w' = w:=by
 have hcp:∀ W:World,Calls Tryz.prog 121 #[.string (str s),.string (str t)] W fun e w'=>e = .returned (.bool (Lib.hasPrefix s t))∧w' = W:=fun W=>Tryz.strings_HasPrefix (str s) (str t) W
 have h0:=h.c
 have f0:=h.free
 clear h
 go_enter Tryz.func91,Tryz.ntmps91
 go_wp2_with (go_at_call 121;refine (hcp _).mono ?_;rintro e w1 ⟨rfl,rfl⟩)
 go_ret
 exact ⟨rfl,rfl⟩
theorem sign_any (b:Nat) (s t:Bt) (w:World) (h:RdI w b s) :
  Calls Tryz.prog 53 #[.pointer (some ⟨b,0,none⟩),.string (str t)] w fun e w'=>Reads b w vUnit ((sign t s).map fun q=>((),q)) e w':=by
 have htk:=fun W hW=>takes_any b s t W hW
 have H:=hid h
 clear h
 cases hp:Lib.hasPrefix s t with
 | false =>
  have e1:(takes t s).1 = false:=(takes_fst t s).trans hp
  have e2:sign t s = none:=by unfold sign;rw [hp];rfl
  rw [e1] at htk
  go_enter Tryz.func53,Tryz.ntmps53
  go_wp2_with (first
   | (go_at_call 26;refine (htk _ H.out).mono ?_;rintro e w1 ⟨rfl,r1,o1⟩;have R1:=hid r1;have O1:=hid o1;clear r1 o1)
   | (go_at_call 28;refine (must_f _).mono ?_;rintro e w2 ⟨rfl,rfl⟩))
  rw [e2]
  exact ⟨rfl,O1.out,rfl⟩
 | true =>
  have e1:(takes t s).1 = true:=(takes_fst t s).trans hp
  have e2:sign t s = some (takes t s).2:=by unfold sign takes;rw [hp];rfl
  rw [e1] at htk
  go_enter Tryz.func53,Tryz.ntmps53
  go_wp2_with (first
   | (go_at_call 26;refine (htk _ H.out).mono ?_;rintro e w1 ⟨rfl,r1,o1⟩;have R1:=hid r1;have O1:=hid o1;clear r1 o1)
   | (go_at_call 28;refine (must_t _).mono ?_;rintro e w2 ⟨rfl,rfl⟩))
  go_end0
  rw [e2]
  exact ⟨O1.out,_,rfl,rfl,R1.out⟩
end Go.Proofs.YtfdmdmahddjjmaaGreatDoor
namespace Go.Proofs.YtfdmdmahddjjmaaGreatDoor
open Go.RowKit Own Im
attribute [local go_sem] str_toList str_size
theorem dg_cases (c:UInt8):(c.toNat:Int) < 48∧isDg c = false∨48 ≤ (c.toNat:Int)∧(c.toNat:Int) ≤ 57∧isDg c = true∨57 < (c.toNat:Int)∧isDg c = false:=by
 unfold isDg
 rcases Nat.lt_or_ge c.toNat 48 with h | h
 · exact .inl ⟨by omega,by simp;omega⟩
 rcases Nat.lt_or_ge 57 c.toNat with h2 | h2
 · exact .inr (.inr ⟨by omega,by simp;omega⟩)
 · exact .inr (.inl ⟨by omega,by omega,by simp;omega⟩)
theorem digit_any (c:UInt8) (w:World) :
  Calls Tryz.prog 89 #[.int .u8 c.toNat] w fun e w'=>e = .returned (.bool (isDg c))∧w = w':=by
 rcases dg_cases c with ⟨h1,hr⟩ | ⟨h1,h2,hr⟩ | ⟨h1,hr⟩
 all_goals
  rw [hr]
  clear hr
  go_enter Tryz.func89,Tryz.ntmps89
  go_wp2
  go_ret
  exact ⟨by first | rfl | (simp;omega),rfl⟩
theorem let_cases (c:UInt8):(c.toNat:Int) < 65∧(letB c = (isDg c || decide (c = 46)))∨65 ≤ (c.toNat:Int)∧(c.toNat:Int) ≤ 90∧letB c = true∨90 < (c.toNat:Int)∧(c.toNat:Int) < 97∧(letB c = (isDg c || decide (c = 46)))∨97 ≤ (c.toNat:Int)∧(c.toNat:Int) ≤ 122∧letB c = true∨122 < (c.toNat:Int)∧(letB c = (isDg c || decide (c = 46))):=by
 unfold letB
 rcases Nat.lt_or_ge c.toNat 65 with h | h
 · exact .inl ⟨by omega,by rw [decide_eq_false (p:=97 ≤ c.toNat) (by omega),decide_eq_false (p:=65 ≤ c.toNat) (by omega)];simp⟩
 rcases Nat.lt_or_ge 90 c.toNat with h2 | h2
 · rcases Nat.lt_or_ge c.toNat 97 with h3 | h3
   · exact .inr (.inr (.inl ⟨by omega,by omega,by rw [decide_eq_false (p:=97 ≤ c.toNat) (by omega),decide_eq_false (p:=c.toNat ≤ 90) (by omega)];simp⟩))
   rcases Nat.lt_or_ge 122 c.toNat with h4 | h4
   · exact .inr (.inr (.inr (.inr ⟨by omega,by rw [decide_eq_false (p:=c.toNat ≤ 122) (by omega),decide_eq_false (p:=c.toNat ≤ 90) (by omega)];simp⟩)))
   · exact .inr (.inr (.inr (.inl ⟨by omega,by omega,by rw [decide_eq_true (p:=97 ≤ c.toNat) h3,decide_eq_true (p:=c.toNat ≤ 122) h4];simp⟩)))
 · exact .inr (.inl ⟨by omega,by omega,by rw [decide_eq_true (p:=65 ≤ c.toNat) h,decide_eq_true (p:=c.toNat ≤ 90) h2];simp⟩)
theorem byte_eq (c:UInt8) (k:Nat) (hk:k < 256):((c.toNat:Int) == (k:Int)) = decide (c = k.toUInt8):=by
 show decide ((c.toNat:Int) = (k:Int)) = _
 by_cases h:c = k.toUInt8
 · rw [decide_eq_true h,decide_eq_true]
   rw [h]
   have:k.toUInt8.toNat = k:=by rw [Nat.toUInt8,UInt8.toNat_ofNat'];omega
   rw [this]
 · rw [decide_eq_false h,decide_eq_false]
   intro hh
   apply h
   have h2:c.toNat = k:=by omega
   rw [← h2]
   simp
theorem letter_any (c:UInt8) (w:World) :
  Calls Tryz.prog 47 #[.int .u8 c.toNat] w fun e w'=>e = .returned (.bool (letB c))∧w = w':=by
 have hdg:=fun W=>digit_any c W
 have h46:((c.toNat:Int) == 46) = decide (c = 46):=byte_eq c 46 (by decide)
 obtain ⟨D,hD⟩:∃ D,D = isDg c:=⟨_,rfl⟩
 obtain ⟨E,hE⟩:∃ E,E = decide (c = 46):=⟨_,rfl⟩
 rw [← hD] at hdg
 rw [← hE] at h46
 rcases let_cases c with ⟨h1,hr⟩ | ⟨h1,h2,hr⟩ | ⟨h1,h2,hr⟩ | ⟨h1,h2,hr⟩ | ⟨h1,hr⟩
 all_goals
  rw [hr]
  clear hr
  try rw [← hD,← hE]
  clear hD hE
  cases D
  all_goals
   go_enter Tryz.func47,Tryz.ntmps47
   go_wp2_with (go_at_call 89;refine (hdg _).mono ?_;rintro e w1 ⟨rfl,rfl⟩)
   go_ret
   exact ⟨by first | rfl | (rw [h46];rfl) | (simp [h46];done) | (simp [h46];intros;omega) | (simp;omega),rfl⟩
theorem index_in (l:Bt) (c:UInt8) (w:World):∃ k:Int,((l.contains c = true∧0 ≤ k)∨(l.contains c = false∧k < 0)) ∧
  Calls Tryz.prog 44 #[.string (str l),.int .u8 c.toNat] w fun e w'=>e = .returned (.int .i64 k)∧w = w':=by
 refine ⟨Lib.indexByte l c,?_,?_⟩
 · rcases indexByte_mem l c with ⟨h1,h2⟩ | ⟨h1,h2⟩
   · exact .inl ⟨by simpa using h1,h2⟩
   · exact .inr ⟨by simpa using h1,by omega⟩
 · refine (Tryz.strings_IndexByte (str l) c.toNat w).mono ?_
   rintro e w' ⟨rfl,rfl⟩
   refine ⟨?_,rfl⟩
   have:((c.toNat:Int).toNat).toUInt8 = c:=by simp
   rw [this]
   rfl
theorem atom_range (c:UInt8):((c.toNat:Int) ≤ 32∨126 < (c.toNat:Int))∧atomB c = false∨32 < (c.toNat:Int)∧(c.toNat:Int) ≤ 126∧atomB c = !([40,41,123,37,42,34,92]:Bt).contains c:=by
 unfold atomB
 rcases Nat.lt_or_ge 32 c.toNat with h | h
 · rcases Nat.lt_or_ge 126 c.toNat with h2 | h2
   · exact .inl ⟨.inr (by omega),by rw [decide_eq_false (p:=c.toNat ≤ 126) (by omega)];simp⟩
   · exact .inr ⟨by omega,by omega,by rw [decide_eq_true (p:=32 < c.toNat) h,decide_eq_true (p:=c.toNat ≤ 126) h2];simp⟩
 · exact .inl ⟨.inl (by omega),by rw [decide_eq_false (p:=32 < c.toNat) (by omega)];simp⟩
theorem atomc_any (c:UInt8) (w:World) :
  Calls Tryz.prog 23 #[.int .u8 c.toNat] w fun e w'=>e = .returned (.bool (atomB c))∧w = w':=by
 rcases atom_range c with ⟨h1 | h1,hr⟩ | ⟨h1,h2,hr⟩
 · rw [hr]
   clear hr
   go_enter Tryz.func23,Tryz.ntmps23
   go_wp2
   go_ret
   exact ⟨rfl,rfl⟩
 · rw [hr]
   clear hr
   go_enter Tryz.func23,Tryz.ntmps23
   go_wp2
   go_ret
   exact ⟨rfl,rfl⟩
 · rw [hr]
   clear hr
   obtain ⟨k,hk | hk,hx⟩:=index_in [40,41,123,37,42,34,92] c w
   all_goals
    obtain ⟨hk1,hk2⟩:=hk
    rw [hk1]
    clear hk1
    go_enter Tryz.func23,Tryz.ntmps23
    go_wp2_with (go_at_call 44;refine hx.mono ?_;rintro e w1 ⟨rfl,rfl⟩)
    go_ret
    exact ⟨by first | rfl | (simp;omega),rfl⟩
theorem pattern_any (c:UInt8) (w:World) :
  Calls Tryz.prog 55 #[.int .u8 c.toNat] w fun e w'=>e = .returned (.bool (patB c))∧w = w':=by
 have hat:=fun W=>atomc_any c W
 have h37:((c.toNat:Int) == 37) = decide (c = 37):=byte_eq c 37 (by decide)
 have h42:((c.toNat:Int) == 42) = decide (c = 42):=byte_eq c 42 (by decide)
 obtain ⟨D,hD⟩:∃ D,D = atomB c:=⟨_,rfl⟩
 obtain ⟨E,hE⟩:∃ E,E = decide (c = 37):=⟨_,rfl⟩
 obtain ⟨F,hF⟩:∃ F,F = decide (c = 42):=⟨_,rfl⟩
 unfold patB
 rw [← hD] at hat
 rw [← hD,← hE,← hF]
 rw [← hE] at h37
 rw [← hF] at h42
 clear hD hE hF
 cases D <;> cases E <;> cases F
 all_goals
  go_enter Tryz.func55,Tryz.ntmps55
  go_wp2_with (go_at_call 23;refine (hat _).mono ?_;rintro e w1 ⟨rfl,rfl⟩)
  go_ret
  exact ⟨by first | rfl | (simp [h37,h42]) | (simp;omega),rfl⟩
theorem ranged_any (c:UInt8) (w:World) :
  Calls Tryz.prog 99 #[.int .u8 c.toNat] w fun e w'=>e = .returned (.bool (rangedB c))∧w = w':=by
 have hdg:=fun W=>digit_any c W
 unfold rangedB
 obtain ⟨D,hD⟩:∃ D,D = isDg c:=⟨_,rfl⟩
 rw [← hD] at hdg
 rw [← hD]
 clear hD
 obtain ⟨k,hk | hk,hx⟩:=index_in [42,58,44] c w
 all_goals
  obtain ⟨hk1,hk2⟩:=hk
  rw [hk1]
  clear hk1
  cases D
  all_goals
   go_enter Tryz.func99,Tryz.ntmps99
   go_wp2_with (first
    | (go_at_call 89;refine (hdg _).mono ?_;rintro e w1 ⟨rfl,rfl⟩)
    | (go_at_call 44;refine hx.mono ?_;rintro e w1 ⟨rfl,rfl⟩))
   go_ret
   exact ⟨by first | rfl | (simp;omega),rfl⟩
theorem run_at {p:UInt8→Bool} {s:Bt} {i:Nat} {c:UInt8} (hi:i ≤ (s.takeWhile p).length) (hc:s[i]? = some c):(p c = true→i < (s.takeWhile p).length)∧(p c = false→i = (s.takeWhile p).length):=by
 induction s generalizing i with
 | nil=>simp at hc
 | cons a t ih =>
  rw [List.takeWhile_cons] at hi ⊢
  cases ha:p a with
  | false =>
   rw [ha] at hi
   have:i = 0:=by simpa using hi
   subst this
   obtain rfl:a = c:=by simpa using hc
   exact ⟨fun h=>(by rw [ha] at h;cases h),fun _=>by simp⟩
  | true =>
   rw [ha] at hi
   cases i with
   | zero =>
    obtain rfl:a = c:=by simpa using hc
    exact ⟨fun _=>by simp,fun h=>(by rw [ha] at h;cases h)⟩
   | succ j =>
    have:=ih (i:=j) (by simpa using hi) (by simpa using hc)
    simpa using this
theorem run_take (p:UInt8→Bool) (s:Bt):s.take (s.takeWhile p).length = s.takeWhile p:=by
 have h:=List.takeWhile_append_dropWhile (p:=p) (l:=s)
 conv=>lhs;arg 2;rw [← h]
 rw [List.take_left' rfl]
theorem run_drop (p:UInt8→Bool) (s:Bt):s.drop (s.takeWhile p).length = s.dropWhile p:=by
 have h:=List.takeWhile_append_dropWhile (p:=p) (l:=s)
 conv=>lhs;arg 2;rw [← h]
 rw [List.drop_left' rfl]
theorem run_len (p:UInt8→Bool) (s:Bt):(s.takeWhile p).length ≤ s.length:=(List.takeWhile_prefix p).length_le
theorem rest_len (p:UInt8→Bool) (s:Bt):(s.dropWhile p).length ≤ s.length:=(List.dropWhile_suffix p).length_le
set_option maxHeartbeats 1000000 in
theorem run_any (f:FuncId) (p:UInt8→Bool) (he:∀ args w,(callFunc f args).run Tryz.prog w = .ok (.enter f args) w)
  (hf:∀ (c:UInt8) (W:World),Calls Tryz.prog f #[.int .u8 c.toNat] W fun e W'=>e = .returned (.bool (p c))∧W = W') (b:Nat) (s:Bt) (w:World) (h:RdI w b s) :
  Calls Tryz.prog 46 #[.pointer (some ⟨b,0,none⟩),.func (.func f) #[] #[]] w fun e w'=>e = .returned (.string (str (s.takeWhile p)))∧RdI w' b (s.dropWhile p)∧Only b w w':=by
 have hsz:=str_size s
 have hlen:=h.len
 have h0:=h.c
 have f0:=h.free
 obtain ⟨k,hk⟩:∃ k,k = (s.takeWhile p).length:=⟨_,rfl⟩
 have hkl:k ≤ s.length:=by rw [hk];exact run_len p s
 have x1:(str s).extract 0 k = str (s.takeWhile p):=by rw [str_upto,hk,run_take]
 have x2:(str s).extract k s.length = str (s.dropWhile p):=by rw [str_from s k s.length rfl,hk,run_drop]
 have H:=hid h
 have HK:=hid hk
 have X1:=hid x1
 have X2:=hid x2
 clear h hk x1 x2
 go_enter Tryz.func46,Tryz.ntmps46
 go_wp2_with fail
 go_loop [5] (fun v5=>∃ i:Nat,i ≤ k∧v5 = .int .i64 i) (fun v5=>s.length - (intOf v5).toNat)
 case atStart=>exact ⟨0,Nat.zero_le _,rfl⟩
 case round =>
  obtain ⟨i,hi,rfl⟩:=hrel
  by_cases hil:i < s.length
  · obtain ⟨c,hc⟩:∃ c,s[i]? = some c:=⟨_,List.getElem?_eq_getElem hil⟩
    have hix:=str_ix hc
    have hkk:=run_at (p:=p) (by rw [HK.out] at hi;exact hi) hc
    rw [← HK.out] at hkk
    have hfc:=fun W=>hf c W
    cases hp:p c with
    | true =>
     rw [hp] at hfc
     have hlt:=hkk.1 hp
     clear hkk hp hc
     go_wp2_with (refine (hfc _).mono ?_;rintro e w1 ⟨rfl,rfl⟩)
     go_round
     case rel=>exact ⟨i + 1,by omega,by go_num⟩
     case measure=>simp [intOf];omega
    | false =>
     rw [hp] at hfc
     obtain rfl:=hkk.2 hp
     clear hkk hp hc
     go_wp2_with (refine (hfc _).mono ?_;rintro e w1 ⟨rfl,rfl⟩)
     go_ret
     refine ⟨?_,?_,Only.set _ _ _ _⟩
     · rw [X1.out]
       rfl
     · rw [X2.out]
       exact H.out.set _ (rest_len p s)
  · obtain rfl:i = s.length:=by omega
    obtain rfl:k = s.length:=by omega
    go_wp2_with fail
    go_ret
    refine ⟨?_,?_,Only.set _ _ _ _⟩
    · rw [X1.out]
      rfl
    · have hd:s.dropWhile p = []:=by rw [← run_drop,← HK.out,List.drop_length]
      rw [hd]
      exact H.out.set [] (Nat.zero_le _)
theorem word_any (b:Nat) (s:Bt) (w:World) (h:RdI w b s) :
  Calls Tryz.prog 25 #[.pointer (some ⟨b,0,none⟩)] w fun e w'=>e = .returned (.string (str (word s).1))∧RdI w' b (word s).2∧Only b w w':=by
 have hrun:=fun W hW=>run_any 47 letB (enters_of Tryz.func47 (by kernel_rfl) rfl) letter_any b s W hW
 have hgr:=fun W=>great_any (s.takeWhile letB) W (by have:=run_len letB s;have:=h.len;omega)
 have H:=hid h
 clear h
 go_enter Tryz.func25,Tryz.ntmps25
 go_wp2_with (first
  | (go_at_call 46;refine (hrun _ H.out).mono ?_;rintro e w1 ⟨rfl,r1,o1⟩;have R1:=hid r1;have O1:=hid o1;clear r1 o1)
  | (go_at_call 45;refine (hgr _).mono ?_;rintro e w2 ⟨rfl,b2⟩;have B2:=hid b2;clear b2))
 go_ret
 exact ⟨rfl,R1.out.below B2.out,O1.out.trans (Only.of B2.out (Nat.le_of_lt R1.out.lt))⟩
theorem num_any (b:Nat) (s:Bt) (lo hi:Int) (w:World) (h:RdI w b s) :
  Calls Tryz.prog 103 #[.pointer (some ⟨b,0,none⟩),.int .i64 lo,.int .i64 hi] w fun e w'=>Reads b w vInt (number lo hi s) e w':=by
 have hrun:=fun W hW=>run_any 89 isDg (enters_of Tryz.func89 (by kernel_rfl) rfl) digit_any b s W hW
 have hnm:=fun W (hW:RdI W b (s.dropWhile isDg))=>number_any (s.takeWhile isDg) hi W hW.good.good
 have e0:number lo hi s = if (Dec.numR (s.takeWhile isDg) hi).2 = true∧lo ≤ (Dec.numR (s.takeWhile isDg) hi).1 then some ((Dec.numR (s.takeWhile isDg) hi).1,s.dropWhile isDg) else none:=rfl
 rw [e0]
 clear e0
 obtain ⟨n,ok,hq⟩:∃ n ok,Dec.numR (s.takeWhile isDg) hi = (n,ok):=⟨_,_,rfl⟩
 rw [hq] at hnm ⊢
 have H:=hid h
 clear h hq
 cases ok with
 | false =>
  rw [if_neg (by simp)]
  go_enter Tryz.func103,Tryz.ntmps103
  go_wp2_with (first
   | (go_at_call 46;refine (hrun _ H.out).mono ?_;rintro e w1 ⟨rfl,r1,o1⟩;have R1:=hid r1;have O1:=hid o1;clear r1 o1)
   | (go_at_call 31;refine (hnm _ R1.out).mono ?_;rintro e w2 ⟨rfl,b2⟩;have B2:=hid b2;clear b2)
   | (go_at_call 28;refine (must_f _).mono ?_;rintro e w3 ⟨rfl,rfl⟩))
  exact ⟨rfl,O1.out.trans (Only.of B2.out (Nat.le_of_lt R1.out.lt)),rfl⟩
 | true =>
  by_cases hlo:lo ≤ n
  · have d0:decide (lo ≤ n) = true:=decide_eq_true hlo
    rw [if_pos ⟨rfl,hlo⟩]
    go_enter Tryz.func103,Tryz.ntmps103
    go_wp2_with (first
     | (go_at_call 46;refine (hrun _ H.out).mono ?_;rintro e w1 ⟨rfl,r1,o1⟩;have R1:=hid r1;have O1:=hid o1;clear r1 o1)
     | (go_at_call 31;refine (hnm _ R1.out).mono ?_;rintro e w2 ⟨rfl,b2⟩;have B2:=hid b2;clear b2)
     | (go_at_call 28;refine (must_t _).mono ?_;rintro e w3 ⟨rfl,rfl⟩))
    go_ret
    exact ⟨O1.out.trans (Only.of B2.out (Nat.le_of_lt R1.out.lt)),_,rfl,rfl,R1.out.below B2.out⟩
  · have d0:decide (lo ≤ n) = false:=decide_eq_false hlo
    rw [if_neg (fun c=>hlo c.2)]
    go_enter Tryz.func103,Tryz.ntmps103
    go_wp2_with (first
     | (go_at_call 46;refine (hrun _ H.out).mono ?_;rintro e w1 ⟨rfl,r1,o1⟩;have R1:=hid r1;have O1:=hid o1;clear r1 o1)
     | (go_at_call 31;refine (hnm _ R1.out).mono ?_;rintro e w2 ⟨rfl,b2⟩;have B2:=hid b2;clear b2)
     | (go_at_call 28;refine (must_f _).mono ?_;rintro e w3 ⟨rfl,rfl⟩))
    exact ⟨rfl,O1.out.trans (Only.of B2.out (Nat.le_of_lt R1.out.lt)),rfl⟩
end Go.Proofs.YtfdmdmahddjjmaaGreatDoor
namespace Go.Proofs.YtfdmdmahddjjmaaGreatDoor
open Go.RowKit Own Im
attribute [local go_sem] str_toList str_size
theorem Reads.cases {α:Type} {b:Nat} {w w':World} {val:α→Value→World→Prop} {r:Option (α × Bt)} {e:Ending} (h:Reads b w val r e w') :
  (r = none∧e = .panicked thrown∧Only b w w')∨∃ x t v,r = some (x,t)∧e = .returned v∧val x v w'∧RdI w' b t∧Only b w w':=by
 obtain ⟨ho,h⟩:=h
 cases r with
 | none=>exact .inl ⟨rfl,h,ho⟩
 | some q=>obtain ⟨v,h1,h2,h3⟩:=h;exact .inr ⟨q.1,q.2,v,rfl,h1,h2,h3,ho⟩
theorem sign_cases {b:Nat} {w w':World} {t s:Bt} {e:Ending} (h:Reads b w vUnit ((sign t s).map fun q=>((),q)) e w') :
  (sign t s = none∧e = .panicked thrown∧Only b w w')∨∃ q,sign t s = some q∧e = .returned (.tuple #[])∧RdI w' b q∧Only b w w':=by
 rcases h.cases with ⟨h1,h2,h3⟩ | ⟨x,t,v,h1,h2,h3,h4,h5⟩
 · exact .inl ⟨Option.map_eq_none_iff.1 h1,h2,h3⟩
 · obtain ⟨q,hq,he⟩:=Option.map_eq_some_iff.1 h1
   cases he
   exact .inr ⟨_,hq,by rw [h2,h3],h4,h5⟩
theorem Reads.panic {α:Type} {b:Nat} {w w':World} {val:α→Value→World→Prop} {r:Option (α × Bt)} (hr:r = none) (ho:Only b w w'):Reads b w val r (.panicked thrown) w':=by
 subst hr
 exact ⟨ho,rfl⟩
theorem Reads.give {α:Type} {b:Nat} {w w':World} {val:α→Value→World→Prop} {r:Option (α × Bt)} {x:α} {t:Bt} {v:Value} (hr:r = some (x,t)) (ho:Only b w w') (hv:val x v w') (ht:RdI w' b t):Reads b w val r (.returned v) w':=by
 subst hr
 exact ⟨ho,v,rfl,hv,ht⟩
theorem numR_most (l:Bt) (hi:Int) (h:(Dec.numR l hi).2 = true):(Dec.numR l hi).1 ≤ hi:=by
 unfold Dec.numR at h ⊢
 by_cases c1:l.length < 1∨10 < l.length
 · rw [if_pos c1] at h;cases h
 rw [if_neg c1] at h ⊢
 by_cases c2:¬ ∀ c ∈ l,Dec.isDig c
 · rw [if_pos c2] at h;cases h
 rw [if_neg c2] at h ⊢
 by_cases c3:Text.digs (Dec.numF 0 l) ≠ l∨hi < (Dec.numF 0 l:Int)
 · rw [if_pos c3] at h;cases h
 rw [if_neg c3]
 show (Dec.numF 0 l:Int) ≤ hi
 omega
theorem number_ge {lo hi:Int} {s:Bt} {n:Int} {t:Bt} (h:number lo hi s = some (n,t)):lo ≤ n∧n ≤ max lo hi:=by
 unfold number at h
 split at h
 · rename_i hc
   cases h
   refine ⟨hc.2,?_⟩
   have:=numR_most (s.takeWhile isDg) hi hc.1
   omega
 · cases h
theorem must_split {c:Bool} {e:Ending} (h:e = (if c = true then .returned (.tuple #[]) else .panicked thrown)):(c = false∧e = .panicked thrown)∨(c = true∧e = .returned (.tuple #[])):=by
 cases c
 · exact .inl ⟨rfl,h⟩
 · exact .inr ⟨rfl,h⟩
set_option maxHeartbeats 2000000 in
theorem literal_any (b:Nat) (s:Bt) (w:World) (h:RdI w b s) :
  Calls Tryz.prog 93 #[.pointer (some ⟨b,0,none⟩)] w fun e w'=>Reads b w vText (literal s) e w':=by
 have H:=hid h
 clear h
 obtain ⟨R,hR⟩:∃ R,R = literal s:=⟨_,rfl⟩
 rw [← hR]
 have HR:=hid hR
 clear hR
 go_enter Tryz.func93,Tryz.ntmps93
 go_wp2_with (first
  | (go_at_call 53;refine (sign_any b s [123] _ H.out).mono ?_;intro e w1 h1;rcases sign_cases h1 with ⟨q1,rfl,o1⟩ | ⟨s1,q1,rfl,r1,o1⟩ <;> (first | (have O1:=hid o1;have Q1:=hid q1;have R1:=hid r1;clear o1 q1 r1 h1) | (have O1:=hid o1;have Q1:=hid q1;clear o1 q1 h1)))
  | (go_at_call 103;refine (num_any b s1 0 4096 _ R1.out).mono ?_;intro e w2 h2;rcases h2.cases with ⟨q2,rfl,o2⟩ | ⟨n,s2,v,q2,rfl,rfl,r2,o2⟩ <;> (first | (obtain ⟨k,rfl⟩:∃ k:Nat,n = (k:Int):=⟨n.toNat,by have:=number_ge q2;omega⟩;have hk:=(number_ge q2).2;have O2:=hid o2;have Q2:=hid q2;have R2:=hid r2;clear o2 q2 r2 h2) | (have O2:=hid o2;have Q2:=hid q2;clear o2 q2 h2)))
  | (go_at_call 53;refine (sign_any b s2 [125,13,10] _ R2.out).mono ?_;intro e w3 h3;rcases sign_cases h3 with ⟨q3,rfl,o3⟩ | ⟨s3,q3,rfl,r3,o3⟩ <;> (first | (have O3:=hid o3;have Q3:=hid q3;have c3:=r3.c;have f3:=r3.free;have z3:=str_size s3;have l3:=r3.len;have R3:=hid r3;clear o3 q3 r3 h3) | (have O3:=hid o3;have Q3:=hid q3;clear o3 q3 h3)))
  | (go_at_call 28;refine (must_any _ _).mono ?_;rintro e w4 ⟨h4,rfl⟩;rcases must_split h4 with ⟨m4,rfl⟩ | ⟨m4,rfl⟩ <;> (first | (have M4:=of_decide_eq_true m4;clear m4 h4) | (have M4:=of_decide_eq_false m4;clear m4 h4))))
 all_goals first
  | (refine ⟨rfl,Reads.panic ?_ (((O1.out.trans O2.out).trans O3.out))⟩;rw [HR.out];simp [literal,Q1.out,Q2.out,Q3.out];omega)
  | (refine ⟨rfl,Reads.panic ?_ (((O1.out.trans O2.out).trans O3.out))⟩;rw [HR.out];simp [literal,Q1.out,Q2.out,Q3.out];done)
  | (refine ⟨rfl,Reads.panic ?_ (O1.out.trans O2.out)⟩;rw [HR.out];simp [literal,Q1.out,Q2.out];done)
  | (refine ⟨rfl,Reads.panic ?_ O1.out⟩;rw [HR.out];simp [literal,Q1.out];done)
  | skip
 go_ret
 refine Reads.give (x:=s3.take k) (t:=s3.drop k) ?_ ((O1.out.trans O2.out).trans (O3.out.trans (Only.set _ _ _ _))) ?_ ?_
 · rw [HR.out]
   simp [literal,Q1.out,Q2.out,Q3.out]
   omega
 · show Value.string ((str s3).extract 0 k) = Value.string (str (s3.take k))
   rw [str_upto]
 · rw [str_from s3 k s3.length rfl]
   exact R3.out.set _ (by simp)
end Go.Proofs.YtfdmdmahddjjmaaGreatDoor
namespace Go.Proofs.YtfdmdmahddjjmaaGreatDoor
open Go.RowKit Own Im
attribute [local go_sem] str_toList str_size
abbrev vSet (B:Nat):List Rg→Value→World→Prop:=fun l v w=>Sq.RBuf B w v l
set_option maxHeartbeats 1000000 in
theorem set_any (b:Nat) (s:Bt) (w:World) (h:RdI w b s) :
  Calls Tryz.prog 62 #[.pointer (some ⟨b,0,none⟩)] w fun e w'=>Reads b w (vSet w.heap.size) (Im.set s) e w':=by
 have hrun:=fun W hW=>run_any 99 rangedB (enters_of Tryz.func99 (by kernel_rfl) rfl) ranged_any b s W hW
 have hps:=fun W (hW:RdI W b (s.dropWhile rangedB))=>Sq.parse_any (s.takeWhile rangedB) W hW.good.good (by have:=run_len rangedB s;have:=h.len;omega)
 have H:=hid h
 clear h
 obtain ⟨R,hR⟩:∃ R,R = Im.set s:=⟨_,rfl⟩
 rw [← hR]
 unfold Im.set at hR
 obtain ⟨l,n,hq⟩:∃ l n,Sq.Sq.parseS (s.takeWhile rangedB) = (l,n):=⟨_,_,rfl⟩
 rw [hq] at hps hR
 have HR:=hid hR
 clear hR hq
 go_enter Tryz.func62,Tryz.ntmps62
 go_wp2_with (first
  | (go_at_call 46;refine (hrun _ H.out).mono ?_;rintro e w1 ⟨rfl,r1,o1⟩;have R1:=hid r1;have O1:=hid o1;clear r1 o1)
  | (go_at_call 98;refine (hps _ R1.out).mono ?_;rintro e w2 ⟨v,rfl,v2,b2⟩;have V2:=hid v2;have B2:=hid b2;clear v2 b2)
  | (go_at_call 28;refine (must_any _ _).mono ?_;rintro e w3 ⟨h3,rfl⟩;rcases must_split h3 with ⟨m3,rfl⟩ | ⟨m3,rfl⟩ <;> clear h3))
 all_goals first
  | (refine ⟨rfl,Reads.panic ?_ (O1.out.trans (Only.of B2.out (Nat.le_of_lt R1.out.lt)))⟩;rw [HR.out];exact if_neg (by simpa using m3))
  | skip
 go_ret
 exact Reads.give (by rw [HR.out];exact if_pos (by simpa using m3)) (O1.out.trans (Only.of B2.out (Nat.le_of_lt R1.out.lt))) (V2.out.mono O1.out.size) (R1.out.below B2.out)
end Go.Proofs.YtfdmdmahddjjmaaGreatDoor
namespace Go.Proofs.YtfdmdmahddjjmaaGreatDoor
open Go.RowKit Own Im
structure Two (b c:Nat) (w w':World):Prop where
 low:Below b w w'
 high:∀ k,b < k→k ≠ c→k < w.heap.size→w'.heap[k]? = w.heap[k]?
section
variable {b c:Nat} {w w' w2:World}
theorem Two.refl (b c:Nat) (w:World):Two b c w w:=⟨Below.refl _ _,fun _ _ _ _=>rfl⟩
theorem Two.trans (h:Two b c w w') (k:Two b c w' w2):Two b c w w2:=⟨h.low.trans k.low,fun i h1 h2 h3=>(k.high i h1 h2 (Nat.lt_of_lt_of_le h3 h.low.size)).trans (h.high i h1 h2 h3)⟩
theorem Only.two (h:Only b w w'):Two b c w w':=⟨h.low,fun i h1 _ h3=>h.high i h1 h3⟩
theorem Two.of (h:Below w.heap.size w w') (hb:b ≤ w.heap.size):Two b c w w':=(Only.of h hb).two
theorem Two.set (w:World) (hbc:b < c) (j:Nat) (v:Value):Two b c w (w.setCell ⟨c,j,none⟩ v):=⟨(Below.refl b w).setCell (p:=⟨c,j,none⟩) (Nat.le_of_lt hbc) v,fun k _ h2 _=>Below.heap_setCell w ⟨c,j,none⟩ v k h2⟩
theorem Two.block (h:Two b c w w') {k:Nat} (hk:k ≠ b) (hc:k ≠ c) (hlt:k < w.heap.size):w'.heap[k]? = w.heap[k]?:=by
 rcases Nat.lt_or_ge k b with h1 | h1
 · exact h.low.block k h1
 · exact h.high k (by omega) hc hlt
theorem Two.size (h:Two b c w w'):w.heap.size ≤ w'.heap.size:=h.low.size
theorem Two.only (h:Two b c w w') (hc:w.heap.size ≤ c):Only b w w':=⟨h.low,fun k h1 h2=>h.high k h1 (by omega) h2⟩
theorem Two.below {B:Nat} (h:Two b c w w') (k:Below B w' w2) (hb:b < B) (hw:w.heap.size ≤ B):Two b c w w2:=⟨h.low.trans (k.mono (Nat.le_of_lt hb)),fun i h1 h2 h3=>(k.block i (Nat.lt_of_lt_of_le h3 hw)).trans (h.high i h1 h2 h3)⟩
end
theorem GBuf.moved {e:TypeId} {sz B:Nat} {w w':World} {v:Value} {n:Nat} {xs:List Value} (h:GBuf e sz B w v n xs) (hs:w.heap.size ≤ w'.heap.size) (hk:∀ k,B ≤ k→k < w.heap.size→w'.heap[k]? = w.heap[k]?):GBuf e sz B w' v n xs:=by
 refine ⟨⟨h.1.1,?_⟩,Nat.le_trans h.2 hs⟩
 rcases h.1.2 with hn | ⟨g,cap,cur,rfl,hb2,hg,rest⟩
 · exact .inl hn
 · exact .inr ⟨g,cap,cur,rfl,hb2,(hk g hb2 (lt_of_block hg)).trans hg,rest⟩
def Stays (B:Nat) (w w':World):Prop:=w.heap.size ≤ w'.heap.size∧∀ k,B ≤ k→k < w.heap.size→w'.heap[k]? = w.heap[k]?
theorem Only.stays {b B:Nat} {w w':World} (h:Only b w w') (hb:b < B):Stays B w w':=⟨h.size,fun k h1 h2=>h.block (by omega) h2⟩
theorem Two.stays {b c B:Nat} {w w':World} (h:Two b c w w') (hb:b < B) (hc:c < B):Stays B w w':=⟨h.size,fun k h1 h2=>h.block (by omega) (by omega) h2⟩
theorem Below.stays {B:Nat} {w w':World} (h:Below w.heap.size w w'):Stays B w w':=⟨h.size,fun k _ h2=>h.block k h2⟩
theorem Stays.mono {B C:Nat} {w w':World} (h:Stays B w w') (hB:B ≤ C):Stays C w w':=⟨h.1,fun k h1 h2=>h.2 k (by omega) h2⟩
theorem GBuf.stays {e:TypeId} {sz B:Nat} {w w':World} {v:Value} {n:Nat} {xs:List Value} (h:GBuf e sz B w v n xs) (hs:Stays B w w'):GBuf e sz B w' v n xs:=h.moved hs.1 hs.2
theorem Sq.RBuf.stays {B:Nat} {w w':World} {v:Value} {l:List Rg} (h:Sq.RBuf B w v l) (hs:Stays B w w'):Sq.RBuf B w' v l:=GBuf.stays h hs
theorem SBuf.stays {B:Nat} {w w':World} {v:Value} {l:List Bt} (h:SBuf B w v l) (hs:Stays B w w'):SBuf B w' v l:=GBuf.stays h hs
theorem info_int:(Tryz.prog.info? 3).map (fun i=>(i.zero,i.size,i.bytes)) = some (some (.int .i64 0),1,8):=by kernel_rfl
theorem info_item:(Tryz.prog.info? 37).map (fun i=>(i.zero,i.size,i.bytes)) = some (some (.agg #[.int .i64 0,.slice none 0 0,.int .i64 0,.bool false,.int .i64 0,.int .i64 0]),6,64):=by kernel_rfl
theorem info_key:(Tryz.prog.info? 39).map (fun i=>(i.zero,i.size,i.bytes)) = some (some (.agg #[.int .i64 0,.bool false,.string ByteArray.empty,.int .i64 0,.slice none 0 0]),5,64):=by kernel_rfl
def nv (l:List Int):List Value:=l.map fun n=>.int .i64 n
abbrev NBuf (B:Nat) (w:World) (v:Value) (l:List Int):Prop:=GBuf 3 1 B w v l.length (nv l)
def ItAt (w:World) (c:Nat) (k:Int) (sv:Value) (wh:Int) (pk:Bool) (fr of:Int):Prop:=w.heap[c]? = some (.cells #[.int .i64 k,sv,.int .i64 wh,.bool pk,.int .i64 fr,.int .i64 of] 37 (0,0))
abbrev itC (it:It) (sv:Value):List Value:=[.int .i64 it.kind,sv,.int .i64 it.what,.bool it.peek,.int .i64 it.frm,.int .i64 it.of]
abbrev vItem (B:Nat):It→Value→World→Prop:=fun it v w=>∃ sv,v = .agg #[.int .i64 it.kind,sv,.int .i64 it.what,.bool it.peek,.int .i64 it.frm,.int .i64 it.of]∧NBuf B w sv it.sec
def ItCells (B:Nat) (w:World):List It→List Value→Prop
 | [],xs=>xs = []
 | it :: l,xs=>∃ sv r,xs = itC it sv ++ r∧NBuf B w sv it.sec∧ItCells B w l r
abbrev vItems (B:Nat):List It→Value→World→Prop:=fun l v w=>∃ xs,GBuf 37 6 B w v l.length xs∧ItCells B w l xs
abbrev kyC (k:Ky) (sv:Value):List Value:=[.int .i64 k.kind,.bool k.not,.string (str k.text),.int .i64 k.n,sv]
abbrev vKey (B:Nat):Ky→Value→World→Prop:=fun k v w=>∃ sv,v = .agg #[.int .i64 k.kind,.bool k.not,.string (str k.text),.int .i64 k.n,sv]∧Sq.RBuf B w sv k.set
def KyCells (B:Nat) (w:World):List Ky→List Value→Prop
 | [],xs=>xs = []
 | k :: l,xs=>∃ sv r,xs = kyC k sv ++ r∧Sq.RBuf B w sv k.set∧KyCells B w l r
abbrev vKeys (B:Nat):List Ky→Value→World→Prop:=fun l v w=>∃ xs,GBuf 39 5 B w v l.length xs∧KyCells B w l xs
theorem ItCells.stays {B:Nat} {w w':World} (hs:Stays B w w'):∀ {l:List It} {xs:List Value},ItCells B w l xs→ItCells B w' l xs
 | [],_,h=>h
 | it :: l,xs,⟨sv,r,h1,h2,h3⟩=>⟨sv,r,h1,h2.stays hs,ItCells.stays hs h3⟩
theorem KyCells.stays {B:Nat} {w w':World} (hs:Stays B w w'):∀ {l:List Ky} {xs:List Value},KyCells B w l xs→KyCells B w' l xs
 | [],_,h=>h
 | k :: l,xs,⟨sv,r,h1,h2,h3⟩=>⟨sv,r,h1,h2.stays hs,KyCells.stays hs h3⟩
theorem ItCells.mono {B C:Nat} {w:World} (hB:C ≤ B):∀ {l:List It} {xs:List Value},ItCells B w l xs→ItCells C w l xs
 | [],_,h=>h
 | it :: l,xs,⟨sv,r,h1,h2,h3⟩=>⟨sv,r,h1,h2.mono hB,ItCells.mono hB h3⟩
theorem KyCells.mono {B C:Nat} {w:World} (hB:C ≤ B):∀ {l:List Ky} {xs:List Value},KyCells B w l xs→KyCells C w l xs
 | [],_,h=>h
 | k :: l,xs,⟨sv,r,h1,h2,h3⟩=>⟨sv,r,h1,h2.mono hB,KyCells.mono hB h3⟩
theorem ItCells.snoc {B:Nat} {w:World} {it:It} {sv:Value} (hv:NBuf B w sv it.sec):∀ {l:List It} {xs:List Value},ItCells B w l xs→ItCells B w (l ++ [it]) (xs ++ itC it sv)
 | [],xs,h=>by
   have h:xs = []:=h
   subst h
   exact ⟨sv,[],by simp,hv,rfl⟩
 | i :: l,xs,⟨s,r,h1,h2,h3⟩=>⟨s,r ++ itC it sv,by rw [h1,List.append_assoc],h2,ItCells.snoc hv h3⟩
theorem KyCells.snoc {B:Nat} {w:World} {k:Ky} {sv:Value} (hv:Sq.RBuf B w sv k.set):∀ {l:List Ky} {xs:List Value},KyCells B w l xs→KyCells B w (l ++ [k]) (xs ++ kyC k sv)
 | [],xs,h=>by
   have h:xs = []:=h
   subst h
   exact ⟨sv,[],by simp,hv,rfl⟩
 | i :: l,xs,⟨s,r,h1,h2,h3⟩=>⟨s,r ++ kyC k sv,by rw [h1,List.append_assoc],h2,KyCells.snoc hv h3⟩
theorem vItem.stays {B:Nat} {w w':World} {it:It} {v:Value} (h:vItem B it v w) (hs:Stays B w w'):vItem B it v w':=by
 obtain ⟨sv,h1,h2⟩:=h
 exact ⟨sv,h1,h2.stays hs⟩
theorem vItems.stays {B:Nat} {w w':World} {l:List It} {v:Value} (h:vItems B l v w) (hs:Stays B w w'):vItems B l v w':=by
 obtain ⟨xs,h1,h2⟩:=h
 exact ⟨xs,h1.stays hs,h2.stays hs⟩
theorem vKey.stays {B:Nat} {w w':World} {k:Ky} {v:Value} (h:vKey B k v w) (hs:Stays B w w'):vKey B k v w':=by
 obtain ⟨sv,h1,h2⟩:=h
 exact ⟨sv,h1,h2.stays hs⟩
theorem vKeys.stays {B:Nat} {w w':World} {l:List Ky} {v:Value} (h:vKeys B l v w) (hs:Stays B w w'):vKeys B l v w':=by
 obtain ⟨xs,h1,h2⟩:=h
 exact ⟨xs,h1.stays hs,h2.stays hs⟩
theorem vItem.mono {B C:Nat} {w:World} {it:It} {v:Value} (h:vItem B it v w) (hB:C ≤ B):vItem C it v w:=by
 obtain ⟨sv,h1,h2⟩:=h
 exact ⟨sv,h1,h2.mono hB⟩
theorem vItems.mono {B C:Nat} {w:World} {l:List It} {v:Value} (h:vItems B l v w) (hB:C ≤ B):vItems C l v w:=by
 obtain ⟨xs,h1,h2⟩:=h
 exact ⟨xs,h1.mono hB,h2.mono hB⟩
theorem vKey.mono {B C:Nat} {w:World} {k:Ky} {v:Value} (h:vKey B k v w) (hB:C ≤ B):vKey C k v w:=by
 obtain ⟨sv,h1,h2⟩:=h
 exact ⟨sv,h1,h2.mono hB⟩
theorem vKeys.mono {B C:Nat} {w:World} {l:List Ky} {v:Value} (h:vKeys B l v w) (hB:C ≤ B):vKeys C l v w:=by
 obtain ⟨xs,h1,h2⟩:=h
 exact ⟨xs,h1.mono hB,h2.mono hB⟩
def LBuf (B:Nat) (w:World) (v:Value) (l:Bt):Prop :=
 ∃ A c,v = .slice A l.length c∧l.length ≤ c∧(A = none→l = [])∧B ≤ w.heap.size∧∀ p,A = some p→∃ g cs f,p = ⟨g,0,none⟩∧B ≤ g∧w.heap[g]? = some (.cells cs 5 f)∧∀ (j:Nat) u,(bv l)[j]? = some u→cs[j]? = some u
theorem LBuf.nil {B:Nat} {w:World} (h:B ≤ w.heap.size):LBuf B w (.slice none 0 0) []:=⟨none,0,rfl,Nat.le_refl _,fun _=>rfl,h,fun p hp=>by cases hp⟩
theorem LBuf.full {B:Nat} {w:World} {v:Value} {l:Bt} (h:LBuf B w v l):∃ A c,v = .slice A l.length c∧l.length ≤ c∧(A = none→l = [])∧B ≤ w.heap.size∧∀ p,A = some p→∃ g cs f,p = ⟨g,0,none⟩∧B ≤ g∧w.heap[g]? = some (.cells cs 5 f)∧∀ (j:Nat) u,(bv l)[j]? = some u→cs[j]? = some u:=h
theorem LBuf.stays {B:Nat} {w w':World} {v:Value} {l:Bt} (h:LBuf B w v l) (hs:Stays B w w'):LBuf B w' v l:=by
 obtain ⟨A,c,h1,h2,h3,h4,h5⟩:=h
 refine ⟨A,c,h1,h2,h3,Nat.le_trans h4 hs.1,fun p hp=>?_⟩
 obtain ⟨g,cs,f,e1,e2,e3,e4⟩:=h5 p hp
 exact ⟨g,cs,f,e1,e2,(hs.2 g e2 (lt_of_block e3)).trans e3,e4⟩
theorem LBuf.mono {B C:Nat} {w:World} {v:Value} {l:Bt} (h:LBuf B w v l) (hB:C ≤ B):LBuf C w v l:=by
 obtain ⟨A,c,h1,h2,h3,h4,h5⟩:=h
 refine ⟨A,c,h1,h2,h3,Nat.le_trans hB h4,fun p hp=>?_⟩
 obtain ⟨g,cs,f,e1,e2,e3,e4⟩:=h5 p hp
 exact ⟨g,cs,f,e1,Nat.le_trans hB e2,e3,e4⟩
theorem LBuf.bytes (w:World) (l:Bt) (n c:Nat) (hn:n = l.length) (hc:n ≤ c):LBuf w.heap.size (Lib.bytesWorld w 5 (str l)) (.slice (some ⟨w.heap.size,0,none⟩) n c) l:=by
 subst hn
 have hz:=Lib.bytesWorld_size w 5 (str l)
 refine ⟨_,c,rfl,hc,(fun h=>by cases h),by omega,fun p hp=>?_⟩
 cases hp
 refine ⟨_,_,_,rfl,Nat.le_refl _,Lib.bytesWorld_at_new w 5 (str l),fun j u hu=>?_⟩
 unfold bv at hu
 rw [List.getElem?_map] at hu
 obtain ⟨x,hx,rfl⟩:=Option.map_eq_some_iff.1 hu
 obtain ⟨hj,hx⟩:=List.getElem?_eq_some_iff.1 hx
 unfold Lib.bytesCells
 have hj2:j < ((str l).data.map fun b=>Value.int .u8 b.toNat).size:=by rw [Array.size_map];exact hj
 rw [Array.getElem?_append_left hj2,Array.getElem?_map,show (str l).data[j]? = some x from by rw [← hx];exact (Array.getElem?_eq_getElem (xs:=(str l).data) hj).trans rfl]
 rfl
structure CmV where
 set:Value
 names:Value
 items:Value
 keys:Value
 lit:Value
abbrev cmC (x:Cm) (v:CmV):Array Value:=#[.string (str x.tag),.string (str x.word),.bool x.uid,v.set,.string (str x.box),.string (str x.dest),v.names,.int .i64 x.flags,.int .i64 x.mode,.bool x.silent,v.items,v.keys,.int .i64 x.date,v.lit]
structure CmRows (B:Nat) (w:World) (x:Cm) (v:CmV):Prop where
 set:Sq.RBuf B w v.set x.set
 names:SBuf B w v.names x.names
 items:vItems B x.items v.items w
 keys:vKeys B x.keys v.keys w
 lit:LBuf B w v.lit x.lit
theorem CmRows.stays {B:Nat} {w w':World} {x:Cm} {v:CmV} (h:CmRows B w x v) (hs:Stays B w w'):CmRows B w' x v:=⟨h.set.stays hs,h.names.stays hs,h.items.stays hs,h.keys.stays hs,h.lit.stays hs⟩
theorem CmRows.mono {B C:Nat} {w:World} {x:Cm} {v:CmV} (h:CmRows B w x v) (hB:C ≤ B):CmRows C w x v:=⟨h.set.mono hB,h.names.mono hB,h.items.mono hB,h.keys.mono hB,h.lit.mono hB⟩
def CmAt (w:World) (c:Nat) (x:Cm) (v:CmV):Prop:=w.heap[c]? = some (.cells (cmC x v) 30 (0,0))
theorem takes_cases {b:Nat} {w w':World} {t s:Bt} {e:Ending} (h:e = .returned (.bool (takes t s).1)∧RdI w' b (takes t s).2∧Only b w w') :
  (∃ q,takes t s = (false,q)∧e = .returned (.bool false)∧RdI w' b q∧Only b w w')∨∃ q,takes t s = (true,q)∧e = .returned (.bool true)∧RdI w' b q∧Only b w w':=by
 obtain ⟨k,q,hk⟩:∃ k q,takes t s = (k,q):=⟨_,_,rfl⟩
 rw [hk] at h ⊢
 cases k
 · exact .inl ⟨q,rfl,h⟩
 · exact .inr ⟨q,rfl,h⟩
theorem bool_split {k:Bool} {e:Ending} (h:e = .returned (.bool k)):(k = false∧e = .returned (.bool false))∨(k = true∧e = .returned (.bool true)):=by
 cases k
 · exact .inl ⟨rfl,h⟩
 · exact .inr ⟨rfl,h⟩
def rdLen (b:Nat) (w:World):Nat:=match w.cell? ⟨b,0,none⟩ with
 | some (.string t)=>t.size
 | _=>0
theorem rdLen_of {b:Nat} {w:World} {s:Bt} (h:RdI w b s):rdLen b w = s.length:=by
 unfold rdLen
 rw [h.c]
 exact str_size s
end Go.Proofs.YtfdmdmahddjjmaaGreatDoor
namespace Go.Proofs.YtfdmdmahddjjmaaGreatDoor.Im
open Go.Proofs.YtfdmdmahddjjmaaGreatDoor
theorem sign_le {t s q:Bt} (h:sign t s = some q):q.length + t.length = s.length:=by
 unfold sign at h
 split at h
 · rename_i hp
   cases h
   have h2:t.length ≤ s.length:=by
    unfold Lib.hasPrefix at hp
    exact (List.isPrefixOf_iff_prefix.1 hp).length_le
   rw [List.length_drop]
   omega
 · cases h
theorem takes_lt {t s q:Bt} (h:takes t s = (true,q)):q.length + t.length = s.length:=by
 have h1:sign t s = some q:=by
  unfold takes at h
  unfold sign
  split at h
  · rename_i hp
    cases h
    rw [if_pos hp]
  · cases h
 exact sign_le h1
theorem takes_no {t s q:Bt} (h:takes t s = (false,q)):q = s:=by
 unfold takes at h
 split at h
 · cases h
 · cases h;rfl
theorem takes_le (t s:Bt):(takes t s).2.length ≤ s.length:=by
 unfold takes
 split <;> simp
theorem drop_le (p:UInt8→Bool) (s:Bt):(s.dropWhile p).length ≤ s.length:=(List.dropWhile_suffix p).length_le
theorem word_le (s:Bt):(word s).2.length ≤ s.length:=drop_le _ s
theorem number_le {lo hi:Int} {s t:Bt} {n:Int} (h:number lo hi s = some (n,t)):t.length ≤ s.length:=by
 unfold number at h
 split at h
 · cases h;exact drop_le _ s
 · cases h
theorem set_le {s t:Bt} {l:List Rg} (h:set s = some (l,t)):t.length ≤ s.length:=by
 unfold set at h
 split at h
 · cases h;exact drop_le _ s
 · cases h
theorem literal_le {s t x:Bt} (h:literal s = some (x,t)):t.length ≤ s.length:=by
 unfold literal at h
 obtain ⟨s1,h1,h⟩:=Option.bind_eq_some_iff.1 h
 obtain ⟨⟨n,s2⟩,h2,h⟩:=Option.bind_eq_some_iff.1 h
 obtain ⟨s3,h3,h⟩:=Option.bind_eq_some_iff.1 h
 have:=sign_le h1
 have:=number_le h2
 have:=sign_le h3
 split at h
 · cases h
   simp at *
   omega
 · cases h
theorem quoteL_le (n:Nat):∀ (s t x:Bt),s.length ≤ n→quoteL s = some (x,t)→t.length ≤ s.length:=by
 induction n with
 | zero =>
  intro s t x hn h
  have:s = []:=List.eq_nil_of_length_eq_zero (by omega)
  subst this
  rw [quoteL.eq_def] at h
  cases h
 | succ n ih =>
  intro s t x hn h
  cases s with
  | nil=>rw [quoteL.eq_def] at h;cases h
  | cons c s =>
   rw [quoteL.eq_def] at h
   dsimp only at h
   simp only [List.length_cons] at hn
   split at h
   · cases h;simp
   split at h
   · cases s with
     | nil=>cases h
     | cons d s =>
      dsimp only at h
      simp only [List.length_cons] at hn
      split at h
      · obtain ⟨⟨a,b⟩,h1,h2⟩:=Option.map_eq_some_iff.1 h
        cases h2
        have:=ih s _ a (by omega) h1
        simp
        omega
      · cases h
   split at h
   · cases h
   · obtain ⟨⟨a,b⟩,h1,h2⟩:=Option.map_eq_some_iff.1 h
     cases h2
     have:=ih s _ a (by omega) h1
     simp
     omega
theorem quoted_le {s t x:Bt} (h:Im.quoted s = some (x,t)):t.length ≤ s.length:=by
 unfold Im.quoted at h
 obtain ⟨s1,h1,h⟩:=Option.bind_eq_some_iff.1 h
 have:=sign_le h1
 have:=quoteL_le s1.length s1 _ _ (Nat.le_refl _) h
 omega
theorem text_le {p:UInt8→Bool} {s t x:Bt} (h:Im.text p s = some (x,t)):t.length ≤ s.length:=by
 unfold Im.text at h
 split at h
 · exact quoted_le h
 split at h
 · exact literal_le h
 split at h
 · cases h
 · cases h;exact drop_le _ s
theorem then_le {s t x:Bt} (h:then_ s = some (x,t)):t.length ≤ s.length:=by
 unfold then_ at h
 obtain ⟨s1,h1,h⟩:=Option.bind_eq_some_iff.1 h
 have:=sign_le h1
 have:=text_le h
 omega
theorem flag_lt {s t:Bt} {i:Nat} (h:flag s = some (i,t)):t.length < s.length:=by
 unfold flag at h
 obtain ⟨s1,h1,h⟩:=Option.bind_eq_some_iff.1 h
 obtain ⟨k,h2,h3⟩:=Option.map_eq_some_iff.1 h
 cases h3
 have:=sign_le h1
 have:=word_le s1
 simp at *
 omega
theorem numsL_le (f:Nat):∀ (l:List Int) (s t:Bt) (r:List Int × Bool),numsL f l s = some (r,t)→t.length ≤ s.length:=by
 induction f with
 | zero=>intro l s t r h;cases h
 | succ f ih =>
  intro l s t r h
  rw [numsL.eq_def] at h
  dsimp only at h
  split at h
  · obtain ⟨⟨n,s1⟩,h1,h⟩:=Option.bind_eq_some_iff.1 h
    have k1:=number_le h1
    dsimp only at h
    split at h
    · split at h
      · have:=ih _ _ _ _ h
        have:=takes_le [46] s1
        omega
      · cases h;exact k1
    · cases h
  · cases h;exact Nat.le_refl _
theorem section_le {s t:Bt} {r:List Int × Int} (h:section_ s = some (r,t)):t.length ≤ s.length:=by
 unfold section_ at h
 split at h
 · cases h;exact Nat.le_refl _
 obtain ⟨⟨⟨l,k⟩,s1⟩,h1,h⟩:=Option.bind_eq_some_iff.1 h
 have k1:=numsL_le _ _ _ _ _ h1
 dsimp only at h
 split at h
 · cases h;exact k1
 · obtain ⟨k,h2,h3⟩:=Option.map_eq_some_iff.1 h
   cases h3
   exact Nat.le_trans (word_le s1) k1
theorem item_le {s t:Bt} {r:It} (h:item s = some (r,t)):t.length ≤ s.length:=by
 have k0:=word_le s
 unfold item at h
 split at h
 · cases h
 split at h
 · cases h;exact k0
 obtain ⟨s1,h1,h⟩:=Option.bind_eq_some_iff.1 h
 obtain ⟨⟨q,s2⟩,h2,h⟩:=Option.bind_eq_some_iff.1 h
 obtain ⟨s3,h3,h⟩:=Option.bind_eq_some_iff.1 h
 have k1:=sign_le h1
 have k2:=section_le h2
 have k3:=sign_le h3
 have k4:=takes_le [60] s3
 dsimp only at *
 split at h
 · obtain ⟨⟨a,s4⟩,h4,h⟩:=Option.bind_eq_some_iff.1 h
   obtain ⟨s5,h5,h⟩:=Option.bind_eq_some_iff.1 h
   obtain ⟨⟨c,s6⟩,h6,h⟩:=Option.bind_eq_some_iff.1 h
   obtain ⟨s7,h7,h⟩:=Option.map_eq_some_iff.1 h
   cases h
   have:=number_le h4
   have:=sign_le h5
   have:=number_le h6
   have:=sign_le h7
   dsimp only at *
   omega
 · cases h
   omega
theorem key_le (d:Nat):∀ {s t:Bt} {r:Ky},key d s = some (r,t)→t.length ≤ s.length:=by
 induction d with
 | zero =>
  intro s t r h
  have k0:=word_le s
  rw [key.eq_def] at h
  dsimp only at h
  split at h
  · obtain ⟨⟨q,s1⟩,h1,h2⟩:=Option.map_eq_some_iff.1 h
    cases h2
    exact set_le h1
  split at h
  · cases h;exact k0
  split at h
  · cases h;exact k0
  split at h
  · cases h
  split at h
  · obtain ⟨s1,h1,h⟩:=Option.bind_eq_some_iff.1 h
    obtain ⟨⟨q,s2⟩,h2,h3⟩:=Option.map_eq_some_iff.1 h
    cases h3
    have:=sign_le h1
    have:=set_le h2
    dsimp only at *
    omega
  split at h
  · obtain ⟨⟨q,s2⟩,h2,h3⟩:=Option.map_eq_some_iff.1 h
    cases h3
    have:=then_le h2
    dsimp only at *
    omega
  split at h
  · obtain ⟨s1,h1,h⟩:=Option.bind_eq_some_iff.1 h
    obtain ⟨⟨q,s2⟩,h2,h3⟩:=Option.map_eq_some_iff.1 h
    cases h3
    have:=sign_le h1
    have:=number_le h2
    dsimp only at *
    omega
  · cases h
 | succ d ih =>
  intro s t r h
  have k0:=word_le s
  rw [key.eq_def] at h
  dsimp only at h
  split at h
  · obtain ⟨⟨q,s1⟩,h1,h2⟩:=Option.map_eq_some_iff.1 h
    cases h2
    exact set_le h1
  split at h
  · cases h;exact k0
  split at h
  · cases h;exact k0
  split at h
  · obtain ⟨s1,h1,h⟩:=Option.bind_eq_some_iff.1 h
    obtain ⟨⟨q,s2⟩,h2,h3⟩:=Option.map_eq_some_iff.1 h
    cases h3
    have:=sign_le h1
    have:=ih h2
    dsimp only at *
    omega
  split at h
  · obtain ⟨s1,h1,h⟩:=Option.bind_eq_some_iff.1 h
    obtain ⟨⟨q,s2⟩,h2,h3⟩:=Option.map_eq_some_iff.1 h
    cases h3
    have:=sign_le h1
    have:=set_le h2
    dsimp only at *
    omega
  split at h
  · obtain ⟨⟨q,s2⟩,h2,h3⟩:=Option.map_eq_some_iff.1 h
    cases h3
    have:=then_le h2
    dsimp only at *
    omega
  split at h
  · obtain ⟨s1,h1,h⟩:=Option.bind_eq_some_iff.1 h
    obtain ⟨⟨q,s2⟩,h2,h3⟩:=Option.map_eq_some_iff.1 h
    cases h3
    have:=sign_le h1
    have:=number_le h2
    dsimp only at *
    omega
  · cases h
end Go.Proofs.YtfdmdmahddjjmaaGreatDoor.Im
namespace Go.Proofs.YtfdmdmahddjjmaaGreatDoor.Im
open Go.Proofs.YtfdmdmahddjjmaaGreatDoor
abbrev up (c:UInt8):UInt8:=moveB 97 65 c
theorem all_bytes {P:UInt8→Prop} (h:∀ n:Fin 256,P (UInt8.ofNat n.val)) (c:UInt8):P c:=by
 have:=h ⟨c.toNat,c.toNat_lt⟩
 simpa using this
def RR (s t:Bt):Prop:=great s = great t
theorem RR.refl (s:Bt):RR s s:=rfl
theorem RR.len {s t:Bt} (h:RR s t):s.length = t.length:=by
 have:=congrArg List.length h
 simpa [great] using this
theorem RR.nil_left {t:Bt} (h:RR [] t):t = []:=List.eq_nil_of_length_eq_zero h.len.symm
theorem RR.nil_right {t:Bt} (h:RR t []):t = []:=List.eq_nil_of_length_eq_zero h.len
theorem RR.cons_iff {c d:UInt8} {s t:Bt}:RR (c :: s) (d :: t) ↔ up c = up d∧RR s t:=by
 unfold RR great
 simp
theorem RR.cons {c:UInt8} {s t:Bt} (h:RR (c :: s) t):∃ d r,t = d :: r∧up c = up d∧RR s r:=by
 cases t with
 | nil=>exact absurd h.len (by simp)
 | cons d r=>exact ⟨d,r,rfl,RR.cons_iff.1 h⟩
theorem RR.append {a b s t:Bt} (h:RR a b) (k:RR s t):RR (a ++ s) (b ++ t):=by
 unfold RR great at *
 simp [h,k]
theorem RR.drop {s t:Bt} (n:Nat) (h:RR s t):RR (s.drop n) (t.drop n):=by
 unfold RR great at *
 rw [List.map_drop,List.map_drop,h]
theorem RR.take {s t:Bt} (n:Nat) (h:RR s t):RR (s.take n) (t.take n):=by
 unfold RR great at *
 rw [List.map_take,List.map_take,h]
instance (k:UInt8):Decidable (∀ n:Fin 256,up (UInt8.ofNat n.val) = up k→UInt8.ofNat n.val = k):=inferInstance
def Inv (p:UInt8→Bool):Prop:=∀ c d,up c = up d→p c = p d
theorem inv_of {p:UInt8→Bool} (h:∀ n:Fin 256,p (up (UInt8.ofNat n.val)) = p (UInt8.ofNat n.val)):Inv p:=by
 have h2:=all_bytes (P:=fun c=>p (up c) = p c) h
 intro c d e
 rw [← h2 c,← h2 d,e]
theorem inv_let:Inv letB:=inv_of (by decide +kernel)
theorem while_rel {p:UInt8→Bool} (hp:Inv p):∀ {s t:Bt},RR s t→RR (s.takeWhile p) (t.takeWhile p)∧RR (s.dropWhile p) (t.dropWhile p)
 | [],t,h=>by rw [h.nil_left];exact ⟨rfl,rfl⟩
 | c :: s,t,h=>by
   obtain ⟨d,r,rfl,hc,hr⟩:=h.cons
   have ih:=while_rel hp hr
   rw [List.takeWhile_cons,List.takeWhile_cons,List.dropWhile_cons,List.dropWhile_cons,← hp c d hc]
   cases p c with
   | true=>exact ⟨RR.cons_iff.2 ⟨hc,ih.1⟩,by simpa using ih.2⟩
   | false=>exact ⟨rfl,by simpa using h⟩
def OR {α β:Type} (P:α→β→Prop):Option α→Option β→Prop
 | none,none=>True
 | some a,some b=>P a b
 | _,_=>False
theorem OR.bind {α β γ δ:Type} {P:α→β→Prop} {Q:γ→δ→Prop} {x:Option α} {y:Option β} {f:α→Option γ} {g:β→Option δ} (h:OR P x y) (k:∀ a b,P a b→OR Q (f a) (g b)):OR Q (x.bind f) (y.bind g):=by
 cases x <;> cases y
 · trivial
 · exact h.elim
 · exact h.elim
 · exact k _ _ h
theorem OR.map {α β γ δ:Type} {P:α→β→Prop} {Q:γ→δ→Prop} {x:Option α} {y:Option β} {f:α→γ} {g:β→δ} (h:OR P x y) (k:∀ a b,P a b→Q (f a) (g b)):OR Q (x.map f) (y.map g):=by
 cases x <;> cases y
 · trivial
 · exact h.elim
 · exact h.elim
 · exact k _ _ h
theorem OR.some {α β:Type} {P:α→β→Prop} {a:α} {b:β} (h:P a b):OR P (some a) (some b):=h
theorem OR.none {α β:Type} {P:α→β→Prop}:OR P (none:Option α) (none:Option β):=True.intro
def KR (a b:Ky):Prop:=a.kind = b.kind∧a.not = b.not∧a.n = b.n∧a.set = b.set∧RR a.text b.text
theorem KR.refl (a:Ky):KR a a:=⟨rfl,rfl,rfl,rfl,rfl⟩
def LR {α:Type} (P:α→α→Prop):List α→List α→Prop
 | [],[]=>True
 | a :: l,b :: m=>P a b∧LR P l m
 | _,_=>False
theorem LR.len {α:Type} {P:α→α→Prop}:∀ {l m:List α},LR P l m→l.length = m.length
 | [],[],_=>rfl
 | a :: l,b :: m,h=>by simp [LR.len h.2]
 | [],b :: m,h=>h.elim
 | a :: l,[],h=>h.elim
theorem LR.at {α:Type} {P:α→α→Prop}:∀ {l m:List α} (h:LR P l m) (i:Nat) (a b:α),l[i]? = some a→m[i]? = some b→P a b
 | [],[],_,i,a,b,h1,_=>by simp at h1
 | x :: l,y :: m,h,0,a,b,h1,h2=>by simp at h1 h2;subst h1 h2;exact h.1
 | x :: l,y :: m,h,i + 1,a,b,h1,h2=>LR.at h.2 i a b (by simpa using h1) (by simpa using h2)
 | [],b :: m,h,_,_,_,_,_=>h.elim
 | a :: l,[],h,_,_,_,_,_=>h.elim
theorem LR.snoc {α:Type} {P:α→α→Prop} {x y:α} (k:P x y):∀ {l m:List α},LR P l m→LR P (l ++ [x]) (m ++ [y])
 | [],[],_=>⟨k,trivial⟩
 | a :: l,b :: m,h=>⟨h.1,LR.snoc k h.2⟩
 | [],b :: m,h=>h.elim
 | a :: l,[],h=>h.elim
end Go.Proofs.YtfdmdmahddjjmaaGreatDoor.Im
