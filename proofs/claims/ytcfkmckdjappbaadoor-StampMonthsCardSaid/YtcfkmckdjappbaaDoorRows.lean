/-
  NARROWER THAN 'FOR EVERY INPUT', by the rows' own cells (each row's printed sentence says how): StampTells: laid · StampOrder: laid · StampZones: laid · StampReads: laid · StampBack: laid · StampMonths: laid.
  DERIVED. THE GIVEN ROWS OF THIS SEAT. 6 by the template 'for every input the law returns true; each argument reads behind the call as it read before'; 0 by the template 'total and deterministic' (their statements: YtcfkmckdjappbaaDoorTotals.lean).
  GIVEN WITH THE SEED: the statements are not yours to turn. If you find one false, say at which input.
  Laid BY PROGRAM, IN A SANDBOX (cutbox-rows.mjs): the forced cells as the released guide's own fill.sh prints them over the translation b642df5068b72847… (all of the seat's roots in one cut). By AI agents, Wed Nov 11 2026. No macro, syntax, notation, axiom, sorry.
-/
import Derived.Test.YtcfkmckdjappbaaDoorChecked
import GoSem.Claim
import GoSem.ClaimJoined
import GoSem.ClaimMapViews
import Derived.JoinedTies
import Derived.KernelRfl
namespace Go.Proofs.YtcfkmckdjappbaaDoor
/- THE CELL 'sum', in the pinned program and in every row, IS THE sha256 OF THE DUMP (.gsa) THAT YtcfkmckdjappbaaDoorProg.lean LOADS. Nothing in Lean hashes anything: it is a label: what it is worth is what the hold of that sum in a sandbox is worth. -/
noncomputable def Tryd.pinned : Pinned := { name := "ytcfkmckdjappbaadoor", sum := "b642df5068b72847a7c5237420c5ed51eec55a491e4e8945b5fdb666fe3d6b59", checked := Tryd.checked }
namespace Rows
def none {H : Type} : Left H := { results := [], args := [] }

/- WHAT THE LISTED PACKAGE-LEVEL VARIABLES READ AS WHEN THE CALL BEGINS. Each datum BY PROGRAM (the guide's laid-datum.mjs) off the statement by which the dump's own 'gosem.cut.vars' lays the variable. In a bare row this is a premise. The card (YtcfkmckdjappbaaDoorCards.lean) ties it to the program's text. -/
def laid_estafette_stamp_lengths {H : Type} : DataW H := .agg [.lit (.int .i64 31), .lit (.int .i64 28), .lit (.int .i64 31), .lit (.int .i64 30), .lit (.int .i64 31), .lit (.int .i64 30), .lit (.int .i64 31), .lit (.int .i64 31), .lit (.int .i64 30), .lit (.int .i64 31), .lit (.int .i64 30), .lit (.int .i64 31)]

/-- 'estafettelaw08.StampTells': WHATEVER THE INPUT: true; the input reads as it did. -/
def stampTellsSpec : ChangeSpec := { name := "stampTells", fn := fun _ => fun
  | [d] => { results := [.lit (.bool true)], args := [d] }
  | _ => none }
def stampTellsRow : OpenClaim := { program := "ytcfkmckdjappbaadoor", sum := "b642df5068b72847a7c5237420c5ed51eec55a491e4e8945b5fdb666fe3d6b59", func := "estafette/estafettelaw08.StampTells", spec := "stampTells", inPlace := ["internal/bytealg.IndexByteString", "internal/bytealg.IndexString"], unfollowed := true, recurses := true, named := ["estafette/stamp.lengths", "internal/bytealg.MaxLen"], apart := false, laid := [("estafette/stamp.lengths", laid_estafette_stamp_lengths)] }
def StampTellsSaid : Prop := stampTellsRow.holds Tryd.pinned (OpenSpec.ofChange stampTellsSpec)

/-- ITS FALSE NEIGHBOUR: 'it returns false'. Refute it at one input. -/
def stampTellsWrong : ChangeSpec := { name := "stampTells", fn := fun _ => fun
  | [d] => { results := [.lit (.bool false)], args := [d] }
  | _ => none }
def StampTellsWrongFalsely : Prop := stampTellsRow.holds Tryd.pinned (OpenSpec.ofChange stampTellsWrong)

/-- 'estafettelaw08.StampOrder': WHATEVER THE INPUT: true; the input reads as it did. -/
def stampOrderSpec : ChangeSpec := { name := "stampOrder", fn := fun _ => fun
  | [d1, d2] => { results := [.lit (.bool true)], args := [d1, d2] }
  | _ => none }
def stampOrderRow : OpenClaim := { program := "ytcfkmckdjappbaadoor", sum := "b642df5068b72847a7c5237420c5ed51eec55a491e4e8945b5fdb666fe3d6b59", func := "estafette/estafettelaw08.StampOrder", spec := "stampOrder", inPlace := ["internal/bytealg.IndexByteString", "internal/bytealg.IndexString"], unfollowed := true, recurses := true, named := ["estafette/stamp.lengths", "internal/bytealg.MaxLen"], apart := false, laid := [("estafette/stamp.lengths", laid_estafette_stamp_lengths)] }
def StampOrderSaid : Prop := stampOrderRow.holds Tryd.pinned (OpenSpec.ofChange stampOrderSpec)

/-- ITS FALSE NEIGHBOUR: 'it returns false'. Refute it at one input. -/
def stampOrderWrong : ChangeSpec := { name := "stampOrder", fn := fun _ => fun
  | [d1, d2] => { results := [.lit (.bool false)], args := [d1, d2] }
  | _ => none }
def StampOrderWrongFalsely : Prop := stampOrderRow.holds Tryd.pinned (OpenSpec.ofChange stampOrderWrong)

/-- 'estafettelaw08.StampZones': WHATEVER THE INPUT: true; the input reads as it did. -/
def stampZonesSpec : ChangeSpec := { name := "stampZones", fn := fun _ => fun
  | [d1, d2, d3] => { results := [.lit (.bool true)], args := [d1, d2, d3] }
  | _ => none }
def stampZonesRow : OpenClaim := { program := "ytcfkmckdjappbaadoor", sum := "b642df5068b72847a7c5237420c5ed51eec55a491e4e8945b5fdb666fe3d6b59", func := "estafette/estafettelaw08.StampZones", spec := "stampZones", inPlace := ["internal/bytealg.IndexByteString", "internal/bytealg.IndexString"], unfollowed := true, recurses := true, named := ["estafette/stamp.lengths", "internal/bytealg.MaxLen"], apart := false, laid := [("estafette/stamp.lengths", laid_estafette_stamp_lengths)] }
def StampZonesSaid : Prop := stampZonesRow.holds Tryd.pinned (OpenSpec.ofChange stampZonesSpec)

/-- ITS FALSE NEIGHBOUR: 'it returns false'. Refute it at one input. -/
def stampZonesWrong : ChangeSpec := { name := "stampZones", fn := fun _ => fun
  | [d1, d2, d3] => { results := [.lit (.bool false)], args := [d1, d2, d3] }
  | _ => none }
def StampZonesWrongFalsely : Prop := stampZonesRow.holds Tryd.pinned (OpenSpec.ofChange stampZonesWrong)

/-- 'estafettelaw08.StampReads': WHATEVER THE INPUT: true; the input reads as it did. -/
def stampReadsSpec : ChangeSpec := { name := "stampReads", fn := fun _ => fun
  | [d1, d2] => { results := [.lit (.bool true)], args := [d1, d2] }
  | _ => none }
def stampReadsRow : OpenClaim := { program := "ytcfkmckdjappbaadoor", sum := "b642df5068b72847a7c5237420c5ed51eec55a491e4e8945b5fdb666fe3d6b59", func := "estafette/estafettelaw08.StampReads", spec := "stampReads", inPlace := ["internal/bytealg.IndexByteString", "internal/bytealg.IndexString"], unfollowed := true, recurses := true, named := ["estafette/stamp.lengths", "internal/bytealg.MaxLen"], apart := false, laid := [("estafette/stamp.lengths", laid_estafette_stamp_lengths)] }
def StampReadsSaid : Prop := stampReadsRow.holds Tryd.pinned (OpenSpec.ofChange stampReadsSpec)

/-- ITS FALSE NEIGHBOUR: 'it returns false'. Refute it at one input. -/
def stampReadsWrong : ChangeSpec := { name := "stampReads", fn := fun _ => fun
  | [d1, d2] => { results := [.lit (.bool false)], args := [d1, d2] }
  | _ => none }
def StampReadsWrongFalsely : Prop := stampReadsRow.holds Tryd.pinned (OpenSpec.ofChange stampReadsWrong)

/-- 'estafettelaw08.StampBack': WHATEVER THE INPUT: true; the input reads as it did. -/
def stampBackSpec : ChangeSpec := { name := "stampBack", fn := fun _ => fun
  | [d] => { results := [.lit (.bool true)], args := [d] }
  | _ => none }
def stampBackRow : OpenClaim := { program := "ytcfkmckdjappbaadoor", sum := "b642df5068b72847a7c5237420c5ed51eec55a491e4e8945b5fdb666fe3d6b59", func := "estafette/estafettelaw08.StampBack", spec := "stampBack", inPlace := ["internal/bytealg.IndexByteString", "internal/bytealg.IndexString"], unfollowed := true, recurses := true, named := ["estafette/stamp.lengths", "internal/bytealg.MaxLen"], apart := false, laid := [("estafette/stamp.lengths", laid_estafette_stamp_lengths)] }
def StampBackSaid : Prop := stampBackRow.holds Tryd.pinned (OpenSpec.ofChange stampBackSpec)

/-- ITS FALSE NEIGHBOUR: 'it returns false'. Refute it at one input. -/
def stampBackWrong : ChangeSpec := { name := "stampBack", fn := fun _ => fun
  | [d] => { results := [.lit (.bool false)], args := [d] }
  | _ => none }
def StampBackWrongFalsely : Prop := stampBackRow.holds Tryd.pinned (OpenSpec.ofChange stampBackWrong)

/-- 'estafettelaw08.StampMonths': WHATEVER THE INPUT: true; the input reads as it did. -/
def stampMonthsSpec : ChangeSpec := { name := "stampMonths", fn := fun _ => fun
  | [d1, d2] => { results := [.lit (.bool true)], args := [d1, d2] }
  | _ => none }
def stampMonthsRow : OpenClaim := { program := "ytcfkmckdjappbaadoor", sum := "b642df5068b72847a7c5237420c5ed51eec55a491e4e8945b5fdb666fe3d6b59", func := "estafette/estafettelaw08.StampMonths", spec := "stampMonths", inPlace := ["internal/bytealg.IndexByteString", "internal/bytealg.IndexString"], unfollowed := true, recurses := true, named := ["estafette/stamp.lengths", "internal/bytealg.MaxLen"], apart := false, laid := [("estafette/stamp.lengths", laid_estafette_stamp_lengths)] }
def StampMonthsSaid : Prop := stampMonthsRow.holds Tryd.pinned (OpenSpec.ofChange stampMonthsSpec)

/-- ITS FALSE NEIGHBOUR: 'it returns false'. Refute it at one input. -/
def stampMonthsWrong : ChangeSpec := { name := "stampMonths", fn := fun _ => fun
  | [d1, d2] => { results := [.lit (.bool false)], args := [d1, d2] }
  | _ => none }
def StampMonthsWrongFalsely : Prop := stampMonthsRow.holds Tryd.pinned (OpenSpec.ofChange stampMonthsWrong)

/- THE SECOND FORM. 'bulk': how many values and letters a reading holds, each counted each time it is reached (what is shared counts as often as it is met; a slice's spare places count too). A statement '..UptoSaid' is the law's where the arguments, and the package variables that the reading takes, are together of bulk at most 1048576: NARROWER than '..Said'. Prove '..Said' where nothing that the law and all that it calls make is longer than what came in: it says more and counts as full. Else prove '..UptoSaid'. A law counts once. -/
mutual
def uptoBulk {H : Type} : DataW H → Nat
  | .lit (.string bytes) => bytes.length + 1
  | .lit _ => 1
  | .nil => 1
  | .ptr d => uptoBulk d + 1
  | .slice elems spare => uptoBulkAll elems + uptoBulkAll spare + 1
  | .agg parts => uptoBulkAll parts + 1
  | .iface _ d => uptoBulk d + 1
  | .map entries => uptoBulkEntries entries + 1
  | .held _ => 1
def uptoBulkAll {H : Type} : List (DataW H) → Nat
  | [] => 0
  | d :: r => uptoBulk d + uptoBulkAll r
def uptoBulkEntries {H : Type} : List (Lit × DataW H) → Nat
  | [] => 0
  | x :: r => uptoBulkEntry x + uptoBulkEntries r
def uptoBulkEntry {H : Type} : Lit × DataW H → Nat
  | (.string bytes, d) => bytes.length + uptoBulk d + 1
  | (_, d) => uptoBulk d + 1
 end
def uptoSmall : (H : Type) → List (DataW H) → Bool := fun _ ds => decide (uptoBulkAll ds ≤ 1048576)
def OpenSpec.upto (s : _root_.Go.ChangeSpec) : _root_.Go.OpenSpec := { _root_.Go.OpenSpec.ofChange s with cond := some uptoSmall }

/-- 'estafettelaw08.StampTells', WHERE WHAT IT READS IS OF BULK AT MOST 1048576: true; the input reads as it did. -/
def stampTellsUptoRow : OpenClaim := { program := "ytcfkmckdjappbaadoor", sum := "b642df5068b72847a7c5237420c5ed51eec55a491e4e8945b5fdb666fe3d6b59", func := "estafette/estafettelaw08.StampTells", spec := "stampTells", inPlace := ["internal/bytealg.IndexByteString", "internal/bytealg.IndexString"], unfollowed := true, recurses := true, named := ["estafette/stamp.lengths", "internal/bytealg.MaxLen"], apart := false, laid := [("estafette/stamp.lengths", laid_estafette_stamp_lengths)], narrowed := true }
def StampTellsUptoSaid : Prop := stampTellsUptoRow.holds Tryd.pinned (OpenSpec.upto stampTellsSpec)

/-- 'estafettelaw08.StampOrder', WHERE WHAT IT READS IS OF BULK AT MOST 1048576: true; the input reads as it did. -/
def stampOrderUptoRow : OpenClaim := { program := "ytcfkmckdjappbaadoor", sum := "b642df5068b72847a7c5237420c5ed51eec55a491e4e8945b5fdb666fe3d6b59", func := "estafette/estafettelaw08.StampOrder", spec := "stampOrder", inPlace := ["internal/bytealg.IndexByteString", "internal/bytealg.IndexString"], unfollowed := true, recurses := true, named := ["estafette/stamp.lengths", "internal/bytealg.MaxLen"], apart := false, laid := [("estafette/stamp.lengths", laid_estafette_stamp_lengths)], narrowed := true }
def StampOrderUptoSaid : Prop := stampOrderUptoRow.holds Tryd.pinned (OpenSpec.upto stampOrderSpec)

/-- 'estafettelaw08.StampZones', WHERE WHAT IT READS IS OF BULK AT MOST 1048576: true; the input reads as it did. -/
def stampZonesUptoRow : OpenClaim := { program := "ytcfkmckdjappbaadoor", sum := "b642df5068b72847a7c5237420c5ed51eec55a491e4e8945b5fdb666fe3d6b59", func := "estafette/estafettelaw08.StampZones", spec := "stampZones", inPlace := ["internal/bytealg.IndexByteString", "internal/bytealg.IndexString"], unfollowed := true, recurses := true, named := ["estafette/stamp.lengths", "internal/bytealg.MaxLen"], apart := false, laid := [("estafette/stamp.lengths", laid_estafette_stamp_lengths)], narrowed := true }
def StampZonesUptoSaid : Prop := stampZonesUptoRow.holds Tryd.pinned (OpenSpec.upto stampZonesSpec)

/-- 'estafettelaw08.StampReads', WHERE WHAT IT READS IS OF BULK AT MOST 1048576: true; the input reads as it did. -/
def stampReadsUptoRow : OpenClaim := { program := "ytcfkmckdjappbaadoor", sum := "b642df5068b72847a7c5237420c5ed51eec55a491e4e8945b5fdb666fe3d6b59", func := "estafette/estafettelaw08.StampReads", spec := "stampReads", inPlace := ["internal/bytealg.IndexByteString", "internal/bytealg.IndexString"], unfollowed := true, recurses := true, named := ["estafette/stamp.lengths", "internal/bytealg.MaxLen"], apart := false, laid := [("estafette/stamp.lengths", laid_estafette_stamp_lengths)], narrowed := true }
def StampReadsUptoSaid : Prop := stampReadsUptoRow.holds Tryd.pinned (OpenSpec.upto stampReadsSpec)

/-- 'estafettelaw08.StampBack', WHERE WHAT IT READS IS OF BULK AT MOST 1048576: true; the input reads as it did. -/
def stampBackUptoRow : OpenClaim := { program := "ytcfkmckdjappbaadoor", sum := "b642df5068b72847a7c5237420c5ed51eec55a491e4e8945b5fdb666fe3d6b59", func := "estafette/estafettelaw08.StampBack", spec := "stampBack", inPlace := ["internal/bytealg.IndexByteString", "internal/bytealg.IndexString"], unfollowed := true, recurses := true, named := ["estafette/stamp.lengths", "internal/bytealg.MaxLen"], apart := false, laid := [("estafette/stamp.lengths", laid_estafette_stamp_lengths)], narrowed := true }
def StampBackUptoSaid : Prop := stampBackUptoRow.holds Tryd.pinned (OpenSpec.upto stampBackSpec)

/-- 'estafettelaw08.StampMonths', WHERE WHAT IT READS IS OF BULK AT MOST 1048576: true; the input reads as it did. -/
def stampMonthsUptoRow : OpenClaim := { program := "ytcfkmckdjappbaadoor", sum := "b642df5068b72847a7c5237420c5ed51eec55a491e4e8945b5fdb666fe3d6b59", func := "estafette/estafettelaw08.StampMonths", spec := "stampMonths", inPlace := ["internal/bytealg.IndexByteString", "internal/bytealg.IndexString"], unfollowed := true, recurses := true, named := ["estafette/stamp.lengths", "internal/bytealg.MaxLen"], apart := false, laid := [("estafette/stamp.lengths", laid_estafette_stamp_lengths)], narrowed := true }
def StampMonthsUptoSaid : Prop := stampMonthsUptoRow.holds Tryd.pinned (OpenSpec.upto stampMonthsSpec)

end Rows
end Go.Proofs.YtcfkmckdjappbaaDoor
