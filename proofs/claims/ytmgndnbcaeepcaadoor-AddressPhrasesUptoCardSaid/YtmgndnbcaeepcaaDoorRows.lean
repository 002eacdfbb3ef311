/-
  NARROWER THAN 'FOR EVERY INPUT', by the rows' own cells (each row's printed sentence says how): AddressPhrases: laid · AddressReads: laid · AddressBack: laid · AddressSame: laid.
  DERIVED. THE GIVEN ROWS OF THIS SEAT. 4 by the template 'for every input the law returns true; each argument reads behind the call as it read before'; 0 by the template 'total and deterministic' (their statements: YtmgndnbcaeepcaaDoorTotals.lean).
  GIVEN WITH THE SEED: the statements are not yours to turn. If you find one false, say at which input.
  Laid BY PROGRAM, IN A SANDBOX (cutbox-rows.mjs): the forced cells as the released guide's own fill.sh prints them over the translation c0ec2db7f4ad8901… (all of the seat's roots in one cut). By AI agents, Wed Nov 11 2026. No macro, syntax, notation, axiom, sorry.
-/
import Derived.Test.YtmgndnbcaeepcaaDoorChecked
import GoSem.PinnedTables
import GoSem.Claim
import GoSem.ClaimJoined
import GoSem.ClaimMapViews
import Derived.JoinedTies
import Derived.KernelRfl
namespace Go.Proofs.YtmgndnbcaeepcaaDoor
/- THE CELL 'sum', in the pinned program and in every row, IS THE sha256 OF THE DUMP (.gsa) THAT YtmgndnbcaeepcaaDoorProg.lean LOADS. Nothing in Lean hashes anything: it is a label: what it is worth is what the hold of that sum in a sandbox is worth. -/
noncomputable def Tryd.pinned : Pinned := { name := "ytmgndnbcaeepcaadoor", sum := "c0ec2db7f4ad89010ba19f65f6c29a372d965d7fda1ee14b9429659bef62404c", checked := Tryd.checked }
namespace Rows
def none {H : Type} : Left H := { results := [], args := [] }

/- WHAT THE LISTED PACKAGE-LEVEL VARIABLES READ AS WHEN THE CALL BEGINS. Each datum BY PROGRAM (the guide's laid-datum.mjs) off the statement by which the dump's own 'gosem.cut.vars' lays the variable. In a bare row this is a premise. The card (YtmgndnbcaeepcaaDoorCards.lean) ties it to the program's text. -/
def laid_unicode_utf8_acceptRanges {H : Type} : DataW H := .agg [.agg [.lit (.int .u8 128), .lit (.int .u8 191)], .agg [.lit (.int .u8 160), .lit (.int .u8 191)], .agg [.lit (.int .u8 128), .lit (.int .u8 159)], .agg [.lit (.int .u8 144), .lit (.int .u8 191)], .agg [.lit (.int .u8 128), .lit (.int .u8 143)], .agg [.lit (.int .u8 0), .lit (.int .u8 0)], .agg [.lit (.int .u8 0), .lit (.int .u8 0)], .agg [.lit (.int .u8 0), .lit (.int .u8 0)], .agg [.lit (.int .u8 0), .lit (.int .u8 0)], .agg [.lit (.int .u8 0), .lit (.int .u8 0)], .agg [.lit (.int .u8 0), .lit (.int .u8 0)], .agg [.lit (.int .u8 0), .lit (.int .u8 0)], .agg [.lit (.int .u8 0), .lit (.int .u8 0)], .agg [.lit (.int .u8 0), .lit (.int .u8 0)], .agg [.lit (.int .u8 0), .lit (.int .u8 0)], .agg [.lit (.int .u8 0), .lit (.int .u8 0)]]
/-- One of Go's own tables, pinned by name: the form's constant. -/
def laid_unicode_utf8_first : DataW Unit := Go.Pinned.utf8First

/-- 'estafettelaw09.AddressPhrases': WHATEVER THE INPUT: true; the input reads as it did. -/
def addressPhrasesSpec : ChangeSpec := { name := "addressPhrases", fn := fun _ => fun
  | [d1, d2] => { results := [.lit (.bool true)], args := [d1, d2] }
  | _ => none }
def addressPhrasesRow : OpenClaim := { program := "ytmgndnbcaeepcaadoor", sum := "c0ec2db7f4ad89010ba19f65f6c29a372d965d7fda1ee14b9429659bef62404c", func := "estafette/estafettelaw09.AddressPhrases", spec := "addressPhrases", inPlace := ["internal/bytealg.IndexByteString", "internal/bytealg.IndexString", "internal/bytealg.CountString", "internal/abi.NoEscape", "internal/bytealg.MakeNoZero"], unfollowed := true, recurses := true, named := ["internal/bytealg.MaxLen", "unicode/utf8.first", "unicode/utf8.acceptRanges"], apart := false, laid := [("unicode/utf8.acceptRanges", laid_unicode_utf8_acceptRanges), ("unicode/utf8.first", laid_unicode_utf8_first)] }
def AddressPhrasesSaid : Prop := addressPhrasesRow.holds Tryd.pinned (OpenSpec.ofChange addressPhrasesSpec)

/-- ITS FALSE NEIGHBOUR: 'it returns false'. Refute it at one input. -/
def addressPhrasesWrong : ChangeSpec := { name := "addressPhrases", fn := fun _ => fun
  | [d1, d2] => { results := [.lit (.bool false)], args := [d1, d2] }
  | _ => none }
def AddressPhrasesWrongFalsely : Prop := addressPhrasesRow.holds Tryd.pinned (OpenSpec.ofChange addressPhrasesWrong)

/-- 'estafettelaw09.AddressReads': WHATEVER THE INPUT: true; the input reads as it did. -/
def addressReadsSpec : ChangeSpec := { name := "addressReads", fn := fun _ => fun
  | [d1, d2] => { results := [.lit (.bool true)], args := [d1, d2] }
  | _ => none }
def addressReadsRow : OpenClaim := { program := "ytmgndnbcaeepcaadoor", sum := "c0ec2db7f4ad89010ba19f65f6c29a372d965d7fda1ee14b9429659bef62404c", func := "estafette/estafettelaw09.AddressReads", spec := "addressReads", inPlace := ["internal/bytealg.IndexByteString", "internal/bytealg.IndexString", "internal/bytealg.CountString", "internal/abi.NoEscape", "internal/bytealg.MakeNoZero"], unfollowed := true, recurses := true, named := ["internal/bytealg.MaxLen", "unicode/utf8.first", "unicode/utf8.acceptRanges"], apart := false, laid := [("unicode/utf8.acceptRanges", laid_unicode_utf8_acceptRanges), ("unicode/utf8.first", laid_unicode_utf8_first)] }
def AddressReadsSaid : Prop := addressReadsRow.holds Tryd.pinned (OpenSpec.ofChange addressReadsSpec)

/-- ITS FALSE NEIGHBOUR: 'it returns false'. Refute it at one input. -/
def addressReadsWrong : ChangeSpec := { name := "addressReads", fn := fun _ => fun
  | [d1, d2] => { results := [.lit (.bool false)], args := [d1, d2] }
  | _ => none }
def AddressReadsWrongFalsely : Prop := addressReadsRow.holds Tryd.pinned (OpenSpec.ofChange addressReadsWrong)

/-- 'estafettelaw09.AddressBack': WHATEVER THE INPUT: true; the input reads as it did. -/
def addressBackSpec : ChangeSpec := { name := "addressBack", fn := fun _ => fun
  | [d1, d2] => { results := [.lit (.bool true)], args := [d1, d2] }
  | _ => none }
def addressBackRow : OpenClaim := { program := "ytmgndnbcaeepcaadoor", sum := "c0ec2db7f4ad89010ba19f65f6c29a372d965d7fda1ee14b9429659bef62404c", func := "estafette/estafettelaw09.AddressBack", spec := "addressBack", inPlace := ["internal/bytealg.IndexByteString", "internal/bytealg.IndexString", "internal/bytealg.CountString", "internal/abi.NoEscape", "internal/bytealg.MakeNoZero"], unfollowed := true, recurses := true, named := ["internal/bytealg.MaxLen", "unicode/utf8.first", "unicode/utf8.acceptRanges"], apart := false, laid := [("unicode/utf8.acceptRanges", laid_unicode_utf8_acceptRanges), ("unicode/utf8.first", laid_unicode_utf8_first)] }
def AddressBackSaid : Prop := addressBackRow.holds Tryd.pinned (OpenSpec.ofChange addressBackSpec)

/-- ITS FALSE NEIGHBOUR: 'it returns false'. Refute it at one input. -/
def addressBackWrong : ChangeSpec := { name := "addressBack", fn := fun _ => fun
  | [d1, d2] => { results := [.lit (.bool false)], args := [d1, d2] }
  | _ => none }
def AddressBackWrongFalsely : Prop := addressBackRow.holds Tryd.pinned (OpenSpec.ofChange addressBackWrong)

/-- 'estafettelaw09.AddressSame': WHATEVER THE INPUT: true; the input reads as it did. -/
def addressSameSpec : ChangeSpec := { name := "addressSame", fn := fun _ => fun
  | [d1, d2] => { results := [.lit (.bool true)], args := [d1, d2] }
  | _ => none }
def addressSameRow : OpenClaim := { program := "ytmgndnbcaeepcaadoor", sum := "c0ec2db7f4ad89010ba19f65f6c29a372d965d7fda1ee14b9429659bef62404c", func := "estafette/estafettelaw09.AddressSame", spec := "addressSame", inPlace := ["internal/bytealg.IndexByteString", "internal/bytealg.IndexString", "internal/bytealg.CountString", "internal/abi.NoEscape", "internal/bytealg.MakeNoZero"], unfollowed := true, recurses := true, named := ["internal/bytealg.MaxLen", "unicode/utf8.first", "unicode/utf8.acceptRanges"], apart := false, laid := [("unicode/utf8.acceptRanges", laid_unicode_utf8_acceptRanges), ("unicode/utf8.first", laid_unicode_utf8_first)] }
def AddressSameSaid : Prop := addressSameRow.holds Tryd.pinned (OpenSpec.ofChange addressSameSpec)

/-- ITS FALSE NEIGHBOUR: 'it returns false'. Refute it at one input. -/
def addressSameWrong : ChangeSpec := { name := "addressSame", fn := fun _ => fun
  | [d1, d2] => { results := [.lit (.bool false)], args := [d1, d2] }
  | _ => none }
def AddressSameWrongFalsely : Prop := addressSameRow.holds Tryd.pinned (OpenSpec.ofChange addressSameWrong)

/- THE SECOND FORM. 'bulk': how many values and letters a reading holds, each counted each time it is reached (what is shared counts as often as it is met; a slice's spare places count too). A statement '..UptoSaid' is the law's where the arguments, and the package variables that the reading takes, are together of bulk at most 1048576: NARROWER than '..Said'. Prove '..Said' where nothing that the law and all that it calls make is longer than what came in: it says more and counts as full. Else prove '..UptoSaid'. A law counts once. -/
mutual
def uptoBulk {H : Type} : DataW H → Nat
  | .lit (.string bytes) => bytes.length + 1
  | .lit _ => 1
  | .nil => 1
  | .ptr d => uptoBulk d + 1
  | .slice elems spare => uptoBulkAll elems + uptoBulkAll spare + 1
  | .agg parts => uptoBulkAll parts + 1
  | .iface _ d => uptoBulk d + 1
  | .map entries => uptoBulkEntries entries + 1
  | .held _ => 1
def uptoBulkAll {H : Type} : List (DataW H) → Nat
  | [] => 0
  | d :: r => uptoBulk d + uptoBulkAll r
def uptoBulkEntries {H : Type} : List (Lit × DataW H) → Nat
  | [] => 0
  | x :: r => uptoBulkEntry x + uptoBulkEntries r
def uptoBulkEntry {H : Type} : Lit × DataW H → Nat
  | (.string bytes, d) => bytes.length + uptoBulk d + 1
  | (_, d) => uptoBulk d + 1
 end
def uptoSmall : (H : Type) → List (DataW H) → Bool := fun _ ds => decide (uptoBulkAll ds ≤ 1048576)
def OpenSpec.upto (s : _root_.Go.ChangeSpec) : _root_.Go.OpenSpec := { _root_.Go.OpenSpec.ofChange s with cond := some uptoSmall }

/-- 'estafettelaw09.AddressPhrases', WHERE WHAT IT READS IS OF BULK AT MOST 1048576: true; the input reads as it did. -/
def addressPhrasesUptoRow : OpenClaim := { program := "ytmgndnbcaeepcaadoor", sum := "c0ec2db7f4ad89010ba19f65f6c29a372d965d7fda1ee14b9429659bef62404c", func := "estafette/estafettelaw09.AddressPhrases", spec := "addressPhrases", inPlace := ["internal/bytealg.IndexByteString", "internal/bytealg.IndexString", "internal/bytealg.CountString", "internal/abi.NoEscape", "internal/bytealg.MakeNoZero"], unfollowed := true, recurses := true, named := ["internal/bytealg.MaxLen", "unicode/utf8.first", "unicode/utf8.acceptRanges"], apart := false, laid := [("unicode/utf8.acceptRanges", laid_unicode_utf8_acceptRanges), ("unicode/utf8.first", laid_unicode_utf8_first)], narrowed := true }
def AddressPhrasesUptoSaid : Prop := addressPhrasesUptoRow.holds Tryd.pinned (OpenSpec.upto addressPhrasesSpec)

/-- 'estafettelaw09.AddressReads', WHERE WHAT IT READS IS OF BULK AT MOST 1048576: true; the input reads as it did. -/
def addressReadsUptoRow : OpenClaim := { program := "ytmgndnbcaeepcaadoor", sum := "c0ec2db7f4ad89010ba19f65f6c29a372d965d7fda1ee14b9429659bef62404c", func := "estafette/estafettelaw09.AddressReads", spec := "addressReads", inPlace := ["internal/bytealg.IndexByteString", "internal/bytealg.IndexString", "internal/bytealg.CountString", "internal/abi.NoEscape", "internal/bytealg.MakeNoZero"], unfollowed := true, recurses := true, named := ["internal/bytealg.MaxLen", "unicode/utf8.first", "unicode/utf8.acceptRanges"], apart := false, laid := [("unicode/utf8.acceptRanges", laid_unicode_utf8_acceptRanges), ("unicode/utf8.first", laid_unicode_utf8_first)], narrowed := true }
def AddressReadsUptoSaid : Prop := addressReadsUptoRow.holds Tryd.pinned (OpenSpec.upto addressReadsSpec)

/-- 'estafettelaw09.AddressBack', WHERE WHAT IT READS IS OF BULK AT MOST 1048576: true; the input reads as it did. -/
def addressBackUptoRow : OpenClaim := { program := "ytmgndnbcaeepcaadoor", sum := "c0ec2db7f4ad89010ba19f65f6c29a372d965d7fda1ee14b9429659bef62404c", func := "estafette/estafettelaw09.AddressBack", spec := "addressBack", inPlace := ["internal/bytealg.IndexByteString", "internal/bytealg.IndexString", "internal/bytealg.CountString", "internal/abi.NoEscape", "internal/bytealg.MakeNoZero"], unfollowed := true, recurses := true, named := ["internal/bytealg.MaxLen", "unicode/utf8.first", "unicode/utf8.acceptRanges"], apart := false, laid := [("unicode/utf8.acceptRanges", laid_unicode_utf8_acceptRanges), ("unicode/utf8.first", laid_unicode_utf8_first)], narrowed := true }
def AddressBackUptoSaid : Prop := addressBackUptoRow.holds Tryd.pinned (OpenSpec.upto addressBackSpec)

/-- 'estafettelaw09.AddressSame', WHERE WHAT IT READS IS OF BULK AT MOST 1048576: true; the input reads as it did. -/
def addressSameUptoRow : OpenClaim := { program := "ytmgndnbcaeepcaadoor", sum := "c0ec2db7f4ad89010ba19f65f6c29a372d965d7fda1ee14b9429659bef62404c", func := "estafette/estafettelaw09.AddressSame", spec := "addressSame", inPlace := ["internal/bytealg.IndexByteString", "internal/bytealg.IndexString", "internal/bytealg.CountString", "internal/abi.NoEscape", "internal/bytealg.MakeNoZero"], unfollowed := true, recurses := true, named := ["internal/bytealg.MaxLen", "unicode/utf8.first", "unicode/utf8.acceptRanges"], apart := false, laid := [("unicode/utf8.acceptRanges", laid_unicode_utf8_acceptRanges), ("unicode/utf8.first", laid_unicode_utf8_first)], narrowed := true }
def AddressSameUptoSaid : Prop := addressSameUptoRow.holds Tryd.pinned (OpenSpec.upto addressSameSpec)

end Rows
end Go.Proofs.YtmgndnbcaeepcaaDoor
