/-
  No cell of these rows narrows 'for every input' (looked for: loops, veiled, ifaces, maps, wideKeys, modest, calm, conditions, laid).
  DERIVED. THE GIVEN ROWS OF THIS SEAT. 3 by the template 'for every input the law returns true; each argument reads behind the call as it read before'; 0 by the template 'total and deterministic' (their statements: YtboijleajaiiiaaTotals.lean).
  GIVEN WITH THE SEED: the statements are not yours to turn. If you find one false, say at which input.
  Laid BY PROGRAM, IN A SANDBOX (cutbox-rows.mjs): the forced cells as the released guide's own fill.sh prints them over the translation 209834bb0a6b25a6… (all of the seat's roots in one cut). By AI agents, Wed Nov 11 2026. No macro, syntax, notation, axiom, sorry.
-/
import Derived.Test.YtboijleajaiiiaaChecked
import GoSem.Claim
import GoSem.ClaimJoined
import GoSem.ClaimMapViews
import Derived.JoinedTies
import Derived.KernelRfl
namespace Go.Proofs.Ytboijleajaiiiaa
/- THE CELL 'sum', in the pinned program and in every row, IS THE sha256 OF THE DUMP (.gsa) THAT YtboijleajaiiiaaProg.lean LOADS. Nothing in Lean hashes anything: it is a label: what it is worth is what the hold of that sum in a sandbox is worth. -/
noncomputable def Try.pinned : Pinned := { name := "ytboijleajaiiiaa", sum := "209834bb0a6b25a6beb887d222f4a462b43a9628585244203be399fd6ec8dd04", checked := Try.checked }
namespace Rows
def none {H : Type} : Left H := { results := [], args := [] }

/-- 'estafettelaw12.FeedCuts': WHATEVER THE INPUT: true; the input reads as it did. -/
def feedCutsSpec : ChangeSpec := { name := "feedCuts", fn := fun _ => fun
  | [d1, d2, d3] => { results := [.lit (.bool true)], args := [d1, d2, d3] }
  | _ => none }
def feedCutsRow : OpenClaim := { program := "ytboijleajaiiiaa", sum := "209834bb0a6b25a6beb887d222f4a462b43a9628585244203be399fd6ec8dd04", func := "estafette/estafettelaw12.FeedCuts", spec := "feedCuts", inPlace := ["internal/bytealg.IndexByte", "internal/bytealg.Index"], named := ["internal/bytealg.MaxLen"], apart := false }
def FeedCutsSaid : Prop := feedCutsRow.holds Try.pinned (OpenSpec.ofChange feedCutsSpec)

/-- ITS FALSE NEIGHBOUR: 'it returns false'. Refute it at one input. -/
def feedCutsWrong : ChangeSpec := { name := "feedCuts", fn := fun _ => fun
  | [d1, d2, d3] => { results := [.lit (.bool false)], args := [d1, d2, d3] }
  | _ => none }
def FeedCutsWrongFalsely : Prop := feedCutsRow.holds Try.pinned (OpenSpec.ofChange feedCutsWrong)

/-- 'estafettelaw12.FeedLines': WHATEVER THE INPUT: true; the input reads as it did. -/
def feedLinesSpec : ChangeSpec := { name := "feedLines", fn := fun _ => fun
  | [d] => { results := [.lit (.bool true)], args := [d] }
  | _ => none }
def feedLinesRow : OpenClaim := { program := "ytboijleajaiiiaa", sum := "209834bb0a6b25a6beb887d222f4a462b43a9628585244203be399fd6ec8dd04", func := "estafette/estafettelaw12.FeedLines", spec := "feedLines", inPlace := ["internal/bytealg.IndexByte", "internal/bytealg.Index"], named := ["internal/bytealg.MaxLen"], apart := false }
def FeedLinesSaid : Prop := feedLinesRow.holds Try.pinned (OpenSpec.ofChange feedLinesSpec)

/-- ITS FALSE NEIGHBOUR: 'it returns false'. Refute it at one input. -/
def feedLinesWrong : ChangeSpec := { name := "feedLines", fn := fun _ => fun
  | [d] => { results := [.lit (.bool false)], args := [d] }
  | _ => none }
def FeedLinesWrongFalsely : Prop := feedLinesRow.holds Try.pinned (OpenSpec.ofChange feedLinesWrong)

/-- 'estafettelaw12.FeedNeeds': WHATEVER THE INPUT: true; the input reads as it did. -/
def feedNeedsSpec : ChangeSpec := { name := "feedNeeds", fn := fun _ => fun
  | [d1, d2] => { results := [.lit (.bool true)], args := [d1, d2] }
  | _ => none }
def feedNeedsRow : OpenClaim := { program := "ytboijleajaiiiaa", sum := "209834bb0a6b25a6beb887d222f4a462b43a9628585244203be399fd6ec8dd04", func := "estafette/estafettelaw12.FeedNeeds", spec := "feedNeeds", inPlace := ["internal/bytealg.IndexByte", "internal/bytealg.Index"], named := ["internal/bytealg.MaxLen"], apart := false }
def FeedNeedsSaid : Prop := feedNeedsRow.holds Try.pinned (OpenSpec.ofChange feedNeedsSpec)

/-- ITS FALSE NEIGHBOUR: 'it returns false'. Refute it at one input. -/
def feedNeedsWrong : ChangeSpec := { name := "feedNeeds", fn := fun _ => fun
  | [d1, d2] => { results := [.lit (.bool false)], args := [d1, d2] }
  | _ => none }
def FeedNeedsWrongFalsely : Prop := feedNeedsRow.holds Try.pinned (OpenSpec.ofChange feedNeedsWrong)

/- THE SECOND FORM. 'bulk': how many values and letters a reading holds, each counted each time it is reached (what is shared counts as often as it is met; a slice's spare places count too). A statement '..UptoSaid' is the law's where the arguments, and the package variables that the reading takes, are together of bulk at most 1048576: NARROWER than '..Said'. Prove '..Said' where nothing that the law and all that it calls make is longer than what came in: it says more and counts as full. Else prove '..UptoSaid'. A law counts once. -/
mutual
def uptoBulk {H : Type} : DataW H → Nat
  | .lit (.string bytes) => bytes.length + 1
  | .lit _ => 1
  | .nil => 1
  | .ptr d => uptoBulk d + 1
  | .slice elems spare => uptoBulkAll elems + uptoBulkAll spare + 1
  | .agg parts => uptoBulkAll parts + 1
  | .iface _ d => uptoBulk d + 1
  | .map entries => uptoBulkEntries entries + 1
  | .held _ => 1
def uptoBulkAll {H : Type} : List (DataW H) → Nat
  | [] => 0
  | d :: r => uptoBulk d + uptoBulkAll r
def uptoBulkEntries {H : Type} : List (Lit × DataW H) → Nat
  | [] => 0
  | x :: r => uptoBulkEntry x + uptoBulkEntries r
def uptoBulkEntry {H : Type} : Lit × DataW H → Nat
  | (.string bytes, d) => bytes.length + uptoBulk d + 1
  | (_, d) => uptoBulk d + 1
 end
def uptoSmall : (H : Type) → List (DataW H) → Bool := fun _ ds => decide (uptoBulkAll ds ≤ 1048576)
def OpenSpec.upto (s : _root_.Go.ChangeSpec) : _root_.Go.OpenSpec := { _root_.Go.OpenSpec.ofChange s with cond := some uptoSmall }

/-- 'estafettelaw12.FeedCuts', WHERE WHAT IT READS IS OF BULK AT MOST 1048576: true; the input reads as it did. -/
def feedCutsUptoRow : OpenClaim := { program := "ytboijleajaiiiaa", sum := "209834bb0a6b25a6beb887d222f4a462b43a9628585244203be399fd6ec8dd04", func := "estafette/estafettelaw12.FeedCuts", spec := "feedCuts", inPlace := ["internal/bytealg.IndexByte", "internal/bytealg.Index"], named := ["internal/bytealg.MaxLen"], apart := false, narrowed := true }
def FeedCutsUptoSaid : Prop := feedCutsUptoRow.holds Try.pinned (OpenSpec.upto feedCutsSpec)

/-- 'estafettelaw12.FeedLines', WHERE WHAT IT READS IS OF BULK AT MOST 1048576: true; the input reads as it did. -/
def feedLinesUptoRow : OpenClaim := { program := "ytboijleajaiiiaa", sum := "209834bb0a6b25a6beb887d222f4a462b43a9628585244203be399fd6ec8dd04", func := "estafette/estafettelaw12.FeedLines", spec := "feedLines", inPlace := ["internal/bytealg.IndexByte", "internal/bytealg.Index"], named := ["internal/bytealg.MaxLen"], apart := false, narrowed := true }
def FeedLinesUptoSaid : Prop := feedLinesUptoRow.holds Try.pinned (OpenSpec.upto feedLinesSpec)

/-- 'estafettelaw12.FeedNeeds', WHERE WHAT IT READS IS OF BULK AT MOST 1048576: true; the input reads as it did. -/
def feedNeedsUptoRow : OpenClaim := { program := "ytboijleajaiiiaa", sum := "209834bb0a6b25a6beb887d222f4a462b43a9628585244203be399fd6ec8dd04", func := "estafette/estafettelaw12.FeedNeeds", spec := "feedNeeds", inPlace := ["internal/bytealg.IndexByte", "internal/bytealg.Index"], named := ["internal/bytealg.MaxLen"], apart := false, narrowed := true }
def FeedNeedsUptoSaid : Prop := feedNeedsUptoRow.holds Try.pinned (OpenSpec.upto feedNeedsSpec)

end Rows
end Go.Proofs.Ytboijleajaiiiaa
