/-
  DERIVED. GIVEN WITH THE SEED: THE CARDS: each row of YtifjikpinmgfaaaDoorRows.lean that lists a variable, with what it lists TIED to the program's text (the seventh form; the later family's looks); each row that meets fmt, with fmt's text TOLD by the authors' own Lean function (tested against real Go, not proved from fmt's source: count such statements apart). THE CARD IS WHAT COUNTS. Prove the row's statement (the work); the ties are given (YtifjikpinmgfaaaDoorTie.lean); close each card by the builder's one call (the guide's Derived/Test/ToyasCard.lean, 'card_holds'). Laid BY PROGRAM, IN A SANDBOX (cutbox-door.mjs). By AI agents, Wed Nov 11 2026. No macro, syntax, notation, axiom, sorry.
-/
import Derived.Test.YtifjikpinmgfaaaDoorRows
import GoSem.ClaimSeven
namespace Go.Proofs.YtifjikpinmgfaaaDoor
namespace Rows

/-- THE TIED CARD OF 'estafettelaw19.SeqsetHas'. -/
def seqsetHasCard : Claim7 := { stood := { row := seqsetHasRow, standIns := [], harness := (true, "32f093d9376cd92835219d80fef7593662ccc6a264a4821c960f3e8b189746d5"), looks := true }, kinds := [], alts := [], laidByText := true, laidKinds := [.data, .data, .data, .data, .sentinel, .sentinel, .pinned], laidTests := true, laidLooks := .later }
def SeqsetHasCardSaid : Prop := Claim7.holds Tryd.pinned (.plain (OpenSpec.ofChange seqsetHasSpec)) seqsetHasCard

/-- THE TIED CARD OF 'estafettelaw19.SeqsetAll'. -/
def seqsetAllCard : Claim7 := { stood := { row := seqsetAllRow, standIns := [], harness := (true, "32f093d9376cd92835219d80fef7593662ccc6a264a4821c960f3e8b189746d5"), looks := true }, kinds := [], alts := [], laidByText := true, laidKinds := [.data, .data, .data, .data, .sentinel, .sentinel, .pinned], laidTests := true, laidLooks := .later }
def SeqsetAllCardSaid : Prop := Claim7.holds Tryd.pinned (.plain (OpenSpec.ofChange seqsetAllSpec)) seqsetAllCard

/-- THE TIED CARD OF 'estafettelaw19.SeqsetReads'. -/
def seqsetReadsCard : Claim7 := { stood := { row := seqsetReadsRow, standIns := [], harness := (true, "32f093d9376cd92835219d80fef7593662ccc6a264a4821c960f3e8b189746d5"), looks := true }, kinds := [], alts := [], laidByText := true, laidKinds := [.data, .data, .data, .data, .sentinel, .sentinel, .pinned], laidTests := true, laidLooks := .later }
def SeqsetReadsCardSaid : Prop := Claim7.holds Tryd.pinned (.plain (OpenSpec.ofChange seqsetReadsSpec)) seqsetReadsCard

/-- THE TIED CARD OF 'estafettelaw19.SeqsetBack'. -/
def seqsetBackCard : Claim7 := { stood := { row := seqsetBackRow, standIns := [], harness := (true, "32f093d9376cd92835219d80fef7593662ccc6a264a4821c960f3e8b189746d5"), looks := true }, kinds := [], alts := [], laidByText := true, laidKinds := [.data, .data, .data, .data, .sentinel, .sentinel, .pinned], laidTests := true, laidLooks := .later }
def SeqsetBackCardSaid : Prop := Claim7.holds Tryd.pinned (.plain (OpenSpec.ofChange seqsetBackSpec)) seqsetBackCard

/-- THE SECOND FORM's CARD OF 'estafettelaw19.SeqsetHas'. -/
def seqsetHasUptoCard : Claim7 := { stood := { row := seqsetHasUptoRow, standIns := [], harness := (true, "32f093d9376cd92835219d80fef7593662ccc6a264a4821c960f3e8b189746d5"), looks := true }, kinds := [], alts := [], laidByText := true, laidKinds := [.data, .data, .data, .data, .sentinel, .sentinel, .pinned], laidTests := true, laidLooks := .later }
def SeqsetHasUptoCardSaid : Prop := Claim7.holds Tryd.pinned (.plain (OpenSpec.upto seqsetHasSpec)) seqsetHasUptoCard

/-- THE SECOND FORM's CARD OF 'estafettelaw19.SeqsetAll'. -/
def seqsetAllUptoCard : Claim7 := { stood := { row := seqsetAllUptoRow, standIns := [], harness := (true, "32f093d9376cd92835219d80fef7593662ccc6a264a4821c960f3e8b189746d5"), looks := true }, kinds := [], alts := [], laidByText := true, laidKinds := [.data, .data, .data, .data, .sentinel, .sentinel, .pinned], laidTests := true, laidLooks := .later }
def SeqsetAllUptoCardSaid : Prop := Claim7.holds Tryd.pinned (.plain (OpenSpec.upto seqsetAllSpec)) seqsetAllUptoCard

/-- THE SECOND FORM's CARD OF 'estafettelaw19.SeqsetReads'. -/
def seqsetReadsUptoCard : Claim7 := { stood := { row := seqsetReadsUptoRow, standIns := [], harness := (true, "32f093d9376cd92835219d80fef7593662ccc6a264a4821c960f3e8b189746d5"), looks := true }, kinds := [], alts := [], laidByText := true, laidKinds := [.data, .data, .data, .data, .sentinel, .sentinel, .pinned], laidTests := true, laidLooks := .later }
def SeqsetReadsUptoCardSaid : Prop := Claim7.holds Tryd.pinned (.plain (OpenSpec.upto seqsetReadsSpec)) seqsetReadsUptoCard

/-- THE SECOND FORM's CARD OF 'estafettelaw19.SeqsetBack'. -/
def seqsetBackUptoCard : Claim7 := { stood := { row := seqsetBackUptoRow, standIns := [], harness := (true, "32f093d9376cd92835219d80fef7593662ccc6a264a4821c960f3e8b189746d5"), looks := true }, kinds := [], alts := [], laidByText := true, laidKinds := [.data, .data, .data, .data, .sentinel, .sentinel, .pinned], laidTests := true, laidLooks := .later }
def SeqsetBackUptoCardSaid : Prop := Claim7.holds Tryd.pinned (.plain (OpenSpec.upto seqsetBackSpec)) seqsetBackUptoCard
end Rows
end Go.Proofs.YtifjikpinmgfaaaDoor
