/-
  DERIVED. GIVEN WITH THE SEED: THE CARDS: each row of YtfdmdmahddjjmaaGreatDoorRows.lean that lists a variable, with what it lists TIED to the program's text (the seventh form; the later family's looks); each row that meets fmt, with fmt's text TOLD by the authors' own Lean function (tested against real Go, not proved from fmt's source: count such statements apart). THE CARD IS WHAT COUNTS. Prove the row's statement (the work); the ties are given (YtfdmdmahddjjmaaGreatDoorTie.lean); close each card by the builder's one call (the guide's Derived/Test/ToyasCard.lean, 'card_holds'). Laid BY PROGRAM, IN A SANDBOX (cutbox-door.mjs). By AI agents, Wed Nov 11 2026. No macro, syntax, notation, axiom, sorry.
-/
import Derived.Test.YtfdmdmahddjjmaaGreatDoorRows
import GoSem.ClaimSeven
namespace Go.Proofs.YtfdmdmahddjjmaaGreatDoor
namespace Rows

/-- THE TIED CARD OF 'estafettelaw20.ImaplineLetters'. -/
def imaplineLettersCard : Claim7 := { stood := { row := imaplineLettersRow, standIns := [], harness := (true, "8d60cd7b9a3f936c8ddd5aa49f7cf80e9a68fe9a88388237fa5d7eb42bf3b0ec"), looks := true }, kinds := [], alts := [], laidByText := true, laidKinds := [.data, .data, .data, .data, .sentinel, .sentinel, .data, .pinned], laidTests := true, laidLooks := .later }
def ImaplineLettersCardSaid : Prop := Claim7.holds Tryz.pinned (.plain (OpenSpec.ofChange imaplineLettersSpec)) imaplineLettersCard

/-- THE TIED CARD OF 'estafettelaw20.ImaplineNeeds'. -/
def imaplineNeedsCard : Claim7 := { stood := { row := imaplineNeedsRow, standIns := [], harness := (true, "8d60cd7b9a3f936c8ddd5aa49f7cf80e9a68fe9a88388237fa5d7eb42bf3b0ec"), looks := true }, kinds := [], alts := [], laidByText := true, laidKinds := [.data, .data, .data, .data, .sentinel, .sentinel, .data, .pinned], laidTests := true, laidLooks := .later }
def ImaplineNeedsCardSaid : Prop := Claim7.holds Tryz.pinned (.plain (OpenSpec.ofChange imaplineNeedsSpec)) imaplineNeedsCard

/-- THE TIED CARD OF 'estafettelaw20.ImaplineReads'. -/
def imaplineReadsCard : Claim7 := { stood := { row := imaplineReadsRow, standIns := [], harness := (true, "8d60cd7b9a3f936c8ddd5aa49f7cf80e9a68fe9a88388237fa5d7eb42bf3b0ec"), looks := true }, kinds := [], alts := [], laidByText := true, laidKinds := [.data, .data, .data, .data, .sentinel, .sentinel, .data, .pinned], laidTests := true, laidLooks := .later }
def ImaplineReadsCardSaid : Prop := Claim7.holds Tryz.pinned (.plain (OpenSpec.ofChange imaplineReadsSpec)) imaplineReadsCard

/-- THE TIED CARD OF 'estafettelaw20.ImaplineFlags'. -/
def imaplineFlagsCard : Claim7 := { stood := { row := imaplineFlagsRow, standIns := [], harness := (true, "8d60cd7b9a3f936c8ddd5aa49f7cf80e9a68fe9a88388237fa5d7eb42bf3b0ec"), looks := true }, kinds := [], alts := [], laidByText := true, laidKinds := [.data, .data, .data, .data, .sentinel, .sentinel, .data, .pinned], laidTests := true, laidLooks := .later }
def ImaplineFlagsCardSaid : Prop := Claim7.holds Tryz.pinned (.plain (OpenSpec.ofChange imaplineFlagsSpec)) imaplineFlagsCard

/-- THE TIED CARD OF 'estafettelaw20.ImaplineTexts'. -/
def imaplineTextsCard : Claim7 := { stood := { row := imaplineTextsRow, standIns := [], harness := (true, "8d60cd7b9a3f936c8ddd5aa49f7cf80e9a68fe9a88388237fa5d7eb42bf3b0ec"), looks := true }, kinds := [], alts := [], laidByText := true, laidKinds := [.data, .data, .data, .data, .sentinel, .sentinel, .data, .pinned], laidTests := true, laidLooks := .later }
def ImaplineTextsCardSaid : Prop := Claim7.holds Tryz.pinned (.plain (OpenSpec.ofChange imaplineTextsSpec)) imaplineTextsCard

/-- THE SECOND FORM's CARD OF 'estafettelaw20.ImaplineLetters'. -/
def imaplineLettersUptoCard : Claim7 := { stood := { row := imaplineLettersUptoRow, standIns := [], harness := (true, "8d60cd7b9a3f936c8ddd5aa49f7cf80e9a68fe9a88388237fa5d7eb42bf3b0ec"), looks := true }, kinds := [], alts := [], laidByText := true, laidKinds := [.data, .data, .data, .data, .sentinel, .sentinel, .data, .pinned], laidTests := true, laidLooks := .later }
def ImaplineLettersUptoCardSaid : Prop := Claim7.holds Tryz.pinned (.plain (OpenSpec.upto imaplineLettersSpec)) imaplineLettersUptoCard

/-- THE SECOND FORM's CARD OF 'estafettelaw20.ImaplineNeeds'. -/
def imaplineNeedsUptoCard : Claim7 := { stood := { row := imaplineNeedsUptoRow, standIns := [], harness := (true, "8d60cd7b9a3f936c8ddd5aa49f7cf80e9a68fe9a88388237fa5d7eb42bf3b0ec"), looks := true }, kinds := [], alts := [], laidByText := true, laidKinds := [.data, .data, .data, .data, .sentinel, .sentinel, .data, .pinned], laidTests := true, laidLooks := .later }
def ImaplineNeedsUptoCardSaid : Prop := Claim7.holds Tryz.pinned (.plain (OpenSpec.upto imaplineNeedsSpec)) imaplineNeedsUptoCard

/-- THE SECOND FORM's CARD OF 'estafettelaw20.ImaplineReads'. -/
def imaplineReadsUptoCard : Claim7 := { stood := { row := imaplineReadsUptoRow, standIns := [], harness := (true, "8d60cd7b9a3f936c8ddd5aa49f7cf80e9a68fe9a88388237fa5d7eb42bf3b0ec"), looks := true }, kinds := [], alts := [], laidByText := true, laidKinds := [.data, .data, .data, .data, .sentinel, .sentinel, .data, .pinned], laidTests := true, laidLooks := .later }
def ImaplineReadsUptoCardSaid : Prop := Claim7.holds Tryz.pinned (.plain (OpenSpec.upto imaplineReadsSpec)) imaplineReadsUptoCard

/-- THE SECOND FORM's CARD OF 'estafettelaw20.ImaplineFlags'. -/
def imaplineFlagsUptoCard : Claim7 := { stood := { row := imaplineFlagsUptoRow, standIns := [], harness := (true, "8d60cd7b9a3f936c8ddd5aa49f7cf80e9a68fe9a88388237fa5d7eb42bf3b0ec"), looks := true }, kinds := [], alts := [], laidByText := true, laidKinds := [.data, .data, .data, .data, .sentinel, .sentinel, .data, .pinned], laidTests := true, laidLooks := .later }
def ImaplineFlagsUptoCardSaid : Prop := Claim7.holds Tryz.pinned (.plain (OpenSpec.upto imaplineFlagsSpec)) imaplineFlagsUptoCard

/-- THE SECOND FORM's CARD OF 'estafettelaw20.ImaplineTexts'. -/
def imaplineTextsUptoCard : Claim7 := { stood := { row := imaplineTextsUptoRow, standIns := [], harness := (true, "8d60cd7b9a3f936c8ddd5aa49f7cf80e9a68fe9a88388237fa5d7eb42bf3b0ec"), looks := true }, kinds := [], alts := [], laidByText := true, laidKinds := [.data, .data, .data, .data, .sentinel, .sentinel, .data, .pinned], laidTests := true, laidLooks := .later }
def ImaplineTextsUptoCardSaid : Prop := Claim7.holds Tryz.pinned (.plain (OpenSpec.upto imaplineTextsSpec)) imaplineTextsUptoCard
end Rows
end Go.Proofs.YtfdmdmahddjjmaaGreatDoor
