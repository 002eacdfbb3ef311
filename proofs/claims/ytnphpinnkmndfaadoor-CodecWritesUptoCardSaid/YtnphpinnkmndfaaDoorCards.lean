/-
  DERIVED. GIVEN WITH THE SEED: THE CARDS: each row of YtnphpinnkmndfaaDoorRows.lean that lists a variable, with what it lists TIED to the program's text (the seventh form; the later family's looks); each row that meets fmt, with fmt's text TOLD by the authors' own Lean function (tested against real Go, not proved from fmt's source: count such statements apart). THE CARD IS WHAT COUNTS. Prove the row's statement (the work); the ties are given (YtnphpinnkmndfaaDoorTie.lean); close each card by the builder's one call (the guide's Derived/Test/ToyasCard.lean, 'card_holds'). Laid BY PROGRAM, IN A SANDBOX (cutbox-door.mjs). By AI agents, Wed Nov 11 2026. No macro, syntax, notation, axiom, sorry.
-/
import Derived.Test.YtnphpinnkmndfaaDoorRows
import GoSem.ClaimSeven
namespace Go.Proofs.YtnphpinnkmndfaaDoor
namespace Rows

/-- THE TIED CARD OF 'estafettelaw07.CodecWrites'. -/
def codecWritesCard : Claim7 := { stood := { row := codecWritesRow, standIns := [], harness := (true, "6432d4d836e7e9bfdc3eb42ada7be164d910c68413562158c31c456709a38317"), looks := true }, kinds := [], alts := [], laidByText := true, laidKinds := [.data, .data, .data, .data, .sentinel, .sentinel, .pinned], laidTests := true, laidLooks := .later }
def CodecWritesCardSaid : Prop := Claim7.holds Tryd.pinned (.plain (OpenSpec.ofChange codecWritesSpec)) codecWritesCard

/-- THE TIED CARD OF 'estafettelaw07.CodecBack'. -/
def codecBackCard : Claim7 := { stood := { row := codecBackRow, standIns := [], harness := (true, "6432d4d836e7e9bfdc3eb42ada7be164d910c68413562158c31c456709a38317"), looks := true }, kinds := [], alts := [], laidByText := true, laidKinds := [.data, .data, .data, .data, .sentinel, .sentinel, .pinned], laidTests := true, laidLooks := .later }
def CodecBackCardSaid : Prop := Claim7.holds Tryd.pinned (.plain (OpenSpec.ofChange codecBackSpec)) codecBackCard

/-- THE TIED CARD OF 'estafettelaw07.CodecStuffs'. -/
def codecStuffsCard : Claim7 := { stood := { row := codecStuffsRow, standIns := [], harness := (true, "6432d4d836e7e9bfdc3eb42ada7be164d910c68413562158c31c456709a38317"), looks := true }, kinds := [], alts := [], laidByText := true, laidKinds := [.data, .data, .data, .data, .sentinel, .sentinel, .pinned], laidTests := true, laidLooks := .later }
def CodecStuffsCardSaid : Prop := Claim7.holds Tryd.pinned (.plain (OpenSpec.ofChange codecStuffsSpec)) codecStuffsCard

/-- THE TIED CARD OF 'estafettelaw07.CodecLines'. -/
def codecLinesCard : Claim7 := { stood := { row := codecLinesRow, standIns := [], harness := (true, "6432d4d836e7e9bfdc3eb42ada7be164d910c68413562158c31c456709a38317"), looks := true }, kinds := [], alts := [], laidByText := true, laidKinds := [.data, .data, .data, .data, .sentinel, .sentinel, .pinned], laidTests := true, laidLooks := .later }
def CodecLinesCardSaid : Prop := Claim7.holds Tryd.pinned (.plain (OpenSpec.ofChange codecLinesSpec)) codecLinesCard

/-- THE TIED CARD OF 'estafettelaw07.CodecTexts'. -/
def codecTextsCard : Claim7 := { stood := { row := codecTextsRow, standIns := [], harness := (true, "6432d4d836e7e9bfdc3eb42ada7be164d910c68413562158c31c456709a38317"), looks := true }, kinds := [], alts := [], laidByText := true, laidKinds := [.data, .data, .data, .data, .sentinel, .sentinel, .pinned], laidTests := true, laidLooks := .later }
def CodecTextsCardSaid : Prop := Claim7.holds Tryd.pinned (.plain (OpenSpec.ofChange codecTextsSpec)) codecTextsCard

/-- THE TIED CARD OF 'estafettelaw07.CodecQuotes'. -/
def codecQuotesCard : Claim7 := { stood := { row := codecQuotesRow, standIns := [], harness := (true, "6432d4d836e7e9bfdc3eb42ada7be164d910c68413562158c31c456709a38317"), looks := true }, kinds := [], alts := [], laidByText := true, laidKinds := [.data, .data, .data, .data, .sentinel, .sentinel, .pinned], laidTests := true, laidLooks := .later }
def CodecQuotesCardSaid : Prop := Claim7.holds Tryd.pinned (.plain (OpenSpec.ofChange codecQuotesSpec)) codecQuotesCard

/-- THE TIED CARD OF 'estafettelaw07.CodecNumbers'. -/
def codecNumbersCard : Claim7 := { stood := { row := codecNumbersRow, standIns := [], harness := (true, "6432d4d836e7e9bfdc3eb42ada7be164d910c68413562158c31c456709a38317"), looks := true }, kinds := [], alts := [], laidByText := true, laidKinds := [.data, .data, .data, .data, .sentinel, .sentinel, .pinned], laidTests := true, laidLooks := .later }
def CodecNumbersCardSaid : Prop := Claim7.holds Tryd.pinned (.plain (OpenSpec.ofChange codecNumbersSpec)) codecNumbersCard

/-- THE SECOND FORM's CARD OF 'estafettelaw07.CodecWrites'. -/
def codecWritesUptoCard : Claim7 := { stood := { row := codecWritesUptoRow, standIns := [], harness := (true, "6432d4d836e7e9bfdc3eb42ada7be164d910c68413562158c31c456709a38317"), looks := true }, kinds := [], alts := [], laidByText := true, laidKinds := [.data, .data, .data, .data, .sentinel, .sentinel, .pinned], laidTests := true, laidLooks := .later }
def CodecWritesUptoCardSaid : Prop := Claim7.holds Tryd.pinned (.plain (OpenSpec.upto codecWritesSpec)) codecWritesUptoCard

/-- THE SECOND FORM's CARD OF 'estafettelaw07.CodecBack'. -/
def codecBackUptoCard : Claim7 := { stood := { row := codecBackUptoRow, standIns := [], harness := (true, "6432d4d836e7e9bfdc3eb42ada7be164d910c68413562158c31c456709a38317"), looks := true }, kinds := [], alts := [], laidByText := true, laidKinds := [.data, .data, .data, .data, .sentinel, .sentinel, .pinned], laidTests := true, laidLooks := .later }
def CodecBackUptoCardSaid : Prop := Claim7.holds Tryd.pinned (.plain (OpenSpec.upto codecBackSpec)) codecBackUptoCard

/-- THE SECOND FORM's CARD OF 'estafettelaw07.CodecStuffs'. -/
def codecStuffsUptoCard : Claim7 := { stood := { row := codecStuffsUptoRow, standIns := [], harness := (true, "6432d4d836e7e9bfdc3eb42ada7be164d910c68413562158c31c456709a38317"), looks := true }, kinds := [], alts := [], laidByText := true, laidKinds := [.data, .data, .data, .data, .sentinel, .sentinel, .pinned], laidTests := true, laidLooks := .later }
def CodecStuffsUptoCardSaid : Prop := Claim7.holds Tryd.pinned (.plain (OpenSpec.upto codecStuffsSpec)) codecStuffsUptoCard

/-- THE SECOND FORM's CARD OF 'estafettelaw07.CodecLines'. -/
def codecLinesUptoCard : Claim7 := { stood := { row := codecLinesUptoRow, standIns := [], harness := (true, "6432d4d836e7e9bfdc3eb42ada7be164d910c68413562158c31c456709a38317"), looks := true }, kinds := [], alts := [], laidByText := true, laidKinds := [.data, .data, .data, .data, .sentinel, .sentinel, .pinned], laidTests := true, laidLooks := .later }
def CodecLinesUptoCardSaid : Prop := Claim7.holds Tryd.pinned (.plain (OpenSpec.upto codecLinesSpec)) codecLinesUptoCard

/-- THE SECOND FORM's CARD OF 'estafettelaw07.CodecTexts'. -/
def codecTextsUptoCard : Claim7 := { stood := { row := codecTextsUptoRow, standIns := [], harness := (true, "6432d4d836e7e9bfdc3eb42ada7be164d910c68413562158c31c456709a38317"), looks := true }, kinds := [], alts := [], laidByText := true, laidKinds := [.data, .data, .data, .data, .sentinel, .sentinel, .pinned], laidTests := true, laidLooks := .later }
def CodecTextsUptoCardSaid : Prop := Claim7.holds Tryd.pinned (.plain (OpenSpec.upto codecTextsSpec)) codecTextsUptoCard

/-- THE SECOND FORM's CARD OF 'estafettelaw07.CodecQuotes'. -/
def codecQuotesUptoCard : Claim7 := { stood := { row := codecQuotesUptoRow, standIns := [], harness := (true, "6432d4d836e7e9bfdc3eb42ada7be164d910c68413562158c31c456709a38317"), looks := true }, kinds := [], alts := [], laidByText := true, laidKinds := [.data, .data, .data, .data, .sentinel, .sentinel, .pinned], laidTests := true, laidLooks := .later }
def CodecQuotesUptoCardSaid : Prop := Claim7.holds Tryd.pinned (.plain (OpenSpec.upto codecQuotesSpec)) codecQuotesUptoCard

/-- THE SECOND FORM's CARD OF 'estafettelaw07.CodecNumbers'. -/
def codecNumbersUptoCard : Claim7 := { stood := { row := codecNumbersUptoRow, standIns := [], harness := (true, "6432d4d836e7e9bfdc3eb42ada7be164d910c68413562158c31c456709a38317"), looks := true }, kinds := [], alts := [], laidByText := true, laidKinds := [.data, .data, .data, .data, .sentinel, .sentinel, .pinned], laidTests := true, laidLooks := .later }
def CodecNumbersUptoCardSaid : Prop := Claim7.holds Tryd.pinned (.plain (OpenSpec.upto codecNumbersSpec)) codecNumbersUptoCard
end Rows
end Go.Proofs.YtnphpinnkmndfaaDoor
