/-
  DERIVED. GIVEN WITH THE SEED: THE CARDS: each row of YtdbggicpcbecdaaGreatDoorRows.lean that lists a variable, with what it lists TIED to the program's text (the seventh form; the later family's looks); each row that meets fmt, with fmt's text TOLD by the authors' own Lean function (tested against real Go, not proved from fmt's source: count such statements apart). THE CARD IS WHAT COUNTS. Prove the row's statement (the work); the ties are given (YtdbggicpcbecdaaGreatDoorTie.lean); close each card by the builder's one call (the guide's Derived/Test/ToyasCard.lean, 'card_holds'). Laid BY PROGRAM, IN A SANDBOX (cutbox-door.mjs). By AI agents, Wed Nov 11 2026. No macro, syntax, notation, axiom, sorry.
-/
import Derived.Test.YtdbggicpcbecdaaGreatDoorRows
import GoSem.ClaimSeven
namespace Go.Proofs.YtdbggicpcbecdaaGreatDoor
namespace Rows

/-- THE TIED CARD OF 'estafettelaw16.SmtplineLetters'. -/
def smtplineLettersCard : Claim7 := { stood := { row := smtplineLettersRow, standIns := [], harness := (true, "566d3af18dfba78671837d3cd7b20c02d04b99db1a8a9423a6c8c80fa1dee17b"), looks := true }, kinds := [], alts := [], laidByText := true, laidKinds := [.data, .data, .data, .data, .sentinel, .sentinel, .pinned], laidTests := true, laidLooks := .later }
def SmtplineLettersCardSaid : Prop := Claim7.holds Tryz.pinned (.plain (OpenSpec.ofChange smtplineLettersSpec)) smtplineLettersCard

/-- THE TIED CARD OF 'estafettelaw16.SmtplineBack'. -/
def smtplineBackCard : Claim7 := { stood := { row := smtplineBackRow, standIns := [], harness := (true, "566d3af18dfba78671837d3cd7b20c02d04b99db1a8a9423a6c8c80fa1dee17b"), looks := true }, kinds := [], alts := [], laidByText := true, laidKinds := [.data, .data, .data, .data, .sentinel, .sentinel, .pinned], laidTests := true, laidLooks := .later }
def SmtplineBackCardSaid : Prop := Claim7.holds Tryz.pinned (.plain (OpenSpec.ofChange smtplineBackSpec)) smtplineBackCard

/-- THE TIED CARD OF 'estafettelaw16.SmtplineSizes'. -/
def smtplineSizesCard : Claim7 := { stood := { row := smtplineSizesRow, standIns := [], harness := (true, "566d3af18dfba78671837d3cd7b20c02d04b99db1a8a9423a6c8c80fa1dee17b"), looks := true }, kinds := [], alts := [], laidByText := true, laidKinds := [.data, .data, .data, .data, .sentinel, .sentinel, .pinned], laidTests := true, laidLooks := .later }
def SmtplineSizesCardSaid : Prop := Claim7.holds Tryz.pinned (.plain (OpenSpec.ofChange smtplineSizesSpec)) smtplineSizesCard

/-- THE SECOND FORM's CARD OF 'estafettelaw16.SmtplineLetters'. -/
def smtplineLettersUptoCard : Claim7 := { stood := { row := smtplineLettersUptoRow, standIns := [], harness := (true, "566d3af18dfba78671837d3cd7b20c02d04b99db1a8a9423a6c8c80fa1dee17b"), looks := true }, kinds := [], alts := [], laidByText := true, laidKinds := [.data, .data, .data, .data, .sentinel, .sentinel, .pinned], laidTests := true, laidLooks := .later }
def SmtplineLettersUptoCardSaid : Prop := Claim7.holds Tryz.pinned (.plain (OpenSpec.upto smtplineLettersSpec)) smtplineLettersUptoCard

/-- THE SECOND FORM's CARD OF 'estafettelaw16.SmtplineBack'. -/
def smtplineBackUptoCard : Claim7 := { stood := { row := smtplineBackUptoRow, standIns := [], harness := (true, "566d3af18dfba78671837d3cd7b20c02d04b99db1a8a9423a6c8c80fa1dee17b"), looks := true }, kinds := [], alts := [], laidByText := true, laidKinds := [.data, .data, .data, .data, .sentinel, .sentinel, .pinned], laidTests := true, laidLooks := .later }
def SmtplineBackUptoCardSaid : Prop := Claim7.holds Tryz.pinned (.plain (OpenSpec.upto smtplineBackSpec)) smtplineBackUptoCard

/-- THE SECOND FORM's CARD OF 'estafettelaw16.SmtplineSizes'. -/
def smtplineSizesUptoCard : Claim7 := { stood := { row := smtplineSizesUptoRow, standIns := [], harness := (true, "566d3af18dfba78671837d3cd7b20c02d04b99db1a8a9423a6c8c80fa1dee17b"), looks := true }, kinds := [], alts := [], laidByText := true, laidKinds := [.data, .data, .data, .data, .sentinel, .sentinel, .pinned], laidTests := true, laidLooks := .later }
def SmtplineSizesUptoCardSaid : Prop := Claim7.holds Tryz.pinned (.plain (OpenSpec.upto smtplineSizesSpec)) smtplineSizesUptoCard
end Rows
end Go.Proofs.YtdbggicpcbecdaaGreatDoor
