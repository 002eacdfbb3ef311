/-
  DERIVED. GIVEN WITH THE SEED: THE CARDS: each row of YtcfkmckdjappbaaDoorRows.lean that lists a variable, with what it lists TIED to the program's text (the seventh form; the later family's looks); each row that meets fmt, with fmt's text TOLD by the authors' own Lean function (tested against real Go, not proved from fmt's source: count such statements apart). THE CARD IS WHAT COUNTS. Prove the row's statement (the work); the ties are given (YtcfkmckdjappbaaDoorTie.lean); close each card by the builder's one call (the guide's Derived/Test/ToyasCard.lean, 'card_holds'). Laid BY PROGRAM, IN A SANDBOX (cutbox-door.mjs). By AI agents, Wed Nov 11 2026. No macro, syntax, notation, axiom, sorry.
-/
import Derived.Test.YtcfkmckdjappbaaDoorRows
import GoSem.ClaimSeven
namespace Go.Proofs.YtcfkmckdjappbaaDoor
namespace Rows

/-- THE TIED CARD OF 'estafettelaw08.StampTells'. -/
def stampTellsCard : Claim7 := { stood := { row := stampTellsRow, standIns := [], harness := (true, "7ebbc9baec5e9d893c56c7d51b5796c21fe89513e8370a1cbeb069cbeb33fbea"), looks := false }, kinds := [], alts := [], laidByText := true, laidKinds := [.data], laidTests := true, laidLooks := .later }
def StampTellsCardSaid : Prop := Claim7.holds Tryd.pinned (.plain (OpenSpec.ofChange stampTellsSpec)) stampTellsCard

/-- THE TIED CARD OF 'estafettelaw08.StampOrder'. -/
def stampOrderCard : Claim7 := { stood := { row := stampOrderRow, standIns := [], harness := (true, "7ebbc9baec5e9d893c56c7d51b5796c21fe89513e8370a1cbeb069cbeb33fbea"), looks := false }, kinds := [], alts := [], laidByText := true, laidKinds := [.data], laidTests := true, laidLooks := .later }
def StampOrderCardSaid : Prop := Claim7.holds Tryd.pinned (.plain (OpenSpec.ofChange stampOrderSpec)) stampOrderCard

/-- THE TIED CARD OF 'estafettelaw08.StampZones'. -/
def stampZonesCard : Claim7 := { stood := { row := stampZonesRow, standIns := [], harness := (true, "7ebbc9baec5e9d893c56c7d51b5796c21fe89513e8370a1cbeb069cbeb33fbea"), looks := false }, kinds := [], alts := [], laidByText := true, laidKinds := [.data], laidTests := true, laidLooks := .later }
def StampZonesCardSaid : Prop := Claim7.holds Tryd.pinned (.plain (OpenSpec.ofChange stampZonesSpec)) stampZonesCard

/-- THE TIED CARD OF 'estafettelaw08.StampReads'. -/
def stampReadsCard : Claim7 := { stood := { row := stampReadsRow, standIns := [], harness := (true, "7ebbc9baec5e9d893c56c7d51b5796c21fe89513e8370a1cbeb069cbeb33fbea"), looks := false }, kinds := [], alts := [], laidByText := true, laidKinds := [.data], laidTests := true, laidLooks := .later }
def StampReadsCardSaid : Prop := Claim7.holds Tryd.pinned (.plain (OpenSpec.ofChange stampReadsSpec)) stampReadsCard

/-- THE TIED CARD OF 'estafettelaw08.StampBack'. -/
def stampBackCard : Claim7 := { stood := { row := stampBackRow, standIns := [], harness := (true, "7ebbc9baec5e9d893c56c7d51b5796c21fe89513e8370a1cbeb069cbeb33fbea"), looks := false }, kinds := [], alts := [], laidByText := true, laidKinds := [.data], laidTests := true, laidLooks := .later }
def StampBackCardSaid : Prop := Claim7.holds Tryd.pinned (.plain (OpenSpec.ofChange stampBackSpec)) stampBackCard

/-- THE TIED CARD OF 'estafettelaw08.StampMonths'. -/
def stampMonthsCard : Claim7 := { stood := { row := stampMonthsRow, standIns := [], harness := (true, "7ebbc9baec5e9d893c56c7d51b5796c21fe89513e8370a1cbeb069cbeb33fbea"), looks := false }, kinds := [], alts := [], laidByText := true, laidKinds := [.data], laidTests := true, laidLooks := .later }
def StampMonthsCardSaid : Prop := Claim7.holds Tryd.pinned (.plain (OpenSpec.ofChange stampMonthsSpec)) stampMonthsCard

/-- THE SECOND FORM's CARD OF 'estafettelaw08.StampTells'. -/
def stampTellsUptoCard : Claim7 := { stood := { row := stampTellsUptoRow, standIns := [], harness := (true, "7ebbc9baec5e9d893c56c7d51b5796c21fe89513e8370a1cbeb069cbeb33fbea"), looks := false }, kinds := [], alts := [], laidByText := true, laidKinds := [.data], laidTests := true, laidLooks := .later }
def StampTellsUptoCardSaid : Prop := Claim7.holds Tryd.pinned (.plain (OpenSpec.upto stampTellsSpec)) stampTellsUptoCard

/-- THE SECOND FORM's CARD OF 'estafettelaw08.StampOrder'. -/
def stampOrderUptoCard : Claim7 := { stood := { row := stampOrderUptoRow, standIns := [], harness := (true, "7ebbc9baec5e9d893c56c7d51b5796c21fe89513e8370a1cbeb069cbeb33fbea"), looks := false }, kinds := [], alts := [], laidByText := true, laidKinds := [.data], laidTests := true, laidLooks := .later }
def StampOrderUptoCardSaid : Prop := Claim7.holds Tryd.pinned (.plain (OpenSpec.upto stampOrderSpec)) stampOrderUptoCard

/-- THE SECOND FORM's CARD OF 'estafettelaw08.StampZones'. -/
def stampZonesUptoCard : Claim7 := { stood := { row := stampZonesUptoRow, standIns := [], harness := (true, "7ebbc9baec5e9d893c56c7d51b5796c21fe89513e8370a1cbeb069cbeb33fbea"), looks := false }, kinds := [], alts := [], laidByText := true, laidKinds := [.data], laidTests := true, laidLooks := .later }
def StampZonesUptoCardSaid : Prop := Claim7.holds Tryd.pinned (.plain (OpenSpec.upto stampZonesSpec)) stampZonesUptoCard

/-- THE SECOND FORM's CARD OF 'estafettelaw08.StampReads'. -/
def stampReadsUptoCard : Claim7 := { stood := { row := stampReadsUptoRow, standIns := [], harness := (true, "7ebbc9baec5e9d893c56c7d51b5796c21fe89513e8370a1cbeb069cbeb33fbea"), looks := false }, kinds := [], alts := [], laidByText := true, laidKinds := [.data], laidTests := true, laidLooks := .later }
def StampReadsUptoCardSaid : Prop := Claim7.holds Tryd.pinned (.plain (OpenSpec.upto stampReadsSpec)) stampReadsUptoCard

/-- THE SECOND FORM's CARD OF 'estafettelaw08.StampBack'. -/
def stampBackUptoCard : Claim7 := { stood := { row := stampBackUptoRow, standIns := [], harness := (true, "7ebbc9baec5e9d893c56c7d51b5796c21fe89513e8370a1cbeb069cbeb33fbea"), looks := false }, kinds := [], alts := [], laidByText := true, laidKinds := [.data], laidTests := true, laidLooks := .later }
def StampBackUptoCardSaid : Prop := Claim7.holds Tryd.pinned (.plain (OpenSpec.upto stampBackSpec)) stampBackUptoCard

/-- THE SECOND FORM's CARD OF 'estafettelaw08.StampMonths'. -/
def stampMonthsUptoCard : Claim7 := { stood := { row := stampMonthsUptoRow, standIns := [], harness := (true, "7ebbc9baec5e9d893c56c7d51b5796c21fe89513e8370a1cbeb069cbeb33fbea"), looks := false }, kinds := [], alts := [], laidByText := true, laidKinds := [.data], laidTests := true, laidLooks := .later }
def StampMonthsUptoCardSaid : Prop := Claim7.holds Tryd.pinned (.plain (OpenSpec.upto stampMonthsSpec)) stampMonthsUptoCard
end Rows
end Go.Proofs.YtcfkmckdjappbaaDoor
