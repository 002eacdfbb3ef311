/-
  DERIVED. GIVEN WITH THE SEED: THE CARDS: each row of YtmgndnbcaeepcaaDoorRows.lean that lists a variable, with what it lists TIED to the program's text (the seventh form; the later family's looks); each row that meets fmt, with fmt's text TOLD by the authors' own Lean function (tested against real Go, not proved from fmt's source: count such statements apart). THE CARD IS WHAT COUNTS. Prove the row's statement (the work); the ties are given (YtmgndnbcaeepcaaDoorTie.lean); close each card by the builder's one call (the guide's Derived/Test/ToyasCard.lean, 'card_holds'). Laid BY PROGRAM, IN A SANDBOX (cutbox-door.mjs). By AI agents, Wed Nov 11 2026. No macro, syntax, notation, axiom, sorry.
-/
import Derived.Test.YtmgndnbcaeepcaaDoorRows
import GoSem.ClaimSeven
namespace Go.Proofs.YtmgndnbcaeepcaaDoor
namespace Rows

/-- THE TIED CARD OF 'estafettelaw09.AddressPhrases'. -/
def addressPhrasesCard : Claim7 := { stood := { row := addressPhrasesRow, standIns := [], harness := (true, "5e877e2548d5bc650c8e209b6c5671476bdd016d9a3708cfdc49ec557ca7454e"), looks := false }, kinds := [], alts := [], laidByText := true, laidKinds := [.data, .pinned], laidTests := true, laidLooks := .later }
def AddressPhrasesCardSaid : Prop := Claim7.holds Tryd.pinned (.plain (OpenSpec.ofChange addressPhrasesSpec)) addressPhrasesCard

/-- THE TIED CARD OF 'estafettelaw09.AddressReads'. -/
def addressReadsCard : Claim7 := { stood := { row := addressReadsRow, standIns := [], harness := (true, "5e877e2548d5bc650c8e209b6c5671476bdd016d9a3708cfdc49ec557ca7454e"), looks := false }, kinds := [], alts := [], laidByText := true, laidKinds := [.data, .pinned], laidTests := true, laidLooks := .later }
def AddressReadsCardSaid : Prop := Claim7.holds Tryd.pinned (.plain (OpenSpec.ofChange addressReadsSpec)) addressReadsCard

/-- THE TIED CARD OF 'estafettelaw09.AddressBack'. -/
def addressBackCard : Claim7 := { stood := { row := addressBackRow, standIns := [], harness := (true, "5e877e2548d5bc650c8e209b6c5671476bdd016d9a3708cfdc49ec557ca7454e"), looks := false }, kinds := [], alts := [], laidByText := true, laidKinds := [.data, .pinned], laidTests := true, laidLooks := .later }
def AddressBackCardSaid : Prop := Claim7.holds Tryd.pinned (.plain (OpenSpec.ofChange addressBackSpec)) addressBackCard

/-- THE TIED CARD OF 'estafettelaw09.AddressSame'. -/
def addressSameCard : Claim7 := { stood := { row := addressSameRow, standIns := [], harness := (true, "5e877e2548d5bc650c8e209b6c5671476bdd016d9a3708cfdc49ec557ca7454e"), looks := false }, kinds := [], alts := [], laidByText := true, laidKinds := [.data, .pinned], laidTests := true, laidLooks := .later }
def AddressSameCardSaid : Prop := Claim7.holds Tryd.pinned (.plain (OpenSpec.ofChange addressSameSpec)) addressSameCard

/-- THE SECOND FORM's CARD OF 'estafettelaw09.AddressPhrases'. -/
def addressPhrasesUptoCard : Claim7 := { stood := { row := addressPhrasesUptoRow, standIns := [], harness := (true, "5e877e2548d5bc650c8e209b6c5671476bdd016d9a3708cfdc49ec557ca7454e"), looks := false }, kinds := [], alts := [], laidByText := true, laidKinds := [.data, .pinned], laidTests := true, laidLooks := .later }
def AddressPhrasesUptoCardSaid : Prop := Claim7.holds Tryd.pinned (.plain (OpenSpec.upto addressPhrasesSpec)) addressPhrasesUptoCard

/-- THE SECOND FORM's CARD OF 'estafettelaw09.AddressReads'. -/
def addressReadsUptoCard : Claim7 := { stood := { row := addressReadsUptoRow, standIns := [], harness := (true, "5e877e2548d5bc650c8e209b6c5671476bdd016d9a3708cfdc49ec557ca7454e"), looks := false }, kinds := [], alts := [], laidByText := true, laidKinds := [.data, .pinned], laidTests := true, laidLooks := .later }
def AddressReadsUptoCardSaid : Prop := Claim7.holds Tryd.pinned (.plain (OpenSpec.upto addressReadsSpec)) addressReadsUptoCard

/-- THE SECOND FORM's CARD OF 'estafettelaw09.AddressBack'. -/
def addressBackUptoCard : Claim7 := { stood := { row := addressBackUptoRow, standIns := [], harness := (true, "5e877e2548d5bc650c8e209b6c5671476bdd016d9a3708cfdc49ec557ca7454e"), looks := false }, kinds := [], alts := [], laidByText := true, laidKinds := [.data, .pinned], laidTests := true, laidLooks := .later }
def AddressBackUptoCardSaid : Prop := Claim7.holds Tryd.pinned (.plain (OpenSpec.upto addressBackSpec)) addressBackUptoCard

/-- THE SECOND FORM's CARD OF 'estafettelaw09.AddressSame'. -/
def addressSameUptoCard : Claim7 := { stood := { row := addressSameUptoRow, standIns := [], harness := (true, "5e877e2548d5bc650c8e209b6c5671476bdd016d9a3708cfdc49ec557ca7454e"), looks := false }, kinds := [], alts := [], laidByText := true, laidKinds := [.data, .pinned], laidTests := true, laidLooks := .later }
def AddressSameUptoCardSaid : Prop := Claim7.holds Tryd.pinned (.plain (OpenSpec.upto addressSameSpec)) addressSameUptoCard
end Rows
end Go.Proofs.YtmgndnbcaeepcaaDoor
