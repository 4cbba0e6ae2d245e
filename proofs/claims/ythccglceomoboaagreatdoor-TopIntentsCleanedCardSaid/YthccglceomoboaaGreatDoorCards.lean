/-
  DERIVED. GIVEN WITH THE SEED: THE CARDS: each row of YthccglceomoboaaGreatDoorRows.lean that lists a variable, with what it lists TIED to the program's text (the seventh form; the later family's looks); each row that meets fmt, with fmt's text TOLD by the authors' own Lean function (tested against real Go, not proved from fmt's source: count such statements apart). THE CARD IS WHAT COUNTS. Prove the row's statement (the work); the ties are given (YthccglceomoboaaGreatDoorTie.lean); close each card by the builder's one call (the guide's Derived/Test/ToyasCard.lean, 'card_holds'). Laid BY PROGRAM, IN A SANDBOX (cutbox-door.mjs). By AI agents, Wed Nov 11 2026. No macro, syntax, notation, axiom, sorry.
-/
import Derived.Test.YthccglceomoboaaGreatDoorRows
import GoSem.ClaimSeven
namespace Go.Proofs.YthccglceomoboaaGreatDoor
namespace Rows

/-- THE TIED CARD OF 'standbytop.TopReturnedEqual'. -/
def topReturnedEqualCard : Claim7 := { stood := { row := topReturnedEqualRow, standIns := [], harness := (true, "abb979726fb1b1111040af0fce3e5c0bc77d6678880eb71102c43da7dbb10b9e"), looks := true }, kinds := [], alts := [], laidByText := true, laidKinds := [.data], laidTests := true, laidLooks := .later }
def TopReturnedEqualCardSaid : Prop := Claim7.holds Tryz.pinned (.plain (OpenSpec.ofChange topReturnedEqualSpec)) topReturnedEqualCard

/-- THE TIED CARD OF 'standbytop.TopComparisonsRepeated'. -/
def topComparisonsRepeatedCard : Claim7 := { stood := { row := topComparisonsRepeatedRow, standIns := [], harness := (true, "abb979726fb1b1111040af0fce3e5c0bc77d6678880eb71102c43da7dbb10b9e"), looks := true }, kinds := [], alts := [], laidByText := true, laidKinds := [.data], laidTests := true, laidLooks := .later }
def TopComparisonsRepeatedCardSaid : Prop := Claim7.holds Tryz.pinned (.plain (OpenSpec.ofChange topComparisonsRepeatedSpec)) topComparisonsRepeatedCard

/-- THE TIED CARD OF 'standbytop.TopFailbackTracked'. -/
def topFailbackTrackedCard : Claim7 := { stood := { row := topFailbackTrackedRow, standIns := [], harness := (true, "abb979726fb1b1111040af0fce3e5c0bc77d6678880eb71102c43da7dbb10b9e"), looks := true }, kinds := [], alts := [], laidByText := true, laidKinds := [.data], laidTests := true, laidLooks := .later }
def TopFailbackTrackedCardSaid : Prop := Claim7.holds Tryz.pinned (.plain (OpenSpec.ofChange topFailbackTrackedSpec)) topFailbackTrackedCard

/-- THE TIED CARD OF 'standbytop.TopComparisonsExact'. -/
def topComparisonsExactCard : Claim7 := { stood := { row := topComparisonsExactRow, standIns := [], harness := (true, "abb979726fb1b1111040af0fce3e5c0bc77d6678880eb71102c43da7dbb10b9e"), looks := true }, kinds := [], alts := [], laidByText := true, laidKinds := [.data], laidTests := true, laidLooks := .later }
def TopComparisonsExactCardSaid : Prop := Claim7.holds Tryz.pinned (.plain (OpenSpec.ofChange topComparisonsExactSpec)) topComparisonsExactCard

/-- THE TIED CARD OF 'standbytop.TopIntentsCleaned'. -/
def topIntentsCleanedCard : Claim7 := { stood := { row := topIntentsCleanedRow, standIns := [], harness := (true, "abb979726fb1b1111040af0fce3e5c0bc77d6678880eb71102c43da7dbb10b9e"), looks := true }, kinds := [], alts := [], laidByText := true, laidKinds := [.data], laidTests := true, laidLooks := .later }
def TopIntentsCleanedCardSaid : Prop := Claim7.holds Tryz.pinned (.plain (OpenSpec.ofChange topIntentsCleanedSpec)) topIntentsCleanedCard

/-- THE TIED CARD OF 'standbytop.TopIntentsResynced'. -/
def topIntentsResyncedCard : Claim7 := { stood := { row := topIntentsResyncedRow, standIns := [], harness := (true, "abb979726fb1b1111040af0fce3e5c0bc77d6678880eb71102c43da7dbb10b9e"), looks := true }, kinds := [], alts := [], laidByText := true, laidKinds := [.data], laidTests := true, laidLooks := .later }
def TopIntentsResyncedCardSaid : Prop := Claim7.holds Tryz.pinned (.plain (OpenSpec.ofChange topIntentsResyncedSpec)) topIntentsResyncedCard

/-- THE SECOND FORM's CARD OF 'standbytop.TopReturnedEqual'. -/
def topReturnedEqualUptoCard : Claim7 := { stood := { row := topReturnedEqualUptoRow, standIns := [], harness := (true, "abb979726fb1b1111040af0fce3e5c0bc77d6678880eb71102c43da7dbb10b9e"), looks := true }, kinds := [], alts := [], laidByText := true, laidKinds := [.data], laidTests := true, laidLooks := .later }
def TopReturnedEqualUptoCardSaid : Prop := Claim7.holds Tryz.pinned (.plain (OpenSpec.upto topReturnedEqualSpec)) topReturnedEqualUptoCard

/-- THE SECOND FORM's CARD OF 'standbytop.TopComparisonsRepeated'. -/
def topComparisonsRepeatedUptoCard : Claim7 := { stood := { row := topComparisonsRepeatedUptoRow, standIns := [], harness := (true, "abb979726fb1b1111040af0fce3e5c0bc77d6678880eb71102c43da7dbb10b9e"), looks := true }, kinds := [], alts := [], laidByText := true, laidKinds := [.data], laidTests := true, laidLooks := .later }
def TopComparisonsRepeatedUptoCardSaid : Prop := Claim7.holds Tryz.pinned (.plain (OpenSpec.upto topComparisonsRepeatedSpec)) topComparisonsRepeatedUptoCard

/-- THE SECOND FORM's CARD OF 'standbytop.TopFailbackTracked'. -/
def topFailbackTrackedUptoCard : Claim7 := { stood := { row := topFailbackTrackedUptoRow, standIns := [], harness := (true, "abb979726fb1b1111040af0fce3e5c0bc77d6678880eb71102c43da7dbb10b9e"), looks := true }, kinds := [], alts := [], laidByText := true, laidKinds := [.data], laidTests := true, laidLooks := .later }
def TopFailbackTrackedUptoCardSaid : Prop := Claim7.holds Tryz.pinned (.plain (OpenSpec.upto topFailbackTrackedSpec)) topFailbackTrackedUptoCard

/-- THE SECOND FORM's CARD OF 'standbytop.TopComparisonsExact'. -/
def topComparisonsExactUptoCard : Claim7 := { stood := { row := topComparisonsExactUptoRow, standIns := [], harness := (true, "abb979726fb1b1111040af0fce3e5c0bc77d6678880eb71102c43da7dbb10b9e"), looks := true }, kinds := [], alts := [], laidByText := true, laidKinds := [.data], laidTests := true, laidLooks := .later }
def TopComparisonsExactUptoCardSaid : Prop := Claim7.holds Tryz.pinned (.plain (OpenSpec.upto topComparisonsExactSpec)) topComparisonsExactUptoCard

/-- THE SECOND FORM's CARD OF 'standbytop.TopIntentsCleaned'. -/
def topIntentsCleanedUptoCard : Claim7 := { stood := { row := topIntentsCleanedUptoRow, standIns := [], harness := (true, "abb979726fb1b1111040af0fce3e5c0bc77d6678880eb71102c43da7dbb10b9e"), looks := true }, kinds := [], alts := [], laidByText := true, laidKinds := [.data], laidTests := true, laidLooks := .later }
def TopIntentsCleanedUptoCardSaid : Prop := Claim7.holds Tryz.pinned (.plain (OpenSpec.upto topIntentsCleanedSpec)) topIntentsCleanedUptoCard

/-- THE SECOND FORM's CARD OF 'standbytop.TopIntentsResynced'. -/
def topIntentsResyncedUptoCard : Claim7 := { stood := { row := topIntentsResyncedUptoRow, standIns := [], harness := (true, "abb979726fb1b1111040af0fce3e5c0bc77d6678880eb71102c43da7dbb10b9e"), looks := true }, kinds := [], alts := [], laidByText := true, laidKinds := [.data], laidTests := true, laidLooks := .later }
def TopIntentsResyncedUptoCardSaid : Prop := Claim7.holds Tryz.pinned (.plain (OpenSpec.upto topIntentsResyncedSpec)) topIntentsResyncedUptoCard
end Rows
end Go.Proofs.YthccglceomoboaaGreatDoor
