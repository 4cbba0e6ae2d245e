/-
  DERIVED. GIVEN WITH THE SEED: THE CARDS: each row of YtioijcfcehhmdaaGreatDoorRows.lean that lists a variable, with what it lists TIED to the program's text (the seventh form; the later family's looks); each row that meets fmt, with fmt's text TOLD by the authors' own Lean function (tested against real Go, not proved from fmt's source: count such statements apart). THE CARD IS WHAT COUNTS. Prove the row's statement (the work); the ties are given (YtioijcfcehhmdaaGreatDoorTie.lean); close each card by the builder's one call (the guide's Derived/Test/ToyasCard.lean, 'card_holds'). Laid BY PROGRAM, IN A SANDBOX (cutbox-door.mjs). By AI agents, Wed Nov 11 2026. No macro, syntax, notation, axiom, sorry.
-/
import Derived.Test.YtioijcfcehhmdaaGreatDoorRows
import GoSem.ClaimSeven
namespace Go.Proofs.YtioijcfcehhmdaaGreatDoor
namespace Rows

/-- THE TIED CARD OF 'standbylaw48.FailbackRounds'. -/
def failbackRoundsCard : Claim7 := { stood := { row := failbackRoundsRow, standIns := [], harness := (true, "ffcf6f4e7a4f33a6341952a0478b580e483309941a4e325ba44fcfa943e68d86"), looks := true }, kinds := [], alts := [], laidByText := true, laidKinds := [.data], laidTests := true, laidLooks := .later }
def FailbackRoundsCardSaid : Prop := Claim7.holds Tryz.pinned (.plain (OpenSpec.ofChange failbackRoundsSpec)) failbackRoundsCard

/-- THE TIED CARD OF 'standbylaw48.FailbackEnds'. -/
def failbackEndsCard : Claim7 := { stood := { row := failbackEndsRow, standIns := [], harness := (true, "ffcf6f4e7a4f33a6341952a0478b580e483309941a4e325ba44fcfa943e68d86"), looks := true }, kinds := [], alts := [], laidByText := true, laidKinds := [.data], laidTests := true, laidLooks := .later }
def FailbackEndsCardSaid : Prop := Claim7.holds Tryz.pinned (.plain (OpenSpec.ofChange failbackEndsSpec)) failbackEndsCard

/-- THE TIED CARD OF 'standbylaw48.FailbackCounts'. -/
def failbackCountsCard : Claim7 := { stood := { row := failbackCountsRow, standIns := [], harness := (true, "ffcf6f4e7a4f33a6341952a0478b580e483309941a4e325ba44fcfa943e68d86"), looks := true }, kinds := [], alts := [], laidByText := true, laidKinds := [.data], laidTests := true, laidLooks := .later }
def FailbackCountsCardSaid : Prop := Claim7.holds Tryz.pinned (.plain (OpenSpec.ofChange failbackCountsSpec)) failbackCountsCard

/-- THE TIED CARD OF 'standbylaw48.FailbackRefuses'. -/
def failbackRefusesCard : Claim7 := { stood := { row := failbackRefusesRow, standIns := [], harness := (true, "ffcf6f4e7a4f33a6341952a0478b580e483309941a4e325ba44fcfa943e68d86"), looks := true }, kinds := [], alts := [], laidByText := true, laidKinds := [.data], laidTests := true, laidLooks := .later }
def FailbackRefusesCardSaid : Prop := Claim7.holds Tryz.pinned (.plain (OpenSpec.ofChange failbackRefusesSpec)) failbackRefusesCard

/-- THE TIED CARD OF 'standbylaw48.FailbackBegins'. -/
def failbackBeginsCard : Claim7 := { stood := { row := failbackBeginsRow, standIns := [], harness := (true, "ffcf6f4e7a4f33a6341952a0478b580e483309941a4e325ba44fcfa943e68d86"), looks := true }, kinds := [], alts := [], laidByText := true, laidKinds := [.data], laidTests := true, laidLooks := .later }
def FailbackBeginsCardSaid : Prop := Claim7.holds Tryz.pinned (.plain (OpenSpec.ofChange failbackBeginsSpec)) failbackBeginsCard

/-- THE TIED CARD OF 'standbylaw48.FailbackCovers'. -/
def failbackCoversCard : Claim7 := { stood := { row := failbackCoversRow, standIns := [], harness := (true, "ffcf6f4e7a4f33a6341952a0478b580e483309941a4e325ba44fcfa943e68d86"), looks := true }, kinds := [], alts := [], laidByText := true, laidKinds := [.data], laidTests := true, laidLooks := .later }
def FailbackCoversCardSaid : Prop := Claim7.holds Tryz.pinned (.plain (OpenSpec.ofChange failbackCoversSpec)) failbackCoversCard

/-- THE TIED CARD OF 'standbylaw48.FailbackEquals'. -/
def failbackEqualsCard : Claim7 := { stood := { row := failbackEqualsRow, standIns := [], harness := (true, "ffcf6f4e7a4f33a6341952a0478b580e483309941a4e325ba44fcfa943e68d86"), looks := true }, kinds := [], alts := [], laidByText := true, laidKinds := [.data], laidTests := true, laidLooks := .later }
def FailbackEqualsCardSaid : Prop := Claim7.holds Tryz.pinned (.plain (OpenSpec.ofChange failbackEqualsSpec)) failbackEqualsCard

/-- THE SECOND FORM's CARD OF 'standbylaw48.FailbackRounds'. -/
def failbackRoundsUptoCard : Claim7 := { stood := { row := failbackRoundsUptoRow, standIns := [], harness := (true, "ffcf6f4e7a4f33a6341952a0478b580e483309941a4e325ba44fcfa943e68d86"), looks := true }, kinds := [], alts := [], laidByText := true, laidKinds := [.data], laidTests := true, laidLooks := .later }
def FailbackRoundsUptoCardSaid : Prop := Claim7.holds Tryz.pinned (.plain (OpenSpec.upto failbackRoundsSpec)) failbackRoundsUptoCard

/-- THE SECOND FORM's CARD OF 'standbylaw48.FailbackEnds'. -/
def failbackEndsUptoCard : Claim7 := { stood := { row := failbackEndsUptoRow, standIns := [], harness := (true, "ffcf6f4e7a4f33a6341952a0478b580e483309941a4e325ba44fcfa943e68d86"), looks := true }, kinds := [], alts := [], laidByText := true, laidKinds := [.data], laidTests := true, laidLooks := .later }
def FailbackEndsUptoCardSaid : Prop := Claim7.holds Tryz.pinned (.plain (OpenSpec.upto failbackEndsSpec)) failbackEndsUptoCard

/-- THE SECOND FORM's CARD OF 'standbylaw48.FailbackCounts'. -/
def failbackCountsUptoCard : Claim7 := { stood := { row := failbackCountsUptoRow, standIns := [], harness := (true, "ffcf6f4e7a4f33a6341952a0478b580e483309941a4e325ba44fcfa943e68d86"), looks := true }, kinds := [], alts := [], laidByText := true, laidKinds := [.data], laidTests := true, laidLooks := .later }
def FailbackCountsUptoCardSaid : Prop := Claim7.holds Tryz.pinned (.plain (OpenSpec.upto failbackCountsSpec)) failbackCountsUptoCard

/-- THE SECOND FORM's CARD OF 'standbylaw48.FailbackRefuses'. -/
def failbackRefusesUptoCard : Claim7 := { stood := { row := failbackRefusesUptoRow, standIns := [], harness := (true, "ffcf6f4e7a4f33a6341952a0478b580e483309941a4e325ba44fcfa943e68d86"), looks := true }, kinds := [], alts := [], laidByText := true, laidKinds := [.data], laidTests := true, laidLooks := .later }
def FailbackRefusesUptoCardSaid : Prop := Claim7.holds Tryz.pinned (.plain (OpenSpec.upto failbackRefusesSpec)) failbackRefusesUptoCard

/-- THE SECOND FORM's CARD OF 'standbylaw48.FailbackBegins'. -/
def failbackBeginsUptoCard : Claim7 := { stood := { row := failbackBeginsUptoRow, standIns := [], harness := (true, "ffcf6f4e7a4f33a6341952a0478b580e483309941a4e325ba44fcfa943e68d86"), looks := true }, kinds := [], alts := [], laidByText := true, laidKinds := [.data], laidTests := true, laidLooks := .later }
def FailbackBeginsUptoCardSaid : Prop := Claim7.holds Tryz.pinned (.plain (OpenSpec.upto failbackBeginsSpec)) failbackBeginsUptoCard

/-- THE SECOND FORM's CARD OF 'standbylaw48.FailbackCovers'. -/
def failbackCoversUptoCard : Claim7 := { stood := { row := failbackCoversUptoRow, standIns := [], harness := (true, "ffcf6f4e7a4f33a6341952a0478b580e483309941a4e325ba44fcfa943e68d86"), looks := true }, kinds := [], alts := [], laidByText := true, laidKinds := [.data], laidTests := true, laidLooks := .later }
def FailbackCoversUptoCardSaid : Prop := Claim7.holds Tryz.pinned (.plain (OpenSpec.upto failbackCoversSpec)) failbackCoversUptoCard

/-- THE SECOND FORM's CARD OF 'standbylaw48.FailbackEquals'. -/
def failbackEqualsUptoCard : Claim7 := { stood := { row := failbackEqualsUptoRow, standIns := [], harness := (true, "ffcf6f4e7a4f33a6341952a0478b580e483309941a4e325ba44fcfa943e68d86"), looks := true }, kinds := [], alts := [], laidByText := true, laidKinds := [.data], laidTests := true, laidLooks := .later }
def FailbackEqualsUptoCardSaid : Prop := Claim7.holds Tryz.pinned (.plain (OpenSpec.upto failbackEqualsSpec)) failbackEqualsUptoCard
end Rows
end Go.Proofs.YtioijcfcehhmdaaGreatDoor
