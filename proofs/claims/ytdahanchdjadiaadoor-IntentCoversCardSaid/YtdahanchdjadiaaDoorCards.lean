/-
  DERIVED. GIVEN WITH THE SEED: THE CARDS: each row of YtdahanchdjadiaaDoorRows.lean that lists a variable, with what it lists TIED to the program's text (the seventh form; the later family's looks); each row that meets fmt, with fmt's text TOLD by the authors' own Lean function (tested against real Go, not proved from fmt's source: count such statements apart). THE CARD IS WHAT COUNTS. Prove the row's statement (the work); the ties are given (YtdahanchdjadiaaDoorTie.lean); close each card by the builder's one call (the guide's Derived/Test/ToyasCard.lean, 'card_holds'). Laid BY PROGRAM, IN A SANDBOX (cutbox-door.mjs). By AI agents, Wed Nov 11 2026. No macro, syntax, notation, axiom, sorry.
-/
import Derived.Test.YtdahanchdjadiaaDoorRows
import GoSem.ClaimSeven
namespace Go.Proofs.YtdahanchdjadiaaDoor
namespace Rows

/-- THE TIED CARD OF 'standbylaw17.IntentMakes'. -/
def intentMakesCard : Claim7 := { stood := { row := intentMakesRow, standIns := [], harness := (true, "49438e9591ea26911e818077b680d5e3be7705547f4d454522c4d618448ad0d9"), looks := false }, kinds := [], alts := [], laidByText := true, laidKinds := [.data], laidTests := true, laidLooks := .later }
def IntentMakesCardSaid : Prop := Claim7.holds Tryd.pinned (.plain (OpenSpec.ofChange intentMakesSpec)) intentMakesCard

/-- THE TIED CARD OF 'standbylaw17.IntentCovers'. -/
def intentCoversCard : Claim7 := { stood := { row := intentCoversRow, standIns := [], harness := (true, "49438e9591ea26911e818077b680d5e3be7705547f4d454522c4d618448ad0d9"), looks := false }, kinds := [], alts := [], laidByText := true, laidKinds := [.data], laidTests := true, laidLooks := .later }
def IntentCoversCardSaid : Prop := Claim7.holds Tryd.pinned (.plain (OpenSpec.ofChange intentCoversSpec)) intentCoversCard

/-- THE TIED CARD OF 'standbylaw17.IntentRemembers'. -/
def intentRemembersCard : Claim7 := { stood := { row := intentRemembersRow, standIns := [], harness := (true, "49438e9591ea26911e818077b680d5e3be7705547f4d454522c4d618448ad0d9"), looks := false }, kinds := [], alts := [], laidByText := true, laidKinds := [.data], laidTests := true, laidLooks := .later }
def IntentRemembersCardSaid : Prop := Claim7.holds Tryd.pinned (.plain (OpenSpec.ofChange intentRemembersSpec)) intentRemembersCard

/-- THE TIED CARD OF 'standbylaw17.IntentReturns'. -/
def intentReturnsCard : Claim7 := { stood := { row := intentReturnsRow, standIns := [], harness := (true, "49438e9591ea26911e818077b680d5e3be7705547f4d454522c4d618448ad0d9"), looks := false }, kinds := [], alts := [], laidByText := true, laidKinds := [.data], laidTests := true, laidLooks := .later }
def IntentReturnsCardSaid : Prop := Claim7.holds Tryd.pinned (.plain (OpenSpec.ofChange intentReturnsSpec)) intentReturnsCard

/-- THE TIED CARD OF 'standbylaw17.IntentEncodes'. -/
def intentEncodesCard : Claim7 := { stood := { row := intentEncodesRow, standIns := [], harness := (true, "49438e9591ea26911e818077b680d5e3be7705547f4d454522c4d618448ad0d9"), looks := false }, kinds := [], alts := [], laidByText := true, laidKinds := [.data], laidTests := true, laidLooks := .later }
def IntentEncodesCardSaid : Prop := Claim7.holds Tryd.pinned (.plain (OpenSpec.ofChange intentEncodesSpec)) intentEncodesCard

/-- THE SECOND FORM's CARD OF 'standbylaw17.IntentMakes'. -/
def intentMakesUptoCard : Claim7 := { stood := { row := intentMakesUptoRow, standIns := [], harness := (true, "49438e9591ea26911e818077b680d5e3be7705547f4d454522c4d618448ad0d9"), looks := false }, kinds := [], alts := [], laidByText := true, laidKinds := [.data], laidTests := true, laidLooks := .later }
def IntentMakesUptoCardSaid : Prop := Claim7.holds Tryd.pinned (.plain (OpenSpec.upto intentMakesSpec)) intentMakesUptoCard

/-- THE SECOND FORM's CARD OF 'standbylaw17.IntentCovers'. -/
def intentCoversUptoCard : Claim7 := { stood := { row := intentCoversUptoRow, standIns := [], harness := (true, "49438e9591ea26911e818077b680d5e3be7705547f4d454522c4d618448ad0d9"), looks := false }, kinds := [], alts := [], laidByText := true, laidKinds := [.data], laidTests := true, laidLooks := .later }
def IntentCoversUptoCardSaid : Prop := Claim7.holds Tryd.pinned (.plain (OpenSpec.upto intentCoversSpec)) intentCoversUptoCard

/-- THE SECOND FORM's CARD OF 'standbylaw17.IntentRemembers'. -/
def intentRemembersUptoCard : Claim7 := { stood := { row := intentRemembersUptoRow, standIns := [], harness := (true, "49438e9591ea26911e818077b680d5e3be7705547f4d454522c4d618448ad0d9"), looks := false }, kinds := [], alts := [], laidByText := true, laidKinds := [.data], laidTests := true, laidLooks := .later }
def IntentRemembersUptoCardSaid : Prop := Claim7.holds Tryd.pinned (.plain (OpenSpec.upto intentRemembersSpec)) intentRemembersUptoCard

/-- THE SECOND FORM's CARD OF 'standbylaw17.IntentReturns'. -/
def intentReturnsUptoCard : Claim7 := { stood := { row := intentReturnsUptoRow, standIns := [], harness := (true, "49438e9591ea26911e818077b680d5e3be7705547f4d454522c4d618448ad0d9"), looks := false }, kinds := [], alts := [], laidByText := true, laidKinds := [.data], laidTests := true, laidLooks := .later }
def IntentReturnsUptoCardSaid : Prop := Claim7.holds Tryd.pinned (.plain (OpenSpec.upto intentReturnsSpec)) intentReturnsUptoCard

/-- THE SECOND FORM's CARD OF 'standbylaw17.IntentEncodes'. -/
def intentEncodesUptoCard : Claim7 := { stood := { row := intentEncodesUptoRow, standIns := [], harness := (true, "49438e9591ea26911e818077b680d5e3be7705547f4d454522c4d618448ad0d9"), looks := false }, kinds := [], alts := [], laidByText := true, laidKinds := [.data], laidTests := true, laidLooks := .later }
def IntentEncodesUptoCardSaid : Prop := Claim7.holds Tryd.pinned (.plain (OpenSpec.upto intentEncodesSpec)) intentEncodesUptoCard
end Rows
end Go.Proofs.YtdahanchdjadiaaDoor
