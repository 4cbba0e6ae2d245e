/-
  DERIVED. GIVEN WITH THE SEED: THE CARDS: each row of YtdahanchdjadiaaGreatDoorRows.lean that lists a variable, with what it lists TIED to the program's text (the seventh form; the later family's looks); each row that meets fmt, with fmt's text TOLD by the authors' own Lean function (tested against real Go, not proved from fmt's source: count such statements apart). THE CARD IS WHAT COUNTS. Prove the row's statement (the work); the ties are given (YtdahanchdjadiaaGreatDoorTie.lean); close each card by the builder's one call (the guide's Derived/Test/ToyasCard.lean, 'card_holds'). Laid BY PROGRAM, IN A SANDBOX (cutbox-door.mjs). By AI agents, Wed Nov 11 2026. No macro, syntax, notation, axiom, sorry.
-/
import Derived.Test.YtdahanchdjadiaaGreatDoorRows
import GoSem.ClaimSeven
namespace Go.Proofs.YtdahanchdjadiaaGreatDoor
namespace Rows

/-- THE TIED CARD OF 'standbylaw17.IntentBegins'. -/
def intentBeginsCard : Claim7 := { stood := { row := intentBeginsRow, standIns := [], harness := (true, "437de80261e63f63d055e8487e3c9a309605e4fa54ea2719e372e137d637f8e8"), looks := false }, kinds := [], alts := [], laidByText := true, laidKinds := [.data], laidTests := true, laidLooks := .later }
def IntentBeginsCardSaid : Prop := Claim7.holds Tryz.pinned (.plain (OpenSpec.ofChange intentBeginsSpec)) intentBeginsCard

/-- THE TIED CARD OF 'standbylaw17.IntentRecovers'. -/
def intentRecoversCard : Claim7 := { stood := { row := intentRecoversRow, standIns := [], harness := (true, "437de80261e63f63d055e8487e3c9a309605e4fa54ea2719e372e137d637f8e8"), looks := false }, kinds := [], alts := [], laidByText := true, laidKinds := [.data], laidTests := true, laidLooks := .later }
def IntentRecoversCardSaid : Prop := Claim7.holds Tryz.pinned (.plain (OpenSpec.ofChange intentRecoversSpec)) intentRecoversCard

/-- THE SECOND FORM's CARD OF 'standbylaw17.IntentBegins'. -/
def intentBeginsUptoCard : Claim7 := { stood := { row := intentBeginsUptoRow, standIns := [], harness := (true, "437de80261e63f63d055e8487e3c9a309605e4fa54ea2719e372e137d637f8e8"), looks := false }, kinds := [], alts := [], laidByText := true, laidKinds := [.data], laidTests := true, laidLooks := .later }
def IntentBeginsUptoCardSaid : Prop := Claim7.holds Tryz.pinned (.plain (OpenSpec.upto intentBeginsSpec)) intentBeginsUptoCard

/-- THE SECOND FORM's CARD OF 'standbylaw17.IntentRecovers'. -/
def intentRecoversUptoCard : Claim7 := { stood := { row := intentRecoversUptoRow, standIns := [], harness := (true, "437de80261e63f63d055e8487e3c9a309605e4fa54ea2719e372e137d637f8e8"), looks := false }, kinds := [], alts := [], laidByText := true, laidKinds := [.data], laidTests := true, laidLooks := .later }
def IntentRecoversUptoCardSaid : Prop := Claim7.holds Tryz.pinned (.plain (OpenSpec.upto intentRecoversSpec)) intentRecoversUptoCard
end Rows
end Go.Proofs.YtdahanchdjadiaaGreatDoor
