/-
  DERIVED. GIVEN WITH THE SEED: THE CARDS: each row of YtncobemfpammfaaGreatDoorRows.lean that lists a variable, with what it lists TIED to the program's text (the seventh form; the later family's looks); each row that meets fmt, with fmt's text TOLD by the authors' own Lean function (tested against real Go, not proved from fmt's source: count such statements apart). THE CARD IS WHAT COUNTS. Prove the row's statement (the work); the ties are given (YtncobemfpammfaaGreatDoorTie.lean); close each card by the builder's one call (the guide's Derived/Test/ToyasCard.lean, 'card_holds'). Laid BY PROGRAM, IN A SANDBOX (cutbox-door.mjs). By AI agents, Wed Nov 11 2026. No macro, syntax, notation, axiom, sorry.
-/
import Derived.Test.YtncobemfpammfaaGreatDoorRows
import GoSem.ClaimSeven
namespace Go.Proofs.YtncobemfpammfaaGreatDoor
namespace Rows

/-- THE TIED CARD OF 'standbylaw45.ResyncCovers'. -/
def resyncCoversCard : Claim7 := { stood := { row := resyncCoversRow, standIns := [], harness := (true, "16f2e1b509ca7233e50c405902116ad9159612f429a3803b3bb2add176463c92"), looks := false }, kinds := [], alts := [], laidByText := true, laidKinds := [.data], laidTests := true, laidLooks := .later }
def ResyncCoversCardSaid : Prop := Claim7.holds Tryz.pinned (.plain (OpenSpec.ofChange resyncCoversSpec)) resyncCoversCard

/-- THE SECOND FORM's CARD OF 'standbylaw45.ResyncCovers'. -/
def resyncCoversUptoCard : Claim7 := { stood := { row := resyncCoversUptoRow, standIns := [], harness := (true, "16f2e1b509ca7233e50c405902116ad9159612f429a3803b3bb2add176463c92"), looks := false }, kinds := [], alts := [], laidByText := true, laidKinds := [.data], laidTests := true, laidLooks := .later }
def ResyncCoversUptoCardSaid : Prop := Claim7.holds Tryz.pinned (.plain (OpenSpec.upto resyncCoversSpec)) resyncCoversUptoCard
end Rows
end Go.Proofs.YtncobemfpammfaaGreatDoor
