/-
  DERIVED. GIVEN WITH THE SEED: THE CARDS: each row of YtncobemfpammfaaDoorRows.lean that lists a variable, with what it lists TIED to the program's text (the seventh form; the later family's looks); each row that meets fmt, with fmt's text TOLD by the authors' own Lean function (tested against real Go, not proved from fmt's source: count such statements apart). THE CARD IS WHAT COUNTS. Prove the row's statement (the work); the ties are given (YtncobemfpammfaaDoorTie.lean); close each card by the builder's one call (the guide's Derived/Test/ToyasCard.lean, 'card_holds'). Laid BY PROGRAM, IN A SANDBOX (cutbox-door.mjs). By AI agents, Wed Nov 11 2026. No macro, syntax, notation, axiom, sorry.
-/
import Derived.Test.YtncobemfpammfaaDoorRows
import GoSem.ClaimSeven
namespace Go.Proofs.YtncobemfpammfaaDoor
namespace Rows

/-- THE TIED CARD OF 'standbylaw45.ResyncExtents'. -/
def resyncExtentsCard : Claim7 := { stood := { row := resyncExtentsRow, standIns := [], harness := (true, "229c6ed10e7d46d9a26bda85767c352a21f442b4da779be79269f28901bdecb6"), looks := false }, kinds := [], alts := [], laidByText := true, laidKinds := [.data], laidTests := true, laidLooks := .later }
def ResyncExtentsCardSaid : Prop := Claim7.holds Tryd.pinned (.plain (OpenSpec.ofChange resyncExtentsSpec)) resyncExtentsCard

/-- THE SECOND FORM's CARD OF 'standbylaw45.ResyncExtents'. -/
def resyncExtentsUptoCard : Claim7 := { stood := { row := resyncExtentsUptoRow, standIns := [], harness := (true, "229c6ed10e7d46d9a26bda85767c352a21f442b4da779be79269f28901bdecb6"), looks := false }, kinds := [], alts := [], laidByText := true, laidKinds := [.data], laidTests := true, laidLooks := .later }
def ResyncExtentsUptoCardSaid : Prop := Claim7.holds Tryd.pinned (.plain (OpenSpec.upto resyncExtentsSpec)) resyncExtentsUptoCard
end Rows
end Go.Proofs.YtncobemfpammfaaDoor
