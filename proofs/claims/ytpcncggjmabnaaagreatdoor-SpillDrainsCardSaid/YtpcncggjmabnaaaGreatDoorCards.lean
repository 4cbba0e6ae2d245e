/-
  DERIVED. GIVEN WITH THE SEED: THE CARDS: each row of YtpcncggjmabnaaaGreatDoorRows.lean that lists a variable, with what it lists TIED to the program's text (the seventh form; the later family's looks); each row that meets fmt, with fmt's text TOLD by the authors' own Lean function (tested against real Go, not proved from fmt's source: count such statements apart). THE CARD IS WHAT COUNTS. Prove the row's statement (the work); the ties are given (YtpcncggjmabnaaaGreatDoorTie.lean); close each card by the builder's one call (the guide's Derived/Test/ToyasCard.lean, 'card_holds'). Laid BY PROGRAM, IN A SANDBOX (cutbox-door.mjs). By AI agents, Wed Nov 11 2026. No macro, syntax, notation, axiom, sorry.
-/
import Derived.Test.YtpcncggjmabnaaaGreatDoorRows
import GoSem.ClaimSeven
namespace Go.Proofs.YtpcncggjmabnaaaGreatDoor
namespace Rows

/-- THE TIED CARD OF 'standbylaw24.SpillMakes'. -/
def spillMakesCard : Claim7 := { stood := { row := spillMakesRow, standIns := [], harness := (true, "bf296821d70fcdc8e88cd7b1db49e08af9d5be7a90e399ce61f1d82e1c1cfed8"), looks := false }, kinds := [], alts := [], laidByText := true, laidKinds := [.data], laidTests := true, laidLooks := .later }
def SpillMakesCardSaid : Prop := Claim7.holds Tryz.pinned (.plain (OpenSpec.ofChange spillMakesSpec)) spillMakesCard

/-- THE TIED CARD OF 'standbylaw24.SpillPushes'. -/
def spillPushesCard : Claim7 := { stood := { row := spillPushesRow, standIns := [], harness := (true, "bf296821d70fcdc8e88cd7b1db49e08af9d5be7a90e399ce61f1d82e1c1cfed8"), looks := false }, kinds := [], alts := [], laidByText := true, laidKinds := [.data], laidTests := true, laidLooks := .later }
def SpillPushesCardSaid : Prop := Claim7.holds Tryz.pinned (.plain (OpenSpec.ofChange spillPushesSpec)) spillPushesCard

/-- THE TIED CARD OF 'standbylaw24.SpillPops'. -/
def spillPopsCard : Claim7 := { stood := { row := spillPopsRow, standIns := [], harness := (true, "bf296821d70fcdc8e88cd7b1db49e08af9d5be7a90e399ce61f1d82e1c1cfed8"), looks := false }, kinds := [], alts := [], laidByText := true, laidKinds := [.data], laidTests := true, laidLooks := .later }
def SpillPopsCardSaid : Prop := Claim7.holds Tryz.pinned (.plain (OpenSpec.ofChange spillPopsSpec)) spillPopsCard

/-- THE TIED CARD OF 'standbylaw24.SpillDrains'. -/
def spillDrainsCard : Claim7 := { stood := { row := spillDrainsRow, standIns := [], harness := (true, "bf296821d70fcdc8e88cd7b1db49e08af9d5be7a90e399ce61f1d82e1c1cfed8"), looks := false }, kinds := [], alts := [], laidByText := true, laidKinds := [.data], laidTests := true, laidLooks := .later }
def SpillDrainsCardSaid : Prop := Claim7.holds Tryz.pinned (.plain (OpenSpec.ofChange spillDrainsSpec)) spillDrainsCard

/-- THE TIED CARD OF 'standbylaw24.SpillKeeps'. -/
def spillKeepsCard : Claim7 := { stood := { row := spillKeepsRow, standIns := [], harness := (true, "bf296821d70fcdc8e88cd7b1db49e08af9d5be7a90e399ce61f1d82e1c1cfed8"), looks := false }, kinds := [], alts := [], laidByText := true, laidKinds := [.data], laidTests := true, laidLooks := .later }
def SpillKeepsCardSaid : Prop := Claim7.holds Tryz.pinned (.plain (OpenSpec.ofChange spillKeepsSpec)) spillKeepsCard

/-- THE TIED CARD OF 'standbylaw24.SpillLimits'. -/
def spillLimitsCard : Claim7 := { stood := { row := spillLimitsRow, standIns := [], harness := (true, "bf296821d70fcdc8e88cd7b1db49e08af9d5be7a90e399ce61f1d82e1c1cfed8"), looks := false }, kinds := [], alts := [], laidByText := true, laidKinds := [.data], laidTests := true, laidLooks := .later }
def SpillLimitsCardSaid : Prop := Claim7.holds Tryz.pinned (.plain (OpenSpec.ofChange spillLimitsSpec)) spillLimitsCard

/-- THE TIED CARD OF 'standbylaw24.SpillTransfers'. -/
def spillTransfersCard : Claim7 := { stood := { row := spillTransfersRow, standIns := [], harness := (true, "bf296821d70fcdc8e88cd7b1db49e08af9d5be7a90e399ce61f1d82e1c1cfed8"), looks := false }, kinds := [], alts := [], laidByText := true, laidKinds := [.data], laidTests := true, laidLooks := .later }
def SpillTransfersCardSaid : Prop := Claim7.holds Tryz.pinned (.plain (OpenSpec.ofChange spillTransfersSpec)) spillTransfersCard

/-- THE SECOND FORM's CARD OF 'standbylaw24.SpillMakes'. -/
def spillMakesUptoCard : Claim7 := { stood := { row := spillMakesUptoRow, standIns := [], harness := (true, "bf296821d70fcdc8e88cd7b1db49e08af9d5be7a90e399ce61f1d82e1c1cfed8"), looks := false }, kinds := [], alts := [], laidByText := true, laidKinds := [.data], laidTests := true, laidLooks := .later }
def SpillMakesUptoCardSaid : Prop := Claim7.holds Tryz.pinned (.plain (OpenSpec.upto spillMakesSpec)) spillMakesUptoCard

/-- THE SECOND FORM's CARD OF 'standbylaw24.SpillPushes'. -/
def spillPushesUptoCard : Claim7 := { stood := { row := spillPushesUptoRow, standIns := [], harness := (true, "bf296821d70fcdc8e88cd7b1db49e08af9d5be7a90e399ce61f1d82e1c1cfed8"), looks := false }, kinds := [], alts := [], laidByText := true, laidKinds := [.data], laidTests := true, laidLooks := .later }
def SpillPushesUptoCardSaid : Prop := Claim7.holds Tryz.pinned (.plain (OpenSpec.upto spillPushesSpec)) spillPushesUptoCard

/-- THE SECOND FORM's CARD OF 'standbylaw24.SpillPops'. -/
def spillPopsUptoCard : Claim7 := { stood := { row := spillPopsUptoRow, standIns := [], harness := (true, "bf296821d70fcdc8e88cd7b1db49e08af9d5be7a90e399ce61f1d82e1c1cfed8"), looks := false }, kinds := [], alts := [], laidByText := true, laidKinds := [.data], laidTests := true, laidLooks := .later }
def SpillPopsUptoCardSaid : Prop := Claim7.holds Tryz.pinned (.plain (OpenSpec.upto spillPopsSpec)) spillPopsUptoCard

/-- THE SECOND FORM's CARD OF 'standbylaw24.SpillDrains'. -/
def spillDrainsUptoCard : Claim7 := { stood := { row := spillDrainsUptoRow, standIns := [], harness := (true, "bf296821d70fcdc8e88cd7b1db49e08af9d5be7a90e399ce61f1d82e1c1cfed8"), looks := false }, kinds := [], alts := [], laidByText := true, laidKinds := [.data], laidTests := true, laidLooks := .later }
def SpillDrainsUptoCardSaid : Prop := Claim7.holds Tryz.pinned (.plain (OpenSpec.upto spillDrainsSpec)) spillDrainsUptoCard

/-- THE SECOND FORM's CARD OF 'standbylaw24.SpillKeeps'. -/
def spillKeepsUptoCard : Claim7 := { stood := { row := spillKeepsUptoRow, standIns := [], harness := (true, "bf296821d70fcdc8e88cd7b1db49e08af9d5be7a90e399ce61f1d82e1c1cfed8"), looks := false }, kinds := [], alts := [], laidByText := true, laidKinds := [.data], laidTests := true, laidLooks := .later }
def SpillKeepsUptoCardSaid : Prop := Claim7.holds Tryz.pinned (.plain (OpenSpec.upto spillKeepsSpec)) spillKeepsUptoCard

/-- THE SECOND FORM's CARD OF 'standbylaw24.SpillLimits'. -/
def spillLimitsUptoCard : Claim7 := { stood := { row := spillLimitsUptoRow, standIns := [], harness := (true, "bf296821d70fcdc8e88cd7b1db49e08af9d5be7a90e399ce61f1d82e1c1cfed8"), looks := false }, kinds := [], alts := [], laidByText := true, laidKinds := [.data], laidTests := true, laidLooks := .later }
def SpillLimitsUptoCardSaid : Prop := Claim7.holds Tryz.pinned (.plain (OpenSpec.upto spillLimitsSpec)) spillLimitsUptoCard

/-- THE SECOND FORM's CARD OF 'standbylaw24.SpillTransfers'. -/
def spillTransfersUptoCard : Claim7 := { stood := { row := spillTransfersUptoRow, standIns := [], harness := (true, "bf296821d70fcdc8e88cd7b1db49e08af9d5be7a90e399ce61f1d82e1c1cfed8"), looks := false }, kinds := [], alts := [], laidByText := true, laidKinds := [.data], laidTests := true, laidLooks := .later }
def SpillTransfersUptoCardSaid : Prop := Claim7.holds Tryz.pinned (.plain (OpenSpec.upto spillTransfersSpec)) spillTransfersUptoCard
end Rows
end Go.Proofs.YtpcncggjmabnaaaGreatDoor
