/-
  DERIVED. GIVEN WITH THE SEED: THE CARDS: each row of YtaaokejjmdbfaaaDoorRows.lean that lists a variable, with what it lists TIED to the program's text (the seventh form; the later family's looks); each row that meets fmt, with fmt's text TOLD by the authors' own Lean function (tested against real Go, not proved from fmt's source: count such statements apart). THE CARD IS WHAT COUNTS. Prove the row's statement (the work); the ties are given (YtaaokejjmdbfaaaDoorTie.lean); close each card by the builder's one call (the guide's Derived/Test/ToyasCard.lean, 'card_holds'). Laid BY PROGRAM, IN A SANDBOX (cutbox-door.mjs). By AI agents, Wed Nov 11 2026. No macro, syntax, notation, axiom, sorry.
-/
import Derived.Test.YtaaokejjmdbfaaaDoorRows
import GoSem.ClaimSeven
namespace Go.Proofs.YtaaokejjmdbfaaaDoor
namespace Rows

/-- THE TIED CARD OF 'standbylaw46.DeltaChecks'. -/
def deltaChecksCard : Claim7 := { stood := { row := deltaChecksRow, standIns := [], harness := (true, "10720a8b879c35398b33fc1a7f706ff7f3b9b0a1fd9d586e9f2e2b01fab8713b"), looks := false }, kinds := [], alts := [], laidByText := true, laidKinds := [.data], laidTests := true, laidLooks := .later }
def DeltaChecksCardSaid : Prop := Claim7.holds Tryd.pinned (.plain (OpenSpec.ofChange deltaChecksSpec)) deltaChecksCard

/-- THE TIED CARD OF 'standbylaw46.DeltaAncestors'. -/
def deltaAncestorsCard : Claim7 := { stood := { row := deltaAncestorsRow, standIns := [], harness := (true, "10720a8b879c35398b33fc1a7f706ff7f3b9b0a1fd9d586e9f2e2b01fab8713b"), looks := false }, kinds := [], alts := [], laidByText := true, laidKinds := [.data], laidTests := true, laidLooks := .later }
def DeltaAncestorsCardSaid : Prop := Claim7.holds Tryd.pinned (.plain (OpenSpec.ofChange deltaAncestorsSpec)) deltaAncestorsCard

/-- THE TIED CARD OF 'standbylaw46.DeltaChooses'. -/
def deltaChoosesCard : Claim7 := { stood := { row := deltaChoosesRow, standIns := [], harness := (true, "10720a8b879c35398b33fc1a7f706ff7f3b9b0a1fd9d586e9f2e2b01fab8713b"), looks := false }, kinds := [], alts := [], laidByText := true, laidKinds := [.data], laidTests := true, laidLooks := .later }
def DeltaChoosesCardSaid : Prop := Claim7.holds Tryd.pinned (.plain (OpenSpec.ofChange deltaChoosesSpec)) deltaChoosesCard

/-- THE TIED CARD OF 'standbylaw46.DeltaTransfers'. -/
def deltaTransfersCard : Claim7 := { stood := { row := deltaTransfersRow, standIns := [], harness := (true, "10720a8b879c35398b33fc1a7f706ff7f3b9b0a1fd9d586e9f2e2b01fab8713b"), looks := false }, kinds := [], alts := [], laidByText := true, laidKinds := [.data], laidTests := true, laidLooks := .later }
def DeltaTransfersCardSaid : Prop := Claim7.holds Tryd.pinned (.plain (OpenSpec.ofChange deltaTransfersSpec)) deltaTransfersCard

/-- THE TIED CARD OF 'standbylaw46.DeltaNewest'. -/
def deltaNewestCard : Claim7 := { stood := { row := deltaNewestRow, standIns := [], harness := (true, "10720a8b879c35398b33fc1a7f706ff7f3b9b0a1fd9d586e9f2e2b01fab8713b"), looks := false }, kinds := [], alts := [], laidByText := true, laidKinds := [.data], laidTests := true, laidLooks := .later }
def DeltaNewestCardSaid : Prop := Claim7.holds Tryd.pinned (.plain (OpenSpec.ofChange deltaNewestSpec)) deltaNewestCard

/-- THE TIED CARD OF 'standbylaw46.DeltaCommon'. -/
def deltaCommonCard : Claim7 := { stood := { row := deltaCommonRow, standIns := [], harness := (true, "10720a8b879c35398b33fc1a7f706ff7f3b9b0a1fd9d586e9f2e2b01fab8713b"), looks := false }, kinds := [], alts := [], laidByText := true, laidKinds := [.data], laidTests := true, laidLooks := .later }
def DeltaCommonCardSaid : Prop := Claim7.holds Tryd.pinned (.plain (OpenSpec.ofChange deltaCommonSpec)) deltaCommonCard

/-- THE TIED CARD OF 'standbylaw46.DeltaTrees'. -/
def deltaTreesCard : Claim7 := { stood := { row := deltaTreesRow, standIns := [], harness := (true, "10720a8b879c35398b33fc1a7f706ff7f3b9b0a1fd9d586e9f2e2b01fab8713b"), looks := false }, kinds := [], alts := [], laidByText := true, laidKinds := [.data], laidTests := true, laidLooks := .later }
def DeltaTreesCardSaid : Prop := Claim7.holds Tryd.pinned (.plain (OpenSpec.ofChange deltaTreesSpec)) deltaTreesCard

/-- THE TIED CARD OF 'standbylaw46.DeltaEqual'. -/
def deltaEqualCard : Claim7 := { stood := { row := deltaEqualRow, standIns := [], harness := (true, "10720a8b879c35398b33fc1a7f706ff7f3b9b0a1fd9d586e9f2e2b01fab8713b"), looks := false }, kinds := [], alts := [], laidByText := true, laidKinds := [.data], laidTests := true, laidLooks := .later }
def DeltaEqualCardSaid : Prop := Claim7.holds Tryd.pinned (.plain (OpenSpec.ofChange deltaEqualSpec)) deltaEqualCard

/-- THE SECOND FORM's CARD OF 'standbylaw46.DeltaChecks'. -/
def deltaChecksUptoCard : Claim7 := { stood := { row := deltaChecksUptoRow, standIns := [], harness := (true, "10720a8b879c35398b33fc1a7f706ff7f3b9b0a1fd9d586e9f2e2b01fab8713b"), looks := false }, kinds := [], alts := [], laidByText := true, laidKinds := [.data], laidTests := true, laidLooks := .later }
def DeltaChecksUptoCardSaid : Prop := Claim7.holds Tryd.pinned (.plain (OpenSpec.upto deltaChecksSpec)) deltaChecksUptoCard

/-- THE SECOND FORM's CARD OF 'standbylaw46.DeltaAncestors'. -/
def deltaAncestorsUptoCard : Claim7 := { stood := { row := deltaAncestorsUptoRow, standIns := [], harness := (true, "10720a8b879c35398b33fc1a7f706ff7f3b9b0a1fd9d586e9f2e2b01fab8713b"), looks := false }, kinds := [], alts := [], laidByText := true, laidKinds := [.data], laidTests := true, laidLooks := .later }
def DeltaAncestorsUptoCardSaid : Prop := Claim7.holds Tryd.pinned (.plain (OpenSpec.upto deltaAncestorsSpec)) deltaAncestorsUptoCard

/-- THE SECOND FORM's CARD OF 'standbylaw46.DeltaChooses'. -/
def deltaChoosesUptoCard : Claim7 := { stood := { row := deltaChoosesUptoRow, standIns := [], harness := (true, "10720a8b879c35398b33fc1a7f706ff7f3b9b0a1fd9d586e9f2e2b01fab8713b"), looks := false }, kinds := [], alts := [], laidByText := true, laidKinds := [.data], laidTests := true, laidLooks := .later }
def DeltaChoosesUptoCardSaid : Prop := Claim7.holds Tryd.pinned (.plain (OpenSpec.upto deltaChoosesSpec)) deltaChoosesUptoCard

/-- THE SECOND FORM's CARD OF 'standbylaw46.DeltaTransfers'. -/
def deltaTransfersUptoCard : Claim7 := { stood := { row := deltaTransfersUptoRow, standIns := [], harness := (true, "10720a8b879c35398b33fc1a7f706ff7f3b9b0a1fd9d586e9f2e2b01fab8713b"), looks := false }, kinds := [], alts := [], laidByText := true, laidKinds := [.data], laidTests := true, laidLooks := .later }
def DeltaTransfersUptoCardSaid : Prop := Claim7.holds Tryd.pinned (.plain (OpenSpec.upto deltaTransfersSpec)) deltaTransfersUptoCard

/-- THE SECOND FORM's CARD OF 'standbylaw46.DeltaNewest'. -/
def deltaNewestUptoCard : Claim7 := { stood := { row := deltaNewestUptoRow, standIns := [], harness := (true, "10720a8b879c35398b33fc1a7f706ff7f3b9b0a1fd9d586e9f2e2b01fab8713b"), looks := false }, kinds := [], alts := [], laidByText := true, laidKinds := [.data], laidTests := true, laidLooks := .later }
def DeltaNewestUptoCardSaid : Prop := Claim7.holds Tryd.pinned (.plain (OpenSpec.upto deltaNewestSpec)) deltaNewestUptoCard

/-- THE SECOND FORM's CARD OF 'standbylaw46.DeltaCommon'. -/
def deltaCommonUptoCard : Claim7 := { stood := { row := deltaCommonUptoRow, standIns := [], harness := (true, "10720a8b879c35398b33fc1a7f706ff7f3b9b0a1fd9d586e9f2e2b01fab8713b"), looks := false }, kinds := [], alts := [], laidByText := true, laidKinds := [.data], laidTests := true, laidLooks := .later }
def DeltaCommonUptoCardSaid : Prop := Claim7.holds Tryd.pinned (.plain (OpenSpec.upto deltaCommonSpec)) deltaCommonUptoCard

/-- THE SECOND FORM's CARD OF 'standbylaw46.DeltaTrees'. -/
def deltaTreesUptoCard : Claim7 := { stood := { row := deltaTreesUptoRow, standIns := [], harness := (true, "10720a8b879c35398b33fc1a7f706ff7f3b9b0a1fd9d586e9f2e2b01fab8713b"), looks := false }, kinds := [], alts := [], laidByText := true, laidKinds := [.data], laidTests := true, laidLooks := .later }
def DeltaTreesUptoCardSaid : Prop := Claim7.holds Tryd.pinned (.plain (OpenSpec.upto deltaTreesSpec)) deltaTreesUptoCard

/-- THE SECOND FORM's CARD OF 'standbylaw46.DeltaEqual'. -/
def deltaEqualUptoCard : Claim7 := { stood := { row := deltaEqualUptoRow, standIns := [], harness := (true, "10720a8b879c35398b33fc1a7f706ff7f3b9b0a1fd9d586e9f2e2b01fab8713b"), looks := false }, kinds := [], alts := [], laidByText := true, laidKinds := [.data], laidTests := true, laidLooks := .later }
def DeltaEqualUptoCardSaid : Prop := Claim7.holds Tryd.pinned (.plain (OpenSpec.upto deltaEqualSpec)) deltaEqualUptoCard
end Rows
end Go.Proofs.YtaaokejjmdbfaaaDoor
