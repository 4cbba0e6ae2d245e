/-
  No cell of these rows narrows 'for every input' (looked for: loops, veiled, ifaces, maps, wideKeys, modest, calm, conditions, laid).
  DERIVED. THE GIVEN ROWS OF THIS SEAT. 9 by the template 'for every input the law returns true; each argument reads behind the call as it read before'; 0 by the template 'total and deterministic' (their statements: YtldmhbkfblbhaaaTotals.lean).
  GIVEN WITH THE SEED: the statements are not yours to turn. If you find one false, say at which input.
  Laid BY PROGRAM, IN A SANDBOX (cutbox-rows.mjs): the forced cells as the released guide's own fill.sh prints them over the translation deb32618cf6eb36d… (all of the seat's roots in one cut). By AI agents, Wed Nov 11 2026. No macro, syntax, notation, axiom, sorry.
-/
import Derived.Test.YtldmhbkfblbhaaaChecked
import GoSem.Claim
import GoSem.ClaimJoined
import GoSem.ClaimMapViews
import Derived.JoinedTies
import Derived.KernelRfl
namespace Go.Proofs.Ytldmhbkfblbhaaa
/- THE CELL 'sum', in the pinned program and in every row, IS THE sha256 OF THE DUMP (.gsa) THAT YtldmhbkfblbhaaaProg.lean LOADS. Nothing in Lean hashes anything: it is a label: what it is worth is what the hold of that sum in a sandbox is worth. -/
noncomputable def Try.pinned : Pinned := { name := "ytldmhbkfblbhaaa", sum := "deb32618cf6eb36d1416f3713f6bacc0b8ae66e74a2ba968af46fe2ea4d5cc97", checked := Try.checked }
namespace Rows
def none {H : Type} : Left H := { results := [], args := [] }

/-- 'standbylaw01.ExtentChecks': WHATEVER THE INPUT: true; the input reads as it did. -/
def extentChecksSpec : ChangeSpec := { name := "extentChecks", fn := fun _ => fun
  | [d1, d2] => { results := [.lit (.bool true)], args := [d1, d2] }
  | _ => none }
def extentChecksRow : OpenClaim := { program := "ytldmhbkfblbhaaa", sum := "deb32618cf6eb36d1416f3713f6bacc0b8ae66e74a2ba968af46fe2ea4d5cc97", func := "standby/standbylaw01.ExtentChecks", spec := "extentChecks", unfollowed := true, recurses := true, apart := false }
def ExtentChecksSaid : Prop := extentChecksRow.holds Try.pinned (OpenSpec.ofChange extentChecksSpec)

/-- ITS FALSE NEIGHBOUR: 'it returns false'. Refute it at one input. -/
def extentChecksWrong : ChangeSpec := { name := "extentChecks", fn := fun _ => fun
  | [d1, d2] => { results := [.lit (.bool false)], args := [d1, d2] }
  | _ => none }
def ExtentChecksWrongFalsely : Prop := extentChecksRow.holds Try.pinned (OpenSpec.ofChange extentChecksWrong)

/-- 'standbylaw01.ExtentNormalizes': WHATEVER THE INPUT: true; the input reads as it did. -/
def extentNormalizesSpec : ChangeSpec := { name := "extentNormalizes", fn := fun _ => fun
  | [d] => { results := [.lit (.bool true)], args := [d] }
  | _ => none }
def extentNormalizesRow : OpenClaim := { program := "ytldmhbkfblbhaaa", sum := "deb32618cf6eb36d1416f3713f6bacc0b8ae66e74a2ba968af46fe2ea4d5cc97", func := "standby/standbylaw01.ExtentNormalizes", spec := "extentNormalizes", unfollowed := true, recurses := true, apart := false }
def ExtentNormalizesSaid : Prop := extentNormalizesRow.holds Try.pinned (OpenSpec.ofChange extentNormalizesSpec)

/-- ITS FALSE NEIGHBOUR: 'it returns false'. Refute it at one input. -/
def extentNormalizesWrong : ChangeSpec := { name := "extentNormalizes", fn := fun _ => fun
  | [d] => { results := [.lit (.bool false)], args := [d] }
  | _ => none }
def ExtentNormalizesWrongFalsely : Prop := extentNormalizesRow.holds Try.pinned (OpenSpec.ofChange extentNormalizesWrong)

/-- 'standbylaw01.ExtentComplements': WHATEVER THE INPUT: true; the input reads as it did. -/
def extentComplementsSpec : ChangeSpec := { name := "extentComplements", fn := fun _ => fun
  | [d1, d2, d3] => { results := [.lit (.bool true)], args := [d1, d2, d3] }
  | _ => none }
def extentComplementsRow : OpenClaim := { program := "ytldmhbkfblbhaaa", sum := "deb32618cf6eb36d1416f3713f6bacc0b8ae66e74a2ba968af46fe2ea4d5cc97", func := "standby/standbylaw01.ExtentComplements", spec := "extentComplements", unfollowed := true, recurses := true, apart := false }
def ExtentComplementsSaid : Prop := extentComplementsRow.holds Try.pinned (OpenSpec.ofChange extentComplementsSpec)

/-- ITS FALSE NEIGHBOUR: 'it returns false'. Refute it at one input. -/
def extentComplementsWrong : ChangeSpec := { name := "extentComplements", fn := fun _ => fun
  | [d1, d2, d3] => { results := [.lit (.bool false)], args := [d1, d2, d3] }
  | _ => none }
def ExtentComplementsWrongFalsely : Prop := extentComplementsRow.holds Try.pinned (OpenSpec.ofChange extentComplementsWrong)

/-- 'standbylaw01.ExtentSplits': WHATEVER THE INPUT: true; the input reads as it did. -/
def extentSplitsSpec : ChangeSpec := { name := "extentSplits", fn := fun _ => fun
  | [d1, d2] => { results := [.lit (.bool true)], args := [d1, d2] }
  | _ => none }
def extentSplitsRow : OpenClaim := { program := "ytldmhbkfblbhaaa", sum := "deb32618cf6eb36d1416f3713f6bacc0b8ae66e74a2ba968af46fe2ea4d5cc97", func := "standby/standbylaw01.ExtentSplits", spec := "extentSplits", unfollowed := true, recurses := true, apart := false }
def ExtentSplitsSaid : Prop := extentSplitsRow.holds Try.pinned (OpenSpec.ofChange extentSplitsSpec)

/-- ITS FALSE NEIGHBOUR: 'it returns false'. Refute it at one input. -/
def extentSplitsWrong : ChangeSpec := { name := "extentSplits", fn := fun _ => fun
  | [d1, d2] => { results := [.lit (.bool false)], args := [d1, d2] }
  | _ => none }
def ExtentSplitsWrongFalsely : Prop := extentSplitsRow.holds Try.pinned (OpenSpec.ofChange extentSplitsWrong)

/-- 'standbylaw01.ExtentPieces': WHATEVER THE INPUT: true; the input reads as it did. -/
def extentPiecesSpec : ChangeSpec := { name := "extentPieces", fn := fun _ => fun
  | [d1, d2] => { results := [.lit (.bool true)], args := [d1, d2] }
  | _ => none }
def extentPiecesRow : OpenClaim := { program := "ytldmhbkfblbhaaa", sum := "deb32618cf6eb36d1416f3713f6bacc0b8ae66e74a2ba968af46fe2ea4d5cc97", func := "standby/standbylaw01.ExtentPieces", spec := "extentPieces", unfollowed := true, recurses := true, apart := false }
def ExtentPiecesSaid : Prop := extentPiecesRow.holds Try.pinned (OpenSpec.ofChange extentPiecesSpec)

/-- ITS FALSE NEIGHBOUR: 'it returns false'. Refute it at one input. -/
def extentPiecesWrong : ChangeSpec := { name := "extentPieces", fn := fun _ => fun
  | [d1, d2] => { results := [.lit (.bool false)], args := [d1, d2] }
  | _ => none }
def ExtentPiecesWrongFalsely : Prop := extentPiecesRow.holds Try.pinned (OpenSpec.ofChange extentPiecesWrong)

/-- 'standbylaw01.ExtentOperates': WHATEVER THE INPUT: true; the input reads as it did. -/
def extentOperatesSpec : ChangeSpec := { name := "extentOperates", fn := fun _ => fun
  | [d1, d2] => { results := [.lit (.bool true)], args := [d1, d2] }
  | _ => none }
def extentOperatesRow : OpenClaim := { program := "ytldmhbkfblbhaaa", sum := "deb32618cf6eb36d1416f3713f6bacc0b8ae66e74a2ba968af46fe2ea4d5cc97", func := "standby/standbylaw01.ExtentOperates", spec := "extentOperates", unfollowed := true, recurses := true, apart := false }
def ExtentOperatesSaid : Prop := extentOperatesRow.holds Try.pinned (OpenSpec.ofChange extentOperatesSpec)

/-- ITS FALSE NEIGHBOUR: 'it returns false'. Refute it at one input. -/
def extentOperatesWrong : ChangeSpec := { name := "extentOperates", fn := fun _ => fun
  | [d1, d2] => { results := [.lit (.bool false)], args := [d1, d2] }
  | _ => none }
def ExtentOperatesWrongFalsely : Prop := extentOperatesRow.holds Try.pinned (OpenSpec.ofChange extentOperatesWrong)

/-- 'standbylaw01.ExtentMembers': WHATEVER THE INPUT: true; the input reads as it did. -/
def extentMembersSpec : ChangeSpec := { name := "extentMembers", fn := fun _ => fun
  | [d1, d2, d3] => { results := [.lit (.bool true)], args := [d1, d2, d3] }
  | _ => none }
def extentMembersRow : OpenClaim := { program := "ytldmhbkfblbhaaa", sum := "deb32618cf6eb36d1416f3713f6bacc0b8ae66e74a2ba968af46fe2ea4d5cc97", func := "standby/standbylaw01.ExtentMembers", spec := "extentMembers", unfollowed := true, recurses := true, apart := false }
def ExtentMembersSaid : Prop := extentMembersRow.holds Try.pinned (OpenSpec.ofChange extentMembersSpec)

/-- ITS FALSE NEIGHBOUR: 'it returns false'. Refute it at one input. -/
def extentMembersWrong : ChangeSpec := { name := "extentMembers", fn := fun _ => fun
  | [d1, d2, d3] => { results := [.lit (.bool false)], args := [d1, d2, d3] }
  | _ => none }
def ExtentMembersWrongFalsely : Prop := extentMembersRow.holds Try.pinned (OpenSpec.ofChange extentMembersWrong)

/-- 'standbylaw01.ExtentDuals': WHATEVER THE INPUT: true; the input reads as it did. -/
def extentDualsSpec : ChangeSpec := { name := "extentDuals", fn := fun _ => fun
  | [d1, d2, d3] => { results := [.lit (.bool true)], args := [d1, d2, d3] }
  | _ => none }
def extentDualsRow : OpenClaim := { program := "ytldmhbkfblbhaaa", sum := "deb32618cf6eb36d1416f3713f6bacc0b8ae66e74a2ba968af46fe2ea4d5cc97", func := "standby/standbylaw01.ExtentDuals", spec := "extentDuals", unfollowed := true, recurses := true, apart := false }
def ExtentDualsSaid : Prop := extentDualsRow.holds Try.pinned (OpenSpec.ofChange extentDualsSpec)

/-- ITS FALSE NEIGHBOUR: 'it returns false'. Refute it at one input. -/
def extentDualsWrong : ChangeSpec := { name := "extentDuals", fn := fun _ => fun
  | [d1, d2, d3] => { results := [.lit (.bool false)], args := [d1, d2, d3] }
  | _ => none }
def ExtentDualsWrongFalsely : Prop := extentDualsRow.holds Try.pinned (OpenSpec.ofChange extentDualsWrong)

/-- 'standbylaw01.ExtentAdds': WHATEVER THE INPUT: true; the input reads as it did. -/
def extentAddsSpec : ChangeSpec := { name := "extentAdds", fn := fun _ => fun
  | [d1, d2] => { results := [.lit (.bool true)], args := [d1, d2] }
  | _ => none }
def extentAddsRow : OpenClaim := { program := "ytldmhbkfblbhaaa", sum := "deb32618cf6eb36d1416f3713f6bacc0b8ae66e74a2ba968af46fe2ea4d5cc97", func := "standby/standbylaw01.ExtentAdds", spec := "extentAdds", unfollowed := true, recurses := true, apart := false }
def ExtentAddsSaid : Prop := extentAddsRow.holds Try.pinned (OpenSpec.ofChange extentAddsSpec)

/-- ITS FALSE NEIGHBOUR: 'it returns false'. Refute it at one input. -/
def extentAddsWrong : ChangeSpec := { name := "extentAdds", fn := fun _ => fun
  | [d1, d2] => { results := [.lit (.bool false)], args := [d1, d2] }
  | _ => none }
def ExtentAddsWrongFalsely : Prop := extentAddsRow.holds Try.pinned (OpenSpec.ofChange extentAddsWrong)

/- THE SECOND FORM. 'bulk': how many values and letters a reading holds, each counted each time it is reached (what is shared counts as often as it is met; a slice's spare places count too). A statement '..UptoSaid' is the law's where the arguments, and the package variables that the reading takes, are together of bulk at most 1048576: NARROWER than '..Said'. Prove '..Said' where nothing that the law and all that it calls make is longer than what came in: it says more and counts as full. Else prove '..UptoSaid'. A law counts once. -/
mutual
def uptoBulk {H : Type} : DataW H → Nat
  | .lit (.string bytes) => bytes.length + 1
  | .lit _ => 1
  | .nil => 1
  | .ptr d => uptoBulk d + 1
  | .slice elems spare => uptoBulkAll elems + uptoBulkAll spare + 1
  | .agg parts => uptoBulkAll parts + 1
  | .iface _ d => uptoBulk d + 1
  | .map entries => uptoBulkEntries entries + 1
  | .held _ => 1
def uptoBulkAll {H : Type} : List (DataW H) → Nat
  | [] => 0
  | d :: r => uptoBulk d + uptoBulkAll r
def uptoBulkEntries {H : Type} : List (Lit × DataW H) → Nat
  | [] => 0
  | x :: r => uptoBulkEntry x + uptoBulkEntries r
def uptoBulkEntry {H : Type} : Lit × DataW H → Nat
  | (.string bytes, d) => bytes.length + uptoBulk d + 1
  | (_, d) => uptoBulk d + 1
 end
def uptoSmall : (H : Type) → List (DataW H) → Bool := fun _ ds => decide (uptoBulkAll ds ≤ 1048576)
def OpenSpec.upto (s : _root_.Go.ChangeSpec) : _root_.Go.OpenSpec := { _root_.Go.OpenSpec.ofChange s with cond := some uptoSmall }

/-- 'standbylaw01.ExtentChecks', WHERE WHAT IT READS IS OF BULK AT MOST 1048576: true; the input reads as it did. -/
def extentChecksUptoRow : OpenClaim := { program := "ytldmhbkfblbhaaa", sum := "deb32618cf6eb36d1416f3713f6bacc0b8ae66e74a2ba968af46fe2ea4d5cc97", func := "standby/standbylaw01.ExtentChecks", spec := "extentChecks", unfollowed := true, recurses := true, apart := false, narrowed := true }
def ExtentChecksUptoSaid : Prop := extentChecksUptoRow.holds Try.pinned (OpenSpec.upto extentChecksSpec)

/-- 'standbylaw01.ExtentNormalizes', WHERE WHAT IT READS IS OF BULK AT MOST 1048576: true; the input reads as it did. -/
def extentNormalizesUptoRow : OpenClaim := { program := "ytldmhbkfblbhaaa", sum := "deb32618cf6eb36d1416f3713f6bacc0b8ae66e74a2ba968af46fe2ea4d5cc97", func := "standby/standbylaw01.ExtentNormalizes", spec := "extentNormalizes", unfollowed := true, recurses := true, apart := false, narrowed := true }
def ExtentNormalizesUptoSaid : Prop := extentNormalizesUptoRow.holds Try.pinned (OpenSpec.upto extentNormalizesSpec)

/-- 'standbylaw01.ExtentComplements', WHERE WHAT IT READS IS OF BULK AT MOST 1048576: true; the input reads as it did. -/
def extentComplementsUptoRow : OpenClaim := { program := "ytldmhbkfblbhaaa", sum := "deb32618cf6eb36d1416f3713f6bacc0b8ae66e74a2ba968af46fe2ea4d5cc97", func := "standby/standbylaw01.ExtentComplements", spec := "extentComplements", unfollowed := true, recurses := true, apart := false, narrowed := true }
def ExtentComplementsUptoSaid : Prop := extentComplementsUptoRow.holds Try.pinned (OpenSpec.upto extentComplementsSpec)

/-- 'standbylaw01.ExtentSplits', WHERE WHAT IT READS IS OF BULK AT MOST 1048576: true; the input reads as it did. -/
def extentSplitsUptoRow : OpenClaim := { program := "ytldmhbkfblbhaaa", sum := "deb32618cf6eb36d1416f3713f6bacc0b8ae66e74a2ba968af46fe2ea4d5cc97", func := "standby/standbylaw01.ExtentSplits", spec := "extentSplits", unfollowed := true, recurses := true, apart := false, narrowed := true }
def ExtentSplitsUptoSaid : Prop := extentSplitsUptoRow.holds Try.pinned (OpenSpec.upto extentSplitsSpec)

/-- 'standbylaw01.ExtentPieces', WHERE WHAT IT READS IS OF BULK AT MOST 1048576: true; the input reads as it did. -/
def extentPiecesUptoRow : OpenClaim := { program := "ytldmhbkfblbhaaa", sum := "deb32618cf6eb36d1416f3713f6bacc0b8ae66e74a2ba968af46fe2ea4d5cc97", func := "standby/standbylaw01.ExtentPieces", spec := "extentPieces", unfollowed := true, recurses := true, apart := false, narrowed := true }
def ExtentPiecesUptoSaid : Prop := extentPiecesUptoRow.holds Try.pinned (OpenSpec.upto extentPiecesSpec)

/-- 'standbylaw01.ExtentOperates', WHERE WHAT IT READS IS OF BULK AT MOST 1048576: true; the input reads as it did. -/
def extentOperatesUptoRow : OpenClaim := { program := "ytldmhbkfblbhaaa", sum := "deb32618cf6eb36d1416f3713f6bacc0b8ae66e74a2ba968af46fe2ea4d5cc97", func := "standby/standbylaw01.ExtentOperates", spec := "extentOperates", unfollowed := true, recurses := true, apart := false, narrowed := true }
def ExtentOperatesUptoSaid : Prop := extentOperatesUptoRow.holds Try.pinned (OpenSpec.upto extentOperatesSpec)

/-- 'standbylaw01.ExtentMembers', WHERE WHAT IT READS IS OF BULK AT MOST 1048576: true; the input reads as it did. -/
def extentMembersUptoRow : OpenClaim := { program := "ytldmhbkfblbhaaa", sum := "deb32618cf6eb36d1416f3713f6bacc0b8ae66e74a2ba968af46fe2ea4d5cc97", func := "standby/standbylaw01.ExtentMembers", spec := "extentMembers", unfollowed := true, recurses := true, apart := false, narrowed := true }
def ExtentMembersUptoSaid : Prop := extentMembersUptoRow.holds Try.pinned (OpenSpec.upto extentMembersSpec)

/-- 'standbylaw01.ExtentDuals', WHERE WHAT IT READS IS OF BULK AT MOST 1048576: true; the input reads as it did. -/
def extentDualsUptoRow : OpenClaim := { program := "ytldmhbkfblbhaaa", sum := "deb32618cf6eb36d1416f3713f6bacc0b8ae66e74a2ba968af46fe2ea4d5cc97", func := "standby/standbylaw01.ExtentDuals", spec := "extentDuals", unfollowed := true, recurses := true, apart := false, narrowed := true }
def ExtentDualsUptoSaid : Prop := extentDualsUptoRow.holds Try.pinned (OpenSpec.upto extentDualsSpec)

/-- 'standbylaw01.ExtentAdds', WHERE WHAT IT READS IS OF BULK AT MOST 1048576: true; the input reads as it did. -/
def extentAddsUptoRow : OpenClaim := { program := "ytldmhbkfblbhaaa", sum := "deb32618cf6eb36d1416f3713f6bacc0b8ae66e74a2ba968af46fe2ea4d5cc97", func := "standby/standbylaw01.ExtentAdds", spec := "extentAdds", unfollowed := true, recurses := true, apart := false, narrowed := true }
def ExtentAddsUptoSaid : Prop := extentAddsUptoRow.holds Try.pinned (OpenSpec.upto extentAddsSpec)

end Rows
end Go.Proofs.Ytldmhbkfblbhaaa
