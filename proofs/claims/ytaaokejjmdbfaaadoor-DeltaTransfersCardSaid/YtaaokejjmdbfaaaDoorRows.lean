/-
  NARROWER THAN 'FOR EVERY INPUT', by the rows' own cells (each row's printed sentence says how): DeltaChecks: laid · DeltaAncestors: laid · DeltaChooses: laid · DeltaTransfers: laid · DeltaNewest: laid · DeltaCommon: laid · DeltaTrees: laid · DeltaEqual: laid.
  DERIVED. THE GIVEN ROWS OF THIS SEAT. 8 by the template 'for every input the law returns true; each argument reads behind the call as it read before'; 0 by the template 'total and deterministic' (their statements: YtaaokejjmdbfaaaDoorTotals.lean).
  GIVEN WITH THE SEED: the statements are not yours to turn. If you find one false, say at which input.
  Laid BY PROGRAM, IN A SANDBOX (cutbox-rows.mjs): the forced cells as the released guide's own fill.sh prints them over the translation b48a0cfd0c79a122… (all of the seat's roots in one cut). By AI agents, Wed Nov 11 2026. No macro, syntax, notation, axiom, sorry.
-/
import Derived.Test.YtaaokejjmdbfaaaDoorChecked
import GoSem.Claim
import GoSem.ClaimJoined
import GoSem.ClaimMapViews
import Derived.JoinedTies
import Derived.KernelRfl
namespace Go.Proofs.YtaaokejjmdbfaaaDoor
/- THE CELL 'sum', in the pinned program and in every row, IS THE sha256 OF THE DUMP (.gsa) THAT YtaaokejjmdbfaaaDoorProg.lean LOADS. Nothing in Lean hashes anything: it is a label: what it is worth is what the hold of that sum in a sandbox is worth. -/
noncomputable def Tryd.pinned : Pinned := { name := "ytaaokejjmdbfaaadoor", sum := "b48a0cfd0c79a122922aaba42d59af5b688998dc8479b56f5fa8931336bf6b10", checked := Tryd.checked }
namespace Rows
def none {H : Type} : Left H := { results := [], args := [] }

/- WHAT THE LISTED PACKAGE-LEVEL VARIABLES READ AS WHEN THE CALL BEGINS. Each datum BY PROGRAM (the guide's laid-datum.mjs) off the statement by which the dump's own 'gosem.cut.vars' lays the variable. In a bare row this is a premise. The card (YtaaokejjmdbfaaaDoorCards.lean) ties it to the program's text. -/
def laid_math_bits_deBruijn64tab {H : Type} : DataW H := .agg [.lit (.int .u8 0), .lit (.int .u8 1), .lit (.int .u8 56), .lit (.int .u8 2), .lit (.int .u8 57), .lit (.int .u8 49), .lit (.int .u8 28), .lit (.int .u8 3), .lit (.int .u8 61), .lit (.int .u8 58), .lit (.int .u8 42), .lit (.int .u8 50), .lit (.int .u8 38), .lit (.int .u8 29), .lit (.int .u8 17), .lit (.int .u8 4), .lit (.int .u8 62), .lit (.int .u8 47), .lit (.int .u8 59), .lit (.int .u8 36), .lit (.int .u8 45), .lit (.int .u8 43), .lit (.int .u8 51), .lit (.int .u8 22), .lit (.int .u8 53), .lit (.int .u8 39), .lit (.int .u8 33), .lit (.int .u8 30), .lit (.int .u8 24), .lit (.int .u8 18), .lit (.int .u8 12), .lit (.int .u8 5), .lit (.int .u8 63), .lit (.int .u8 55), .lit (.int .u8 48), .lit (.int .u8 27), .lit (.int .u8 60), .lit (.int .u8 41), .lit (.int .u8 37), .lit (.int .u8 16), .lit (.int .u8 46), .lit (.int .u8 35), .lit (.int .u8 44), .lit (.int .u8 21), .lit (.int .u8 52), .lit (.int .u8 32), .lit (.int .u8 23), .lit (.int .u8 11), .lit (.int .u8 54), .lit (.int .u8 26), .lit (.int .u8 40), .lit (.int .u8 15), .lit (.int .u8 34), .lit (.int .u8 20), .lit (.int .u8 31), .lit (.int .u8 10), .lit (.int .u8 25), .lit (.int .u8 14), .lit (.int .u8 19), .lit (.int .u8 9), .lit (.int .u8 13), .lit (.int .u8 8), .lit (.int .u8 7), .lit (.int .u8 6)]

/-- 'standbylaw46.DeltaChecks': WHATEVER THE INPUT: true; the input reads as it did. -/
def deltaChecksSpec : ChangeSpec := { name := "deltaChecks", fn := fun _ => fun
  | [d] => { results := [.lit (.bool true)], args := [d] }
  | _ => none }
def deltaChecksRow : OpenClaim := { program := "ytaaokejjmdbfaaadoor", sum := "b48a0cfd0c79a122922aaba42d59af5b688998dc8479b56f5fa8931336bf6b10", func := "standby/standbylaw46.DeltaChecks", spec := "deltaChecks", unfollowed := true, recurses := true, named := ["math/bits.deBruijn64tab"], apart := false, laid := [("math/bits.deBruijn64tab", laid_math_bits_deBruijn64tab)] }
def DeltaChecksSaid : Prop := deltaChecksRow.holds Tryd.pinned (OpenSpec.ofChange deltaChecksSpec)

/-- ITS FALSE NEIGHBOUR: 'it returns false'. Refute it at one input. -/
def deltaChecksWrong : ChangeSpec := { name := "deltaChecks", fn := fun _ => fun
  | [d] => { results := [.lit (.bool false)], args := [d] }
  | _ => none }
def DeltaChecksWrongFalsely : Prop := deltaChecksRow.holds Tryd.pinned (OpenSpec.ofChange deltaChecksWrong)

/-- 'standbylaw46.DeltaAncestors': WHATEVER THE INPUT: true; the input reads as it did. -/
def deltaAncestorsSpec : ChangeSpec := { name := "deltaAncestors", fn := fun _ => fun
  | [d1, d2] => { results := [.lit (.bool true)], args := [d1, d2] }
  | _ => none }
def deltaAncestorsRow : OpenClaim := { program := "ytaaokejjmdbfaaadoor", sum := "b48a0cfd0c79a122922aaba42d59af5b688998dc8479b56f5fa8931336bf6b10", func := "standby/standbylaw46.DeltaAncestors", spec := "deltaAncestors", unfollowed := true, recurses := true, named := ["math/bits.deBruijn64tab"], apart := false, laid := [("math/bits.deBruijn64tab", laid_math_bits_deBruijn64tab)] }
def DeltaAncestorsSaid : Prop := deltaAncestorsRow.holds Tryd.pinned (OpenSpec.ofChange deltaAncestorsSpec)

/-- ITS FALSE NEIGHBOUR: 'it returns false'. Refute it at one input. -/
def deltaAncestorsWrong : ChangeSpec := { name := "deltaAncestors", fn := fun _ => fun
  | [d1, d2] => { results := [.lit (.bool false)], args := [d1, d2] }
  | _ => none }
def DeltaAncestorsWrongFalsely : Prop := deltaAncestorsRow.holds Tryd.pinned (OpenSpec.ofChange deltaAncestorsWrong)

/-- 'standbylaw46.DeltaChooses': WHATEVER THE INPUT: true; the input reads as it did. -/
def deltaChoosesSpec : ChangeSpec := { name := "deltaChooses", fn := fun _ => fun
  | [d1, d2] => { results := [.lit (.bool true)], args := [d1, d2] }
  | _ => none }
def deltaChoosesRow : OpenClaim := { program := "ytaaokejjmdbfaaadoor", sum := "b48a0cfd0c79a122922aaba42d59af5b688998dc8479b56f5fa8931336bf6b10", func := "standby/standbylaw46.DeltaChooses", spec := "deltaChooses", unfollowed := true, recurses := true, named := ["math/bits.deBruijn64tab"], apart := false, laid := [("math/bits.deBruijn64tab", laid_math_bits_deBruijn64tab)] }
def DeltaChoosesSaid : Prop := deltaChoosesRow.holds Tryd.pinned (OpenSpec.ofChange deltaChoosesSpec)

/-- ITS FALSE NEIGHBOUR: 'it returns false'. Refute it at one input. -/
def deltaChoosesWrong : ChangeSpec := { name := "deltaChooses", fn := fun _ => fun
  | [d1, d2] => { results := [.lit (.bool false)], args := [d1, d2] }
  | _ => none }
def DeltaChoosesWrongFalsely : Prop := deltaChoosesRow.holds Tryd.pinned (OpenSpec.ofChange deltaChoosesWrong)

/-- 'standbylaw46.DeltaTransfers': WHATEVER THE INPUT: true; the input reads as it did. -/
def deltaTransfersSpec : ChangeSpec := { name := "deltaTransfers", fn := fun _ => fun
  | [d1, d2, d3] => { results := [.lit (.bool true)], args := [d1, d2, d3] }
  | _ => none }
def deltaTransfersRow : OpenClaim := { program := "ytaaokejjmdbfaaadoor", sum := "b48a0cfd0c79a122922aaba42d59af5b688998dc8479b56f5fa8931336bf6b10", func := "standby/standbylaw46.DeltaTransfers", spec := "deltaTransfers", unfollowed := true, recurses := true, named := ["math/bits.deBruijn64tab"], apart := false, laid := [("math/bits.deBruijn64tab", laid_math_bits_deBruijn64tab)] }
def DeltaTransfersSaid : Prop := deltaTransfersRow.holds Tryd.pinned (OpenSpec.ofChange deltaTransfersSpec)

/-- ITS FALSE NEIGHBOUR: 'it returns false'. Refute it at one input. -/
def deltaTransfersWrong : ChangeSpec := { name := "deltaTransfers", fn := fun _ => fun
  | [d1, d2, d3] => { results := [.lit (.bool false)], args := [d1, d2, d3] }
  | _ => none }
def DeltaTransfersWrongFalsely : Prop := deltaTransfersRow.holds Tryd.pinned (OpenSpec.ofChange deltaTransfersWrong)

/-- 'standbylaw46.DeltaNewest': WHATEVER THE INPUT: true; the input reads as it did. -/
def deltaNewestSpec : ChangeSpec := { name := "deltaNewest", fn := fun _ => fun
  | [d1, d2] => { results := [.lit (.bool true)], args := [d1, d2] }
  | _ => none }
def deltaNewestRow : OpenClaim := { program := "ytaaokejjmdbfaaadoor", sum := "b48a0cfd0c79a122922aaba42d59af5b688998dc8479b56f5fa8931336bf6b10", func := "standby/standbylaw46.DeltaNewest", spec := "deltaNewest", unfollowed := true, recurses := true, named := ["math/bits.deBruijn64tab"], apart := false, laid := [("math/bits.deBruijn64tab", laid_math_bits_deBruijn64tab)] }
def DeltaNewestSaid : Prop := deltaNewestRow.holds Tryd.pinned (OpenSpec.ofChange deltaNewestSpec)

/-- ITS FALSE NEIGHBOUR: 'it returns false'. Refute it at one input. -/
def deltaNewestWrong : ChangeSpec := { name := "deltaNewest", fn := fun _ => fun
  | [d1, d2] => { results := [.lit (.bool false)], args := [d1, d2] }
  | _ => none }
def DeltaNewestWrongFalsely : Prop := deltaNewestRow.holds Tryd.pinned (OpenSpec.ofChange deltaNewestWrong)

/-- 'standbylaw46.DeltaCommon': WHATEVER THE INPUT: true; the input reads as it did. -/
def deltaCommonSpec : ChangeSpec := { name := "deltaCommon", fn := fun _ => fun
  | [d1, d2] => { results := [.lit (.bool true)], args := [d1, d2] }
  | _ => none }
def deltaCommonRow : OpenClaim := { program := "ytaaokejjmdbfaaadoor", sum := "b48a0cfd0c79a122922aaba42d59af5b688998dc8479b56f5fa8931336bf6b10", func := "standby/standbylaw46.DeltaCommon", spec := "deltaCommon", unfollowed := true, recurses := true, named := ["math/bits.deBruijn64tab"], apart := false, laid := [("math/bits.deBruijn64tab", laid_math_bits_deBruijn64tab)] }
def DeltaCommonSaid : Prop := deltaCommonRow.holds Tryd.pinned (OpenSpec.ofChange deltaCommonSpec)

/-- ITS FALSE NEIGHBOUR: 'it returns false'. Refute it at one input. -/
def deltaCommonWrong : ChangeSpec := { name := "deltaCommon", fn := fun _ => fun
  | [d1, d2] => { results := [.lit (.bool false)], args := [d1, d2] }
  | _ => none }
def DeltaCommonWrongFalsely : Prop := deltaCommonRow.holds Tryd.pinned (OpenSpec.ofChange deltaCommonWrong)

/-- 'standbylaw46.DeltaTrees': WHATEVER THE INPUT: true; the input reads as it did. -/
def deltaTreesSpec : ChangeSpec := { name := "deltaTrees", fn := fun _ => fun
  | [d1, d2, d3] => { results := [.lit (.bool true)], args := [d1, d2, d3] }
  | _ => none }
def deltaTreesRow : OpenClaim := { program := "ytaaokejjmdbfaaadoor", sum := "b48a0cfd0c79a122922aaba42d59af5b688998dc8479b56f5fa8931336bf6b10", func := "standby/standbylaw46.DeltaTrees", spec := "deltaTrees", unfollowed := true, recurses := true, named := ["math/bits.deBruijn64tab"], apart := false, laid := [("math/bits.deBruijn64tab", laid_math_bits_deBruijn64tab)] }
def DeltaTreesSaid : Prop := deltaTreesRow.holds Tryd.pinned (OpenSpec.ofChange deltaTreesSpec)

/-- ITS FALSE NEIGHBOUR: 'it returns false'. Refute it at one input. -/
def deltaTreesWrong : ChangeSpec := { name := "deltaTrees", fn := fun _ => fun
  | [d1, d2, d3] => { results := [.lit (.bool false)], args := [d1, d2, d3] }
  | _ => none }
def DeltaTreesWrongFalsely : Prop := deltaTreesRow.holds Tryd.pinned (OpenSpec.ofChange deltaTreesWrong)

/-- 'standbylaw46.DeltaEqual': WHATEVER THE INPUT: true; the input reads as it did. -/
def deltaEqualSpec : ChangeSpec := { name := "deltaEqual", fn := fun _ => fun
  | [d1, d2, d3] => { results := [.lit (.bool true)], args := [d1, d2, d3] }
  | _ => none }
def deltaEqualRow : OpenClaim := { program := "ytaaokejjmdbfaaadoor", sum := "b48a0cfd0c79a122922aaba42d59af5b688998dc8479b56f5fa8931336bf6b10", func := "standby/standbylaw46.DeltaEqual", spec := "deltaEqual", unfollowed := true, recurses := true, named := ["math/bits.deBruijn64tab"], apart := false, laid := [("math/bits.deBruijn64tab", laid_math_bits_deBruijn64tab)] }
def DeltaEqualSaid : Prop := deltaEqualRow.holds Tryd.pinned (OpenSpec.ofChange deltaEqualSpec)

/-- ITS FALSE NEIGHBOUR: 'it returns false'. Refute it at one input. -/
def deltaEqualWrong : ChangeSpec := { name := "deltaEqual", fn := fun _ => fun
  | [d1, d2, d3] => { results := [.lit (.bool false)], args := [d1, d2, d3] }
  | _ => none }
def DeltaEqualWrongFalsely : Prop := deltaEqualRow.holds Tryd.pinned (OpenSpec.ofChange deltaEqualWrong)

/- THE SECOND FORM. 'bulk': how many values and letters a reading holds, each counted each time it is reached (what is shared counts as often as it is met; a slice's spare places count too). A statement '..UptoSaid' is the law's where the arguments, and the package variables that the reading takes, are together of bulk at most 1048576: NARROWER than '..Said'. Prove '..Said' where nothing that the law and all that it calls make is longer than what came in: it says more and counts as full. Else prove '..UptoSaid'. A law counts once. -/
mutual
def uptoBulk {H : Type} : DataW H → Nat
  | .lit (.string bytes) => bytes.length + 1
  | .lit _ => 1
  | .nil => 1
  | .ptr d => uptoBulk d + 1
  | .slice elems spare => uptoBulkAll elems + uptoBulkAll spare + 1
  | .agg parts => uptoBulkAll parts + 1
  | .iface _ d => uptoBulk d + 1
  | .map entries => uptoBulkEntries entries + 1
  | .held _ => 1
def uptoBulkAll {H : Type} : List (DataW H) → Nat
  | [] => 0
  | d :: r => uptoBulk d + uptoBulkAll r
def uptoBulkEntries {H : Type} : List (Lit × DataW H) → Nat
  | [] => 0
  | x :: r => uptoBulkEntry x + uptoBulkEntries r
def uptoBulkEntry {H : Type} : Lit × DataW H → Nat
  | (.string bytes, d) => bytes.length + uptoBulk d + 1
  | (_, d) => uptoBulk d + 1
 end
def uptoSmall : (H : Type) → List (DataW H) → Bool := fun _ ds => decide (uptoBulkAll ds ≤ 1048576)
def OpenSpec.upto (s : _root_.Go.ChangeSpec) : _root_.Go.OpenSpec := { _root_.Go.OpenSpec.ofChange s with cond := some uptoSmall }

/-- 'standbylaw46.DeltaChecks', WHERE WHAT IT READS IS OF BULK AT MOST 1048576: true; the input reads as it did. -/
def deltaChecksUptoRow : OpenClaim := { program := "ytaaokejjmdbfaaadoor", sum := "b48a0cfd0c79a122922aaba42d59af5b688998dc8479b56f5fa8931336bf6b10", func := "standby/standbylaw46.DeltaChecks", spec := "deltaChecks", unfollowed := true, recurses := true, named := ["math/bits.deBruijn64tab"], apart := false, laid := [("math/bits.deBruijn64tab", laid_math_bits_deBruijn64tab)], narrowed := true }
def DeltaChecksUptoSaid : Prop := deltaChecksUptoRow.holds Tryd.pinned (OpenSpec.upto deltaChecksSpec)

/-- 'standbylaw46.DeltaAncestors', WHERE WHAT IT READS IS OF BULK AT MOST 1048576: true; the input reads as it did. -/
def deltaAncestorsUptoRow : OpenClaim := { program := "ytaaokejjmdbfaaadoor", sum := "b48a0cfd0c79a122922aaba42d59af5b688998dc8479b56f5fa8931336bf6b10", func := "standby/standbylaw46.DeltaAncestors", spec := "deltaAncestors", unfollowed := true, recurses := true, named := ["math/bits.deBruijn64tab"], apart := false, laid := [("math/bits.deBruijn64tab", laid_math_bits_deBruijn64tab)], narrowed := true }
def DeltaAncestorsUptoSaid : Prop := deltaAncestorsUptoRow.holds Tryd.pinned (OpenSpec.upto deltaAncestorsSpec)

/-- 'standbylaw46.DeltaChooses', WHERE WHAT IT READS IS OF BULK AT MOST 1048576: true; the input reads as it did. -/
def deltaChoosesUptoRow : OpenClaim := { program := "ytaaokejjmdbfaaadoor", sum := "b48a0cfd0c79a122922aaba42d59af5b688998dc8479b56f5fa8931336bf6b10", func := "standby/standbylaw46.DeltaChooses", spec := "deltaChooses", unfollowed := true, recurses := true, named := ["math/bits.deBruijn64tab"], apart := false, laid := [("math/bits.deBruijn64tab", laid_math_bits_deBruijn64tab)], narrowed := true }
def DeltaChoosesUptoSaid : Prop := deltaChoosesUptoRow.holds Tryd.pinned (OpenSpec.upto deltaChoosesSpec)

/-- 'standbylaw46.DeltaTransfers', WHERE WHAT IT READS IS OF BULK AT MOST 1048576: true; the input reads as it did. -/
def deltaTransfersUptoRow : OpenClaim := { program := "ytaaokejjmdbfaaadoor", sum := "b48a0cfd0c79a122922aaba42d59af5b688998dc8479b56f5fa8931336bf6b10", func := "standby/standbylaw46.DeltaTransfers", spec := "deltaTransfers", unfollowed := true, recurses := true, named := ["math/bits.deBruijn64tab"], apart := false, laid := [("math/bits.deBruijn64tab", laid_math_bits_deBruijn64tab)], narrowed := true }
def DeltaTransfersUptoSaid : Prop := deltaTransfersUptoRow.holds Tryd.pinned (OpenSpec.upto deltaTransfersSpec)

/-- 'standbylaw46.DeltaNewest', WHERE WHAT IT READS IS OF BULK AT MOST 1048576: true; the input reads as it did. -/
def deltaNewestUptoRow : OpenClaim := { program := "ytaaokejjmdbfaaadoor", sum := "b48a0cfd0c79a122922aaba42d59af5b688998dc8479b56f5fa8931336bf6b10", func := "standby/standbylaw46.DeltaNewest", spec := "deltaNewest", unfollowed := true, recurses := true, named := ["math/bits.deBruijn64tab"], apart := false, laid := [("math/bits.deBruijn64tab", laid_math_bits_deBruijn64tab)], narrowed := true }
def DeltaNewestUptoSaid : Prop := deltaNewestUptoRow.holds Tryd.pinned (OpenSpec.upto deltaNewestSpec)

/-- 'standbylaw46.DeltaCommon', WHERE WHAT IT READS IS OF BULK AT MOST 1048576: true; the input reads as it did. -/
def deltaCommonUptoRow : OpenClaim := { program := "ytaaokejjmdbfaaadoor", sum := "b48a0cfd0c79a122922aaba42d59af5b688998dc8479b56f5fa8931336bf6b10", func := "standby/standbylaw46.DeltaCommon", spec := "deltaCommon", unfollowed := true, recurses := true, named := ["math/bits.deBruijn64tab"], apart := false, laid := [("math/bits.deBruijn64tab", laid_math_bits_deBruijn64tab)], narrowed := true }
def DeltaCommonUptoSaid : Prop := deltaCommonUptoRow.holds Tryd.pinned (OpenSpec.upto deltaCommonSpec)

/-- 'standbylaw46.DeltaTrees', WHERE WHAT IT READS IS OF BULK AT MOST 1048576: true; the input reads as it did. -/
def deltaTreesUptoRow : OpenClaim := { program := "ytaaokejjmdbfaaadoor", sum := "b48a0cfd0c79a122922aaba42d59af5b688998dc8479b56f5fa8931336bf6b10", func := "standby/standbylaw46.DeltaTrees", spec := "deltaTrees", unfollowed := true, recurses := true, named := ["math/bits.deBruijn64tab"], apart := false, laid := [("math/bits.deBruijn64tab", laid_math_bits_deBruijn64tab)], narrowed := true }
def DeltaTreesUptoSaid : Prop := deltaTreesUptoRow.holds Tryd.pinned (OpenSpec.upto deltaTreesSpec)

/-- 'standbylaw46.DeltaEqual', WHERE WHAT IT READS IS OF BULK AT MOST 1048576: true; the input reads as it did. -/
def deltaEqualUptoRow : OpenClaim := { program := "ytaaokejjmdbfaaadoor", sum := "b48a0cfd0c79a122922aaba42d59af5b688998dc8479b56f5fa8931336bf6b10", func := "standby/standbylaw46.DeltaEqual", spec := "deltaEqual", unfollowed := true, recurses := true, named := ["math/bits.deBruijn64tab"], apart := false, laid := [("math/bits.deBruijn64tab", laid_math_bits_deBruijn64tab)], narrowed := true }
def DeltaEqualUptoSaid : Prop := deltaEqualUptoRow.holds Tryd.pinned (OpenSpec.upto deltaEqualSpec)

end Rows
end Go.Proofs.YtaaokejjmdbfaaaDoor
