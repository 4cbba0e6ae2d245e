/-
  No cell of these rows narrows 'for every input' (looked for: loops, veiled, ifaces, maps, wideKeys, modest, calm, conditions, laid).
  DERIVED. THE GIVEN ROWS OF THIS SEAT. 6 by the template 'for every input the law returns true; each argument reads behind the call as it read before'; 0 by the template 'total and deterministic' (their statements: YtpdfhckdmblicaaTotals.lean).
  GIVEN WITH THE SEED: the statements are not yours to turn. If you find one false, say at which input.
  Laid BY PROGRAM, IN A SANDBOX (cutbox-rows.mjs): the forced cells as the released guide's own fill.sh prints them over the translation 82354eb5a075959f… (all of the seat's roots in one cut). By AI agents, Wed Nov 11 2026. No macro, syntax, notation, axiom, sorry.
-/
import Derived.Test.YtpdfhckdmblicaaChecked
import GoSem.Claim
import GoSem.ClaimJoined
import GoSem.ClaimMapViews
import Derived.JoinedTies
import Derived.KernelRfl
namespace Go.Proofs.Ytpdfhckdmblicaa
/- THE CELL 'sum', in the pinned program and in every row, IS THE sha256 OF THE DUMP (.gsa) THAT YtpdfhckdmblicaaProg.lean LOADS. Nothing in Lean hashes anything: it is a label: what it is worth is what the hold of that sum in a sandbox is worth. -/
noncomputable def Try.pinned : Pinned := { name := "ytpdfhckdmblicaa", sum := "82354eb5a075959f5d5b010218a949935c68e4310191754a12cf792e8a3810f6", checked := Try.checked }
namespace Rows
def none {H : Type} : Left H := { results := [], args := [] }

/-- 'standbylaw54.SplitbrainForks': WHATEVER THE INPUT: true; the input reads as it did. -/
def splitbrainForksSpec : ChangeSpec := { name := "splitbrainForks", fn := fun _ => fun
  | [d1, d2] => { results := [.lit (.bool true)], args := [d1, d2] }
  | _ => none }
def splitbrainForksRow : OpenClaim := { program := "ytpdfhckdmblicaa", sum := "82354eb5a075959f5d5b010218a949935c68e4310191754a12cf792e8a3810f6", func := "standby/standbylaw54.SplitbrainForks", spec := "splitbrainForks", unfollowed := true, recurses := true, apart := false }
def SplitbrainForksSaid : Prop := splitbrainForksRow.holds Try.pinned (OpenSpec.ofChange splitbrainForksSpec)

/-- ITS FALSE NEIGHBOUR: 'it returns false'. Refute it at one input. -/
def splitbrainForksWrong : ChangeSpec := { name := "splitbrainForks", fn := fun _ => fun
  | [d1, d2] => { results := [.lit (.bool false)], args := [d1, d2] }
  | _ => none }
def SplitbrainForksWrongFalsely : Prop := splitbrainForksRow.holds Try.pinned (OpenSpec.ofChange splitbrainForksWrong)

/-- 'standbylaw54.SplitbrainFinds': WHATEVER THE INPUT: true; the input reads as it did. -/
def splitbrainFindsSpec : ChangeSpec := { name := "splitbrainFinds", fn := fun _ => fun
  | [d1, d2] => { results := [.lit (.bool true)], args := [d1, d2] }
  | _ => none }
def splitbrainFindsRow : OpenClaim := { program := "ytpdfhckdmblicaa", sum := "82354eb5a075959f5d5b010218a949935c68e4310191754a12cf792e8a3810f6", func := "standby/standbylaw54.SplitbrainFinds", spec := "splitbrainFinds", unfollowed := true, recurses := true, apart := false }
def SplitbrainFindsSaid : Prop := splitbrainFindsRow.holds Try.pinned (OpenSpec.ofChange splitbrainFindsSpec)

/-- ITS FALSE NEIGHBOUR: 'it returns false'. Refute it at one input. -/
def splitbrainFindsWrong : ChangeSpec := { name := "splitbrainFinds", fn := fun _ => fun
  | [d1, d2] => { results := [.lit (.bool false)], args := [d1, d2] }
  | _ => none }
def SplitbrainFindsWrongFalsely : Prop := splitbrainFindsRow.holds Try.pinned (OpenSpec.ofChange splitbrainFindsWrong)

/-- 'standbylaw54.SplitbrainMerges': WHATEVER THE INPUT: true; the input reads as it did. -/
def splitbrainMergesSpec : ChangeSpec := { name := "splitbrainMerges", fn := fun _ => fun
  | [d1, d2, d3] => { results := [.lit (.bool true)], args := [d1, d2, d3] }
  | _ => none }
def splitbrainMergesRow : OpenClaim := { program := "ytpdfhckdmblicaa", sum := "82354eb5a075959f5d5b010218a949935c68e4310191754a12cf792e8a3810f6", func := "standby/standbylaw54.SplitbrainMerges", spec := "splitbrainMerges", unfollowed := true, recurses := true, apart := false }
def SplitbrainMergesSaid : Prop := splitbrainMergesRow.holds Try.pinned (OpenSpec.ofChange splitbrainMergesSpec)

/-- ITS FALSE NEIGHBOUR: 'it returns false'. Refute it at one input. -/
def splitbrainMergesWrong : ChangeSpec := { name := "splitbrainMerges", fn := fun _ => fun
  | [d1, d2, d3] => { results := [.lit (.bool false)], args := [d1, d2, d3] }
  | _ => none }
def SplitbrainMergesWrongFalsely : Prop := splitbrainMergesRow.holds Try.pinned (OpenSpec.ofChange splitbrainMergesWrong)

/-- 'standbylaw54.SplitbrainSettles': WHATEVER THE INPUT: true; the input reads as it did. -/
def splitbrainSettlesSpec : ChangeSpec := { name := "splitbrainSettles", fn := fun _ => fun
  | [d1, d2] => { results := [.lit (.bool true)], args := [d1, d2] }
  | _ => none }
def splitbrainSettlesRow : OpenClaim := { program := "ytpdfhckdmblicaa", sum := "82354eb5a075959f5d5b010218a949935c68e4310191754a12cf792e8a3810f6", func := "standby/standbylaw54.SplitbrainSettles", spec := "splitbrainSettles", unfollowed := true, recurses := true, apart := false }
def SplitbrainSettlesSaid : Prop := splitbrainSettlesRow.holds Try.pinned (OpenSpec.ofChange splitbrainSettlesSpec)

/-- ITS FALSE NEIGHBOUR: 'it returns false'. Refute it at one input. -/
def splitbrainSettlesWrong : ChangeSpec := { name := "splitbrainSettles", fn := fun _ => fun
  | [d1, d2] => { results := [.lit (.bool false)], args := [d1, d2] }
  | _ => none }
def SplitbrainSettlesWrongFalsely : Prop := splitbrainSettlesRow.holds Try.pinned (OpenSpec.ofChange splitbrainSettlesWrong)

/-- 'standbylaw54.SplitbrainCombines': WHATEVER THE INPUT: true; the input reads as it did. -/
def splitbrainCombinesSpec : ChangeSpec := { name := "splitbrainCombines", fn := fun _ => fun
  | [d1, d2] => { results := [.lit (.bool true)], args := [d1, d2] }
  | _ => none }
def splitbrainCombinesRow : OpenClaim := { program := "ytpdfhckdmblicaa", sum := "82354eb5a075959f5d5b010218a949935c68e4310191754a12cf792e8a3810f6", func := "standby/standbylaw54.SplitbrainCombines", spec := "splitbrainCombines", unfollowed := true, recurses := true, apart := false }
def SplitbrainCombinesSaid : Prop := splitbrainCombinesRow.holds Try.pinned (OpenSpec.ofChange splitbrainCombinesSpec)

/-- ITS FALSE NEIGHBOUR: 'it returns false'. Refute it at one input. -/
def splitbrainCombinesWrong : ChangeSpec := { name := "splitbrainCombines", fn := fun _ => fun
  | [d1, d2] => { results := [.lit (.bool false)], args := [d1, d2] }
  | _ => none }
def SplitbrainCombinesWrongFalsely : Prop := splitbrainCombinesRow.holds Try.pinned (OpenSpec.ofChange splitbrainCombinesWrong)

/-- 'standbylaw54.SplitbrainSees': WHATEVER THE INPUT: true; the input reads as it did. -/
def splitbrainSeesSpec : ChangeSpec := { name := "splitbrainSees", fn := fun _ => fun
  | [d1, d2, d3] => { results := [.lit (.bool true)], args := [d1, d2, d3] }
  | _ => none }
def splitbrainSeesRow : OpenClaim := { program := "ytpdfhckdmblicaa", sum := "82354eb5a075959f5d5b010218a949935c68e4310191754a12cf792e8a3810f6", func := "standby/standbylaw54.SplitbrainSees", spec := "splitbrainSees", unfollowed := true, recurses := true, apart := false }
def SplitbrainSeesSaid : Prop := splitbrainSeesRow.holds Try.pinned (OpenSpec.ofChange splitbrainSeesSpec)

/-- ITS FALSE NEIGHBOUR: 'it returns false'. Refute it at one input. -/
def splitbrainSeesWrong : ChangeSpec := { name := "splitbrainSees", fn := fun _ => fun
  | [d1, d2, d3] => { results := [.lit (.bool false)], args := [d1, d2, d3] }
  | _ => none }
def SplitbrainSeesWrongFalsely : Prop := splitbrainSeesRow.holds Try.pinned (OpenSpec.ofChange splitbrainSeesWrong)

/- THE SECOND FORM. 'bulk': how many values and letters a reading holds, each counted each time it is reached (what is shared counts as often as it is met; a slice's spare places count too). A statement '..UptoSaid' is the law's where the arguments, and the package variables that the reading takes, are together of bulk at most 1048576: NARROWER than '..Said'. Prove '..Said' where nothing that the law and all that it calls make is longer than what came in: it says more and counts as full. Else prove '..UptoSaid'. A law counts once. -/
mutual
def uptoBulk {H : Type} : DataW H → Nat
  | .lit (.string bytes) => bytes.length + 1
  | .lit _ => 1
  | .nil => 1
  | .ptr d => uptoBulk d + 1
  | .slice elems spare => uptoBulkAll elems + uptoBulkAll spare + 1
  | .agg parts => uptoBulkAll parts + 1
  | .iface _ d => uptoBulk d + 1
  | .map entries => uptoBulkEntries entries + 1
  | .held _ => 1
def uptoBulkAll {H : Type} : List (DataW H) → Nat
  | [] => 0
  | d :: r => uptoBulk d + uptoBulkAll r
def uptoBulkEntries {H : Type} : List (Lit × DataW H) → Nat
  | [] => 0
  | x :: r => uptoBulkEntry x + uptoBulkEntries r
def uptoBulkEntry {H : Type} : Lit × DataW H → Nat
  | (.string bytes, d) => bytes.length + uptoBulk d + 1
  | (_, d) => uptoBulk d + 1
 end
def uptoSmall : (H : Type) → List (DataW H) → Bool := fun _ ds => decide (uptoBulkAll ds ≤ 1048576)
def OpenSpec.upto (s : _root_.Go.ChangeSpec) : _root_.Go.OpenSpec := { _root_.Go.OpenSpec.ofChange s with cond := some uptoSmall }

/-- 'standbylaw54.SplitbrainForks', WHERE WHAT IT READS IS OF BULK AT MOST 1048576: true; the input reads as it did. -/
def splitbrainForksUptoRow : OpenClaim := { program := "ytpdfhckdmblicaa", sum := "82354eb5a075959f5d5b010218a949935c68e4310191754a12cf792e8a3810f6", func := "standby/standbylaw54.SplitbrainForks", spec := "splitbrainForks", unfollowed := true, recurses := true, apart := false, narrowed := true }
def SplitbrainForksUptoSaid : Prop := splitbrainForksUptoRow.holds Try.pinned (OpenSpec.upto splitbrainForksSpec)

/-- 'standbylaw54.SplitbrainFinds', WHERE WHAT IT READS IS OF BULK AT MOST 1048576: true; the input reads as it did. -/
def splitbrainFindsUptoRow : OpenClaim := { program := "ytpdfhckdmblicaa", sum := "82354eb5a075959f5d5b010218a949935c68e4310191754a12cf792e8a3810f6", func := "standby/standbylaw54.SplitbrainFinds", spec := "splitbrainFinds", unfollowed := true, recurses := true, apart := false, narrowed := true }
def SplitbrainFindsUptoSaid : Prop := splitbrainFindsUptoRow.holds Try.pinned (OpenSpec.upto splitbrainFindsSpec)

/-- 'standbylaw54.SplitbrainMerges', WHERE WHAT IT READS IS OF BULK AT MOST 1048576: true; the input reads as it did. -/
def splitbrainMergesUptoRow : OpenClaim := { program := "ytpdfhckdmblicaa", sum := "82354eb5a075959f5d5b010218a949935c68e4310191754a12cf792e8a3810f6", func := "standby/standbylaw54.SplitbrainMerges", spec := "splitbrainMerges", unfollowed := true, recurses := true, apart := false, narrowed := true }
def SplitbrainMergesUptoSaid : Prop := splitbrainMergesUptoRow.holds Try.pinned (OpenSpec.upto splitbrainMergesSpec)

/-- 'standbylaw54.SplitbrainSettles', WHERE WHAT IT READS IS OF BULK AT MOST 1048576: true; the input reads as it did. -/
def splitbrainSettlesUptoRow : OpenClaim := { program := "ytpdfhckdmblicaa", sum := "82354eb5a075959f5d5b010218a949935c68e4310191754a12cf792e8a3810f6", func := "standby/standbylaw54.SplitbrainSettles", spec := "splitbrainSettles", unfollowed := true, recurses := true, apart := false, narrowed := true }
def SplitbrainSettlesUptoSaid : Prop := splitbrainSettlesUptoRow.holds Try.pinned (OpenSpec.upto splitbrainSettlesSpec)

/-- 'standbylaw54.SplitbrainCombines', WHERE WHAT IT READS IS OF BULK AT MOST 1048576: true; the input reads as it did. -/
def splitbrainCombinesUptoRow : OpenClaim := { program := "ytpdfhckdmblicaa", sum := "82354eb5a075959f5d5b010218a949935c68e4310191754a12cf792e8a3810f6", func := "standby/standbylaw54.SplitbrainCombines", spec := "splitbrainCombines", unfollowed := true, recurses := true, apart := false, narrowed := true }
def SplitbrainCombinesUptoSaid : Prop := splitbrainCombinesUptoRow.holds Try.pinned (OpenSpec.upto splitbrainCombinesSpec)

/-- 'standbylaw54.SplitbrainSees', WHERE WHAT IT READS IS OF BULK AT MOST 1048576: true; the input reads as it did. -/
def splitbrainSeesUptoRow : OpenClaim := { program := "ytpdfhckdmblicaa", sum := "82354eb5a075959f5d5b010218a949935c68e4310191754a12cf792e8a3810f6", func := "standby/standbylaw54.SplitbrainSees", spec := "splitbrainSees", unfollowed := true, recurses := true, apart := false, narrowed := true }
def SplitbrainSeesUptoSaid : Prop := splitbrainSeesUptoRow.holds Try.pinned (OpenSpec.upto splitbrainSeesSpec)

end Rows
end Go.Proofs.Ytpdfhckdmblicaa
