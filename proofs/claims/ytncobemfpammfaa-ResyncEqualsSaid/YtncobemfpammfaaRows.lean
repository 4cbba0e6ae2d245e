/-
  No cell of these rows narrows 'for every input' (looked for: loops, veiled, ifaces, maps, wideKeys, modest, calm, conditions, laid).
  DERIVED. THE GIVEN ROWS OF THIS SEAT. 3 by the template 'for every input the law returns true; each argument reads behind the call as it read before'; 0 by the template 'total and deterministic' (their statements: YtncobemfpammfaaTotals.lean).
  GIVEN WITH THE SEED: the statements are not yours to turn. If you find one false, say at which input.
  Laid BY PROGRAM, IN A SANDBOX (cutbox-rows.mjs): the forced cells as the released guide's own fill.sh prints them over the translation 22800f057e14a68e… (all of the seat's roots in one cut). By AI agents, Wed Nov 11 2026. No macro, syntax, notation, axiom, sorry.
-/
import Derived.Test.YtncobemfpammfaaChecked
import GoSem.Claim
import GoSem.ClaimJoined
import GoSem.ClaimMapViews
import Derived.JoinedTies
import Derived.KernelRfl
namespace Go.Proofs.Ytncobemfpammfaa
/- THE CELL 'sum', in the pinned program and in every row, IS THE sha256 OF THE DUMP (.gsa) THAT YtncobemfpammfaaProg.lean LOADS. Nothing in Lean hashes anything: it is a label: what it is worth is what the hold of that sum in a sandbox is worth. -/
noncomputable def Try.pinned : Pinned := { name := "ytncobemfpammfaa", sum := "22800f057e14a68e268778784043b22421fa4ea17f211b58c83bed5a8f12ba8d", checked := Try.checked }
namespace Rows
def none {H : Type} : Left H := { results := [], args := [] }

/-- 'standbylaw45.ResyncNeeds': WHATEVER THE INPUT: true; the input reads as it did. -/
def resyncNeedsSpec : ChangeSpec := { name := "resyncNeeds", fn := fun _ => fun
  | [d1, d2, d3] => { results := [.lit (.bool true)], args := [d1, d2, d3] }
  | _ => none }
def resyncNeedsRow : OpenClaim := { program := "ytncobemfpammfaa", sum := "22800f057e14a68e268778784043b22421fa4ea17f211b58c83bed5a8f12ba8d", func := "standby/standbylaw45.ResyncNeeds", spec := "resyncNeeds", unfollowed := true, recurses := true, apart := false }
def ResyncNeedsSaid : Prop := resyncNeedsRow.holds Try.pinned (OpenSpec.ofChange resyncNeedsSpec)

/-- ITS FALSE NEIGHBOUR: 'it returns false'. Refute it at one input. -/
def resyncNeedsWrong : ChangeSpec := { name := "resyncNeeds", fn := fun _ => fun
  | [d1, d2, d3] => { results := [.lit (.bool false)], args := [d1, d2, d3] }
  | _ => none }
def ResyncNeedsWrongFalsely : Prop := resyncNeedsRow.holds Try.pinned (OpenSpec.ofChange resyncNeedsWrong)

/-- 'standbylaw45.ResyncCosts': WHATEVER THE INPUT: true; the input reads as it did. -/
def resyncCostsSpec : ChangeSpec := { name := "resyncCosts", fn := fun _ => fun
  | [d] => { results := [.lit (.bool true)], args := [d] }
  | _ => none }
def resyncCostsRow : OpenClaim := { program := "ytncobemfpammfaa", sum := "22800f057e14a68e268778784043b22421fa4ea17f211b58c83bed5a8f12ba8d", func := "standby/standbylaw45.ResyncCosts", spec := "resyncCosts", unfollowed := true, recurses := true, apart := false }
def ResyncCostsSaid : Prop := resyncCostsRow.holds Try.pinned (OpenSpec.ofChange resyncCostsSpec)

/-- ITS FALSE NEIGHBOUR: 'it returns false'. Refute it at one input. -/
def resyncCostsWrong : ChangeSpec := { name := "resyncCosts", fn := fun _ => fun
  | [d] => { results := [.lit (.bool false)], args := [d] }
  | _ => none }
def ResyncCostsWrongFalsely : Prop := resyncCostsRow.holds Try.pinned (OpenSpec.ofChange resyncCostsWrong)

/-- 'standbylaw45.ResyncEquals': WHATEVER THE INPUT: true; the input reads as it did. -/
def resyncEqualsSpec : ChangeSpec := { name := "resyncEquals", fn := fun _ => fun
  | [d1, d2, d3] => { results := [.lit (.bool true)], args := [d1, d2, d3] }
  | _ => none }
def resyncEqualsRow : OpenClaim := { program := "ytncobemfpammfaa", sum := "22800f057e14a68e268778784043b22421fa4ea17f211b58c83bed5a8f12ba8d", func := "standby/standbylaw45.ResyncEquals", spec := "resyncEquals", unfollowed := true, recurses := true, apart := false }
def ResyncEqualsSaid : Prop := resyncEqualsRow.holds Try.pinned (OpenSpec.ofChange resyncEqualsSpec)

/-- ITS FALSE NEIGHBOUR: 'it returns false'. Refute it at one input. -/
def resyncEqualsWrong : ChangeSpec := { name := "resyncEquals", fn := fun _ => fun
  | [d1, d2, d3] => { results := [.lit (.bool false)], args := [d1, d2, d3] }
  | _ => none }
def ResyncEqualsWrongFalsely : Prop := resyncEqualsRow.holds Try.pinned (OpenSpec.ofChange resyncEqualsWrong)

/- THE SECOND FORM. 'bulk': how many values and letters a reading holds, each counted each time it is reached (what is shared counts as often as it is met; a slice's spare places count too). A statement '..UptoSaid' is the law's where the arguments, and the package variables that the reading takes, are together of bulk at most 1048576: NARROWER than '..Said'. Prove '..Said' where nothing that the law and all that it calls make is longer than what came in: it says more and counts as full. Else prove '..UptoSaid'. A law counts once. -/
mutual
def uptoBulk {H : Type} : DataW H → Nat
  | .lit (.string bytes) => bytes.length + 1
  | .lit _ => 1
  | .nil => 1
  | .ptr d => uptoBulk d + 1
  | .slice elems spare => uptoBulkAll elems + uptoBulkAll spare + 1
  | .agg parts => uptoBulkAll parts + 1
  | .iface _ d => uptoBulk d + 1
  | .map entries => uptoBulkEntries entries + 1
  | .held _ => 1
def uptoBulkAll {H : Type} : List (DataW H) → Nat
  | [] => 0
  | d :: r => uptoBulk d + uptoBulkAll r
def uptoBulkEntries {H : Type} : List (Lit × DataW H) → Nat
  | [] => 0
  | x :: r => uptoBulkEntry x + uptoBulkEntries r
def uptoBulkEntry {H : Type} : Lit × DataW H → Nat
  | (.string bytes, d) => bytes.length + uptoBulk d + 1
  | (_, d) => uptoBulk d + 1
 end
def uptoSmall : (H : Type) → List (DataW H) → Bool := fun _ ds => decide (uptoBulkAll ds ≤ 1048576)
def OpenSpec.upto (s : _root_.Go.ChangeSpec) : _root_.Go.OpenSpec := { _root_.Go.OpenSpec.ofChange s with cond := some uptoSmall }

/-- 'standbylaw45.ResyncNeeds', WHERE WHAT IT READS IS OF BULK AT MOST 1048576: true; the input reads as it did. -/
def resyncNeedsUptoRow : OpenClaim := { program := "ytncobemfpammfaa", sum := "22800f057e14a68e268778784043b22421fa4ea17f211b58c83bed5a8f12ba8d", func := "standby/standbylaw45.ResyncNeeds", spec := "resyncNeeds", unfollowed := true, recurses := true, apart := false, narrowed := true }
def ResyncNeedsUptoSaid : Prop := resyncNeedsUptoRow.holds Try.pinned (OpenSpec.upto resyncNeedsSpec)

/-- 'standbylaw45.ResyncCosts', WHERE WHAT IT READS IS OF BULK AT MOST 1048576: true; the input reads as it did. -/
def resyncCostsUptoRow : OpenClaim := { program := "ytncobemfpammfaa", sum := "22800f057e14a68e268778784043b22421fa4ea17f211b58c83bed5a8f12ba8d", func := "standby/standbylaw45.ResyncCosts", spec := "resyncCosts", unfollowed := true, recurses := true, apart := false, narrowed := true }
def ResyncCostsUptoSaid : Prop := resyncCostsUptoRow.holds Try.pinned (OpenSpec.upto resyncCostsSpec)

/-- 'standbylaw45.ResyncEquals', WHERE WHAT IT READS IS OF BULK AT MOST 1048576: true; the input reads as it did. -/
def resyncEqualsUptoRow : OpenClaim := { program := "ytncobemfpammfaa", sum := "22800f057e14a68e268778784043b22421fa4ea17f211b58c83bed5a8f12ba8d", func := "standby/standbylaw45.ResyncEquals", spec := "resyncEquals", unfollowed := true, recurses := true, apart := false, narrowed := true }
def ResyncEqualsUptoSaid : Prop := resyncEqualsUptoRow.holds Try.pinned (OpenSpec.upto resyncEqualsSpec)

end Rows
end Go.Proofs.Ytncobemfpammfaa
