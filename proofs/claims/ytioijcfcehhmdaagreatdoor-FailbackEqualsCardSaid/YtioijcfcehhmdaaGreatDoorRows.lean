/-
  NARROWER THAN 'FOR EVERY INPUT', by the rows' own cells (each row's printed sentence says how): FailbackRounds: laid · FailbackEnds: laid · FailbackCounts: laid · FailbackRefuses: laid · FailbackBegins: laid · FailbackCovers: laid · FailbackEquals: laid.
  DERIVED. THE GIVEN ROWS OF THIS SEAT. 7 by the template 'for every input the law returns true; each argument reads behind the call as it read before'; 0 by the template 'total and deterministic' (their statements: YtioijcfcehhmdaaGreatDoorTotals.lean).
  GIVEN WITH THE SEED: the statements are not yours to turn. If you find one false, say at which input.
  Laid BY PROGRAM, IN A SANDBOX (cutbox-rows.mjs): the forced cells as the released guide's own fill.sh prints them over the translation 6ae605daddea49af… (all of the seat's roots in one cut). By AI agents, Wed Nov 11 2026. No macro, syntax, notation, axiom, sorry.
-/
import Derived.Test.YtioijcfcehhmdaaGreatDoorChecked
import GoSem.Claim
import GoSem.ClaimJoined
import GoSem.ClaimMapViews
import Derived.JoinedTies
import Derived.KernelRfl
namespace Go.Proofs.YtioijcfcehhmdaaGreatDoor
/- THE CELL 'sum', in the pinned program and in every row, IS THE sha256 OF THE DUMP (.gsa) THAT YtioijcfcehhmdaaGreatDoorProg.lean LOADS. Nothing in Lean hashes anything: it is a label: what it is worth is what the hold of that sum in a sandbox is worth. -/
noncomputable def Tryz.pinned : Pinned := { name := "ytioijcfcehhmdaagreatdoor", sum := "6ae605daddea49af3f853fb7b1713f7764337518596688c31c3a92978a3d1811", checked := Tryz.checked }
namespace Rows
def none {H : Type} : Left H := { results := [], args := [] }

/- WHAT THE LISTED PACKAGE-LEVEL VARIABLES READ AS WHEN THE CALL BEGINS. Each datum BY PROGRAM (the guide's laid-datum.mjs) off the statement by which the dump's own 'gosem.cut.vars' lays the variable. In a bare row this is a premise. The card (YtioijcfcehhmdaaGreatDoorCards.lean) ties it to the program's text. -/
def laid_math_bits_deBruijn64tab {H : Type} : DataW H := .agg [.lit (.int .u8 0), .lit (.int .u8 1), .lit (.int .u8 56), .lit (.int .u8 2), .lit (.int .u8 57), .lit (.int .u8 49), .lit (.int .u8 28), .lit (.int .u8 3), .lit (.int .u8 61), .lit (.int .u8 58), .lit (.int .u8 42), .lit (.int .u8 50), .lit (.int .u8 38), .lit (.int .u8 29), .lit (.int .u8 17), .lit (.int .u8 4), .lit (.int .u8 62), .lit (.int .u8 47), .lit (.int .u8 59), .lit (.int .u8 36), .lit (.int .u8 45), .lit (.int .u8 43), .lit (.int .u8 51), .lit (.int .u8 22), .lit (.int .u8 53), .lit (.int .u8 39), .lit (.int .u8 33), .lit (.int .u8 30), .lit (.int .u8 24), .lit (.int .u8 18), .lit (.int .u8 12), .lit (.int .u8 5), .lit (.int .u8 63), .lit (.int .u8 55), .lit (.int .u8 48), .lit (.int .u8 27), .lit (.int .u8 60), .lit (.int .u8 41), .lit (.int .u8 37), .lit (.int .u8 16), .lit (.int .u8 46), .lit (.int .u8 35), .lit (.int .u8 44), .lit (.int .u8 21), .lit (.int .u8 52), .lit (.int .u8 32), .lit (.int .u8 23), .lit (.int .u8 11), .lit (.int .u8 54), .lit (.int .u8 26), .lit (.int .u8 40), .lit (.int .u8 15), .lit (.int .u8 34), .lit (.int .u8 20), .lit (.int .u8 31), .lit (.int .u8 10), .lit (.int .u8 25), .lit (.int .u8 14), .lit (.int .u8 19), .lit (.int .u8 9), .lit (.int .u8 13), .lit (.int .u8 8), .lit (.int .u8 7), .lit (.int .u8 6)]

/-- 'standbylaw48.FailbackRounds': WHATEVER THE INPUT: true; the input reads as it did. -/
def failbackRoundsSpec : ChangeSpec := { name := "failbackRounds", fn := fun _ => fun
  | [d1, d2, d3] => { results := [.lit (.bool true)], args := [d1, d2, d3] }
  | _ => none }
def failbackRoundsRow : OpenClaim := { program := "ytioijcfcehhmdaagreatdoor", sum := "6ae605daddea49af3f853fb7b1713f7764337518596688c31c3a92978a3d1811", func := "standby/standbylaw48.FailbackRounds", spec := "failbackRounds", unfollowed := true, recurses := true, named := ["math/bits.deBruijn64tab"], apart := false, laid := [("math/bits.deBruijn64tab", laid_math_bits_deBruijn64tab)] }
def FailbackRoundsSaid : Prop := failbackRoundsRow.holds Tryz.pinned (OpenSpec.ofChange failbackRoundsSpec)

/-- ITS FALSE NEIGHBOUR: 'it returns false'. Refute it at one input. -/
def failbackRoundsWrong : ChangeSpec := { name := "failbackRounds", fn := fun _ => fun
  | [d1, d2, d3] => { results := [.lit (.bool false)], args := [d1, d2, d3] }
  | _ => none }
def FailbackRoundsWrongFalsely : Prop := failbackRoundsRow.holds Tryz.pinned (OpenSpec.ofChange failbackRoundsWrong)

/-- 'standbylaw48.FailbackEnds': WHATEVER THE INPUT: true; the input reads as it did. -/
def failbackEndsSpec : ChangeSpec := { name := "failbackEnds", fn := fun _ => fun
  | [d1, d2, d3] => { results := [.lit (.bool true)], args := [d1, d2, d3] }
  | _ => none }
def failbackEndsRow : OpenClaim := { program := "ytioijcfcehhmdaagreatdoor", sum := "6ae605daddea49af3f853fb7b1713f7764337518596688c31c3a92978a3d1811", func := "standby/standbylaw48.FailbackEnds", spec := "failbackEnds", unfollowed := true, recurses := true, named := ["math/bits.deBruijn64tab"], apart := false, laid := [("math/bits.deBruijn64tab", laid_math_bits_deBruijn64tab)] }
def FailbackEndsSaid : Prop := failbackEndsRow.holds Tryz.pinned (OpenSpec.ofChange failbackEndsSpec)

/-- ITS FALSE NEIGHBOUR: 'it returns false'. Refute it at one input. -/
def failbackEndsWrong : ChangeSpec := { name := "failbackEnds", fn := fun _ => fun
  | [d1, d2, d3] => { results := [.lit (.bool false)], args := [d1, d2, d3] }
  | _ => none }
def FailbackEndsWrongFalsely : Prop := failbackEndsRow.holds Tryz.pinned (OpenSpec.ofChange failbackEndsWrong)

/-- 'standbylaw48.FailbackCounts': WHATEVER THE INPUT: true; the input reads as it did. -/
def failbackCountsSpec : ChangeSpec := { name := "failbackCounts", fn := fun _ => fun
  | [d] => { results := [.lit (.bool true)], args := [d] }
  | _ => none }
def failbackCountsRow : OpenClaim := { program := "ytioijcfcehhmdaagreatdoor", sum := "6ae605daddea49af3f853fb7b1713f7764337518596688c31c3a92978a3d1811", func := "standby/standbylaw48.FailbackCounts", spec := "failbackCounts", unfollowed := true, recurses := true, named := ["math/bits.deBruijn64tab"], apart := false, laid := [("math/bits.deBruijn64tab", laid_math_bits_deBruijn64tab)] }
def FailbackCountsSaid : Prop := failbackCountsRow.holds Tryz.pinned (OpenSpec.ofChange failbackCountsSpec)

/-- ITS FALSE NEIGHBOUR: 'it returns false'. Refute it at one input. -/
def failbackCountsWrong : ChangeSpec := { name := "failbackCounts", fn := fun _ => fun
  | [d] => { results := [.lit (.bool false)], args := [d] }
  | _ => none }
def FailbackCountsWrongFalsely : Prop := failbackCountsRow.holds Tryz.pinned (OpenSpec.ofChange failbackCountsWrong)

/-- 'standbylaw48.FailbackRefuses': WHATEVER THE INPUT: true; the input reads as it did. -/
def failbackRefusesSpec : ChangeSpec := { name := "failbackRefuses", fn := fun _ => fun
  | [d1, d2, d3] => { results := [.lit (.bool true)], args := [d1, d2, d3] }
  | _ => none }
def failbackRefusesRow : OpenClaim := { program := "ytioijcfcehhmdaagreatdoor", sum := "6ae605daddea49af3f853fb7b1713f7764337518596688c31c3a92978a3d1811", func := "standby/standbylaw48.FailbackRefuses", spec := "failbackRefuses", unfollowed := true, recurses := true, named := ["math/bits.deBruijn64tab"], apart := false, laid := [("math/bits.deBruijn64tab", laid_math_bits_deBruijn64tab)] }
def FailbackRefusesSaid : Prop := failbackRefusesRow.holds Tryz.pinned (OpenSpec.ofChange failbackRefusesSpec)

/-- ITS FALSE NEIGHBOUR: 'it returns false'. Refute it at one input. -/
def failbackRefusesWrong : ChangeSpec := { name := "failbackRefuses", fn := fun _ => fun
  | [d1, d2, d3] => { results := [.lit (.bool false)], args := [d1, d2, d3] }
  | _ => none }
def FailbackRefusesWrongFalsely : Prop := failbackRefusesRow.holds Tryz.pinned (OpenSpec.ofChange failbackRefusesWrong)

/-- 'standbylaw48.FailbackBegins': WHATEVER THE INPUT: true; the input reads as it did. -/
def failbackBeginsSpec : ChangeSpec := { name := "failbackBegins", fn := fun _ => fun
  | [d1, d2, d3] => { results := [.lit (.bool true)], args := [d1, d2, d3] }
  | _ => none }
def failbackBeginsRow : OpenClaim := { program := "ytioijcfcehhmdaagreatdoor", sum := "6ae605daddea49af3f853fb7b1713f7764337518596688c31c3a92978a3d1811", func := "standby/standbylaw48.FailbackBegins", spec := "failbackBegins", unfollowed := true, recurses := true, named := ["math/bits.deBruijn64tab"], apart := false, laid := [("math/bits.deBruijn64tab", laid_math_bits_deBruijn64tab)] }
def FailbackBeginsSaid : Prop := failbackBeginsRow.holds Tryz.pinned (OpenSpec.ofChange failbackBeginsSpec)

/-- ITS FALSE NEIGHBOUR: 'it returns false'. Refute it at one input. -/
def failbackBeginsWrong : ChangeSpec := { name := "failbackBegins", fn := fun _ => fun
  | [d1, d2, d3] => { results := [.lit (.bool false)], args := [d1, d2, d3] }
  | _ => none }
def FailbackBeginsWrongFalsely : Prop := failbackBeginsRow.holds Tryz.pinned (OpenSpec.ofChange failbackBeginsWrong)

/-- 'standbylaw48.FailbackCovers': WHATEVER THE INPUT: true; the input reads as it did. -/
def failbackCoversSpec : ChangeSpec := { name := "failbackCovers", fn := fun _ => fun
  | [d] => { results := [.lit (.bool true)], args := [d] }
  | _ => none }
def failbackCoversRow : OpenClaim := { program := "ytioijcfcehhmdaagreatdoor", sum := "6ae605daddea49af3f853fb7b1713f7764337518596688c31c3a92978a3d1811", func := "standby/standbylaw48.FailbackCovers", spec := "failbackCovers", unfollowed := true, recurses := true, named := ["math/bits.deBruijn64tab"], apart := false, laid := [("math/bits.deBruijn64tab", laid_math_bits_deBruijn64tab)] }
def FailbackCoversSaid : Prop := failbackCoversRow.holds Tryz.pinned (OpenSpec.ofChange failbackCoversSpec)

/-- ITS FALSE NEIGHBOUR: 'it returns false'. Refute it at one input. -/
def failbackCoversWrong : ChangeSpec := { name := "failbackCovers", fn := fun _ => fun
  | [d] => { results := [.lit (.bool false)], args := [d] }
  | _ => none }
def FailbackCoversWrongFalsely : Prop := failbackCoversRow.holds Tryz.pinned (OpenSpec.ofChange failbackCoversWrong)

/-- 'standbylaw48.FailbackEquals': WHATEVER THE INPUT: true; the input reads as it did. -/
def failbackEqualsSpec : ChangeSpec := { name := "failbackEquals", fn := fun _ => fun
  | [d] => { results := [.lit (.bool true)], args := [d] }
  | _ => none }
def failbackEqualsRow : OpenClaim := { program := "ytioijcfcehhmdaagreatdoor", sum := "6ae605daddea49af3f853fb7b1713f7764337518596688c31c3a92978a3d1811", func := "standby/standbylaw48.FailbackEquals", spec := "failbackEquals", unfollowed := true, recurses := true, named := ["math/bits.deBruijn64tab"], apart := false, laid := [("math/bits.deBruijn64tab", laid_math_bits_deBruijn64tab)] }
def FailbackEqualsSaid : Prop := failbackEqualsRow.holds Tryz.pinned (OpenSpec.ofChange failbackEqualsSpec)

/-- ITS FALSE NEIGHBOUR: 'it returns false'. Refute it at one input. -/
def failbackEqualsWrong : ChangeSpec := { name := "failbackEquals", fn := fun _ => fun
  | [d] => { results := [.lit (.bool false)], args := [d] }
  | _ => none }
def FailbackEqualsWrongFalsely : Prop := failbackEqualsRow.holds Tryz.pinned (OpenSpec.ofChange failbackEqualsWrong)

/- THE SECOND FORM. 'bulk': how many values and letters a reading holds, each counted each time it is reached (what is shared counts as often as it is met; a slice's spare places count too). A statement '..UptoSaid' is the law's where the arguments, and the package variables that the reading takes, are together of bulk at most 1048576: NARROWER than '..Said'. Prove '..Said' where nothing that the law and all that it calls make is longer than what came in: it says more and counts as full. Else prove '..UptoSaid'. A law counts once. -/
mutual
def uptoBulk {H : Type} : DataW H → Nat
  | .lit (.string bytes) => bytes.length + 1
  | .lit _ => 1
  | .nil => 1
  | .ptr d => uptoBulk d + 1
  | .slice elems spare => uptoBulkAll elems + uptoBulkAll spare + 1
  | .agg parts => uptoBulkAll parts + 1
  | .iface _ d => uptoBulk d + 1
  | .map entries => uptoBulkEntries entries + 1
  | .held _ => 1
def uptoBulkAll {H : Type} : List (DataW H) → Nat
  | [] => 0
  | d :: r => uptoBulk d + uptoBulkAll r
def uptoBulkEntries {H : Type} : List (Lit × DataW H) → Nat
  | [] => 0
  | x :: r => uptoBulkEntry x + uptoBulkEntries r
def uptoBulkEntry {H : Type} : Lit × DataW H → Nat
  | (.string bytes, d) => bytes.length + uptoBulk d + 1
  | (_, d) => uptoBulk d + 1
 end
def uptoSmall : (H : Type) → List (DataW H) → Bool := fun _ ds => decide (uptoBulkAll ds ≤ 1048576)
def OpenSpec.upto (s : _root_.Go.ChangeSpec) : _root_.Go.OpenSpec := { _root_.Go.OpenSpec.ofChange s with cond := some uptoSmall }

/-- 'standbylaw48.FailbackRounds', WHERE WHAT IT READS IS OF BULK AT MOST 1048576: true; the input reads as it did. -/
def failbackRoundsUptoRow : OpenClaim := { program := "ytioijcfcehhmdaagreatdoor", sum := "6ae605daddea49af3f853fb7b1713f7764337518596688c31c3a92978a3d1811", func := "standby/standbylaw48.FailbackRounds", spec := "failbackRounds", unfollowed := true, recurses := true, named := ["math/bits.deBruijn64tab"], apart := false, laid := [("math/bits.deBruijn64tab", laid_math_bits_deBruijn64tab)], narrowed := true }
def FailbackRoundsUptoSaid : Prop := failbackRoundsUptoRow.holds Tryz.pinned (OpenSpec.upto failbackRoundsSpec)

/-- 'standbylaw48.FailbackEnds', WHERE WHAT IT READS IS OF BULK AT MOST 1048576: true; the input reads as it did. -/
def failbackEndsUptoRow : OpenClaim := { program := "ytioijcfcehhmdaagreatdoor", sum := "6ae605daddea49af3f853fb7b1713f7764337518596688c31c3a92978a3d1811", func := "standby/standbylaw48.FailbackEnds", spec := "failbackEnds", unfollowed := true, recurses := true, named := ["math/bits.deBruijn64tab"], apart := false, laid := [("math/bits.deBruijn64tab", laid_math_bits_deBruijn64tab)], narrowed := true }
def FailbackEndsUptoSaid : Prop := failbackEndsUptoRow.holds Tryz.pinned (OpenSpec.upto failbackEndsSpec)

/-- 'standbylaw48.FailbackCounts', WHERE WHAT IT READS IS OF BULK AT MOST 1048576: true; the input reads as it did. -/
def failbackCountsUptoRow : OpenClaim := { program := "ytioijcfcehhmdaagreatdoor", sum := "6ae605daddea49af3f853fb7b1713f7764337518596688c31c3a92978a3d1811", func := "standby/standbylaw48.FailbackCounts", spec := "failbackCounts", unfollowed := true, recurses := true, named := ["math/bits.deBruijn64tab"], apart := false, laid := [("math/bits.deBruijn64tab", laid_math_bits_deBruijn64tab)], narrowed := true }
def FailbackCountsUptoSaid : Prop := failbackCountsUptoRow.holds Tryz.pinned (OpenSpec.upto failbackCountsSpec)

/-- 'standbylaw48.FailbackRefuses', WHERE WHAT IT READS IS OF BULK AT MOST 1048576: true; the input reads as it did. -/
def failbackRefusesUptoRow : OpenClaim := { program := "ytioijcfcehhmdaagreatdoor", sum := "6ae605daddea49af3f853fb7b1713f7764337518596688c31c3a92978a3d1811", func := "standby/standbylaw48.FailbackRefuses", spec := "failbackRefuses", unfollowed := true, recurses := true, named := ["math/bits.deBruijn64tab"], apart := false, laid := [("math/bits.deBruijn64tab", laid_math_bits_deBruijn64tab)], narrowed := true }
def FailbackRefusesUptoSaid : Prop := failbackRefusesUptoRow.holds Tryz.pinned (OpenSpec.upto failbackRefusesSpec)

/-- 'standbylaw48.FailbackBegins', WHERE WHAT IT READS IS OF BULK AT MOST 1048576: true; the input reads as it did. -/
def failbackBeginsUptoRow : OpenClaim := { program := "ytioijcfcehhmdaagreatdoor", sum := "6ae605daddea49af3f853fb7b1713f7764337518596688c31c3a92978a3d1811", func := "standby/standbylaw48.FailbackBegins", spec := "failbackBegins", unfollowed := true, recurses := true, named := ["math/bits.deBruijn64tab"], apart := false, laid := [("math/bits.deBruijn64tab", laid_math_bits_deBruijn64tab)], narrowed := true }
def FailbackBeginsUptoSaid : Prop := failbackBeginsUptoRow.holds Tryz.pinned (OpenSpec.upto failbackBeginsSpec)

/-- 'standbylaw48.FailbackCovers', WHERE WHAT IT READS IS OF BULK AT MOST 1048576: true; the input reads as it did. -/
def failbackCoversUptoRow : OpenClaim := { program := "ytioijcfcehhmdaagreatdoor", sum := "6ae605daddea49af3f853fb7b1713f7764337518596688c31c3a92978a3d1811", func := "standby/standbylaw48.FailbackCovers", spec := "failbackCovers", unfollowed := true, recurses := true, named := ["math/bits.deBruijn64tab"], apart := false, laid := [("math/bits.deBruijn64tab", laid_math_bits_deBruijn64tab)], narrowed := true }
def FailbackCoversUptoSaid : Prop := failbackCoversUptoRow.holds Tryz.pinned (OpenSpec.upto failbackCoversSpec)

/-- 'standbylaw48.FailbackEquals', WHERE WHAT IT READS IS OF BULK AT MOST 1048576: true; the input reads as it did. -/
def failbackEqualsUptoRow : OpenClaim := { program := "ytioijcfcehhmdaagreatdoor", sum := "6ae605daddea49af3f853fb7b1713f7764337518596688c31c3a92978a3d1811", func := "standby/standbylaw48.FailbackEquals", spec := "failbackEquals", unfollowed := true, recurses := true, named := ["math/bits.deBruijn64tab"], apart := false, laid := [("math/bits.deBruijn64tab", laid_math_bits_deBruijn64tab)], narrowed := true }
def FailbackEqualsUptoSaid : Prop := failbackEqualsUptoRow.holds Tryz.pinned (OpenSpec.upto failbackEqualsSpec)

end Rows
end Go.Proofs.YtioijcfcehhmdaaGreatDoor
