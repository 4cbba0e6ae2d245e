/-
  NARROWER THAN 'FOR EVERY INPUT', by the rows' own cells (each row's printed sentence says how): SpillMakes: laid · SpillPushes: laid · SpillPops: laid · SpillDrains: laid · SpillKeeps: laid · SpillLimits: laid · SpillTransfers: laid.
  DERIVED. THE GIVEN ROWS OF THIS SEAT. 7 by the template 'for every input the law returns true; each argument reads behind the call as it read before'; 0 by the template 'total and deterministic' (their statements: YtpcncggjmabnaaaGreatDoorTotals.lean).
  GIVEN WITH THE SEED: the statements are not yours to turn. If you find one false, say at which input.
  Laid BY PROGRAM, IN A SANDBOX (cutbox-rows.mjs): the forced cells as the released guide's own fill.sh prints them over the translation 4d114881fa371acc… (all of the seat's roots in one cut). By AI agents, Wed Nov 11 2026. No macro, syntax, notation, axiom, sorry.
-/
import Derived.Test.YtpcncggjmabnaaaGreatDoorChecked
import GoSem.Claim
import GoSem.ClaimJoined
import GoSem.ClaimMapViews
import Derived.JoinedTies
import Derived.KernelRfl
namespace Go.Proofs.YtpcncggjmabnaaaGreatDoor
/- THE CELL 'sum', in the pinned program and in every row, IS THE sha256 OF THE DUMP (.gsa) THAT YtpcncggjmabnaaaGreatDoorProg.lean LOADS. Nothing in Lean hashes anything: it is a label: what it is worth is what the hold of that sum in a sandbox is worth. -/
noncomputable def Tryz.pinned : Pinned := { name := "ytpcncggjmabnaaagreatdoor", sum := "4d114881fa371acc765893c6d63cf81545e40afcbe84e7fbb76c4f81d983918b", checked := Tryz.checked }
namespace Rows
def none {H : Type} : Left H := { results := [], args := [] }

/- WHAT THE LISTED PACKAGE-LEVEL VARIABLES READ AS WHEN THE CALL BEGINS. Each datum BY PROGRAM (the guide's laid-datum.mjs) off the statement by which the dump's own 'gosem.cut.vars' lays the variable. In a bare row this is a premise. The card (YtpcncggjmabnaaaGreatDoorCards.lean) ties it to the program's text. -/
def laid_math_bits_deBruijn64tab {H : Type} : DataW H := .agg [.lit (.int .u8 0), .lit (.int .u8 1), .lit (.int .u8 56), .lit (.int .u8 2), .lit (.int .u8 57), .lit (.int .u8 49), .lit (.int .u8 28), .lit (.int .u8 3), .lit (.int .u8 61), .lit (.int .u8 58), .lit (.int .u8 42), .lit (.int .u8 50), .lit (.int .u8 38), .lit (.int .u8 29), .lit (.int .u8 17), .lit (.int .u8 4), .lit (.int .u8 62), .lit (.int .u8 47), .lit (.int .u8 59), .lit (.int .u8 36), .lit (.int .u8 45), .lit (.int .u8 43), .lit (.int .u8 51), .lit (.int .u8 22), .lit (.int .u8 53), .lit (.int .u8 39), .lit (.int .u8 33), .lit (.int .u8 30), .lit (.int .u8 24), .lit (.int .u8 18), .lit (.int .u8 12), .lit (.int .u8 5), .lit (.int .u8 63), .lit (.int .u8 55), .lit (.int .u8 48), .lit (.int .u8 27), .lit (.int .u8 60), .lit (.int .u8 41), .lit (.int .u8 37), .lit (.int .u8 16), .lit (.int .u8 46), .lit (.int .u8 35), .lit (.int .u8 44), .lit (.int .u8 21), .lit (.int .u8 52), .lit (.int .u8 32), .lit (.int .u8 23), .lit (.int .u8 11), .lit (.int .u8 54), .lit (.int .u8 26), .lit (.int .u8 40), .lit (.int .u8 15), .lit (.int .u8 34), .lit (.int .u8 20), .lit (.int .u8 31), .lit (.int .u8 10), .lit (.int .u8 25), .lit (.int .u8 14), .lit (.int .u8 19), .lit (.int .u8 9), .lit (.int .u8 13), .lit (.int .u8 8), .lit (.int .u8 7), .lit (.int .u8 6)]

/-- 'standbylaw24.SpillMakes': WHATEVER THE INPUT: true; the input reads as it did. -/
def spillMakesSpec : ChangeSpec := { name := "spillMakes", fn := fun _ => fun
  | [d1, d2] => { results := [.lit (.bool true)], args := [d1, d2] }
  | _ => none }
def spillMakesRow : OpenClaim := { program := "ytpcncggjmabnaaagreatdoor", sum := "4d114881fa371acc765893c6d63cf81545e40afcbe84e7fbb76c4f81d983918b", func := "standby/standbylaw24.SpillMakes", spec := "spillMakes", unfollowed := true, recurses := true, named := ["math/bits.deBruijn64tab"], apart := false, laid := [("math/bits.deBruijn64tab", laid_math_bits_deBruijn64tab)] }
def SpillMakesSaid : Prop := spillMakesRow.holds Tryz.pinned (OpenSpec.ofChange spillMakesSpec)

/-- ITS FALSE NEIGHBOUR: 'it returns false'. Refute it at one input. -/
def spillMakesWrong : ChangeSpec := { name := "spillMakes", fn := fun _ => fun
  | [d1, d2] => { results := [.lit (.bool false)], args := [d1, d2] }
  | _ => none }
def SpillMakesWrongFalsely : Prop := spillMakesRow.holds Tryz.pinned (OpenSpec.ofChange spillMakesWrong)

/-- 'standbylaw24.SpillPushes': WHATEVER THE INPUT: true; the input reads as it did. -/
def spillPushesSpec : ChangeSpec := { name := "spillPushes", fn := fun _ => fun
  | [d1, d2] => { results := [.lit (.bool true)], args := [d1, d2] }
  | _ => none }
def spillPushesRow : OpenClaim := { program := "ytpcncggjmabnaaagreatdoor", sum := "4d114881fa371acc765893c6d63cf81545e40afcbe84e7fbb76c4f81d983918b", func := "standby/standbylaw24.SpillPushes", spec := "spillPushes", unfollowed := true, recurses := true, named := ["math/bits.deBruijn64tab"], apart := false, laid := [("math/bits.deBruijn64tab", laid_math_bits_deBruijn64tab)] }
def SpillPushesSaid : Prop := spillPushesRow.holds Tryz.pinned (OpenSpec.ofChange spillPushesSpec)

/-- ITS FALSE NEIGHBOUR: 'it returns false'. Refute it at one input. -/
def spillPushesWrong : ChangeSpec := { name := "spillPushes", fn := fun _ => fun
  | [d1, d2] => { results := [.lit (.bool false)], args := [d1, d2] }
  | _ => none }
def SpillPushesWrongFalsely : Prop := spillPushesRow.holds Tryz.pinned (OpenSpec.ofChange spillPushesWrong)

/-- 'standbylaw24.SpillPops': WHATEVER THE INPUT: true; the input reads as it did. -/
def spillPopsSpec : ChangeSpec := { name := "spillPops", fn := fun _ => fun
  | [d1, d2] => { results := [.lit (.bool true)], args := [d1, d2] }
  | _ => none }
def spillPopsRow : OpenClaim := { program := "ytpcncggjmabnaaagreatdoor", sum := "4d114881fa371acc765893c6d63cf81545e40afcbe84e7fbb76c4f81d983918b", func := "standby/standbylaw24.SpillPops", spec := "spillPops", unfollowed := true, recurses := true, named := ["math/bits.deBruijn64tab"], apart := false, laid := [("math/bits.deBruijn64tab", laid_math_bits_deBruijn64tab)] }
def SpillPopsSaid : Prop := spillPopsRow.holds Tryz.pinned (OpenSpec.ofChange spillPopsSpec)

/-- ITS FALSE NEIGHBOUR: 'it returns false'. Refute it at one input. -/
def spillPopsWrong : ChangeSpec := { name := "spillPops", fn := fun _ => fun
  | [d1, d2] => { results := [.lit (.bool false)], args := [d1, d2] }
  | _ => none }
def SpillPopsWrongFalsely : Prop := spillPopsRow.holds Tryz.pinned (OpenSpec.ofChange spillPopsWrong)

/-- 'standbylaw24.SpillDrains': WHATEVER THE INPUT: true; the input reads as it did. -/
def spillDrainsSpec : ChangeSpec := { name := "spillDrains", fn := fun _ => fun
  | [d1, d2, d3] => { results := [.lit (.bool true)], args := [d1, d2, d3] }
  | _ => none }
def spillDrainsRow : OpenClaim := { program := "ytpcncggjmabnaaagreatdoor", sum := "4d114881fa371acc765893c6d63cf81545e40afcbe84e7fbb76c4f81d983918b", func := "standby/standbylaw24.SpillDrains", spec := "spillDrains", unfollowed := true, recurses := true, named := ["math/bits.deBruijn64tab"], apart := false, laid := [("math/bits.deBruijn64tab", laid_math_bits_deBruijn64tab)] }
def SpillDrainsSaid : Prop := spillDrainsRow.holds Tryz.pinned (OpenSpec.ofChange spillDrainsSpec)

/-- ITS FALSE NEIGHBOUR: 'it returns false'. Refute it at one input. -/
def spillDrainsWrong : ChangeSpec := { name := "spillDrains", fn := fun _ => fun
  | [d1, d2, d3] => { results := [.lit (.bool false)], args := [d1, d2, d3] }
  | _ => none }
def SpillDrainsWrongFalsely : Prop := spillDrainsRow.holds Tryz.pinned (OpenSpec.ofChange spillDrainsWrong)

/-- 'standbylaw24.SpillKeeps': WHATEVER THE INPUT: true; the input reads as it did. -/
def spillKeepsSpec : ChangeSpec := { name := "spillKeeps", fn := fun _ => fun
  | [d1, d2, d3] => { results := [.lit (.bool true)], args := [d1, d2, d3] }
  | _ => none }
def spillKeepsRow : OpenClaim := { program := "ytpcncggjmabnaaagreatdoor", sum := "4d114881fa371acc765893c6d63cf81545e40afcbe84e7fbb76c4f81d983918b", func := "standby/standbylaw24.SpillKeeps", spec := "spillKeeps", unfollowed := true, recurses := true, named := ["math/bits.deBruijn64tab"], apart := false, laid := [("math/bits.deBruijn64tab", laid_math_bits_deBruijn64tab)] }
def SpillKeepsSaid : Prop := spillKeepsRow.holds Tryz.pinned (OpenSpec.ofChange spillKeepsSpec)

/-- ITS FALSE NEIGHBOUR: 'it returns false'. Refute it at one input. -/
def spillKeepsWrong : ChangeSpec := { name := "spillKeeps", fn := fun _ => fun
  | [d1, d2, d3] => { results := [.lit (.bool false)], args := [d1, d2, d3] }
  | _ => none }
def SpillKeepsWrongFalsely : Prop := spillKeepsRow.holds Tryz.pinned (OpenSpec.ofChange spillKeepsWrong)

/-- 'standbylaw24.SpillLimits': WHATEVER THE INPUT: true; the input reads as it did. -/
def spillLimitsSpec : ChangeSpec := { name := "spillLimits", fn := fun _ => fun
  | [d1, d2, d3] => { results := [.lit (.bool true)], args := [d1, d2, d3] }
  | _ => none }
def spillLimitsRow : OpenClaim := { program := "ytpcncggjmabnaaagreatdoor", sum := "4d114881fa371acc765893c6d63cf81545e40afcbe84e7fbb76c4f81d983918b", func := "standby/standbylaw24.SpillLimits", spec := "spillLimits", unfollowed := true, recurses := true, named := ["math/bits.deBruijn64tab"], apart := false, laid := [("math/bits.deBruijn64tab", laid_math_bits_deBruijn64tab)] }
def SpillLimitsSaid : Prop := spillLimitsRow.holds Tryz.pinned (OpenSpec.ofChange spillLimitsSpec)

/-- ITS FALSE NEIGHBOUR: 'it returns false'. Refute it at one input. -/
def spillLimitsWrong : ChangeSpec := { name := "spillLimits", fn := fun _ => fun
  | [d1, d2, d3] => { results := [.lit (.bool false)], args := [d1, d2, d3] }
  | _ => none }
def SpillLimitsWrongFalsely : Prop := spillLimitsRow.holds Tryz.pinned (OpenSpec.ofChange spillLimitsWrong)

/-- 'standbylaw24.SpillTransfers': WHATEVER THE INPUT: true; the input reads as it did. -/
def spillTransfersSpec : ChangeSpec := { name := "spillTransfers", fn := fun _ => fun
  | [d1, d2] => { results := [.lit (.bool true)], args := [d1, d2] }
  | _ => none }
def spillTransfersRow : OpenClaim := { program := "ytpcncggjmabnaaagreatdoor", sum := "4d114881fa371acc765893c6d63cf81545e40afcbe84e7fbb76c4f81d983918b", func := "standby/standbylaw24.SpillTransfers", spec := "spillTransfers", unfollowed := true, recurses := true, named := ["math/bits.deBruijn64tab"], apart := false, laid := [("math/bits.deBruijn64tab", laid_math_bits_deBruijn64tab)] }
def SpillTransfersSaid : Prop := spillTransfersRow.holds Tryz.pinned (OpenSpec.ofChange spillTransfersSpec)

/-- ITS FALSE NEIGHBOUR: 'it returns false'. Refute it at one input. -/
def spillTransfersWrong : ChangeSpec := { name := "spillTransfers", fn := fun _ => fun
  | [d1, d2] => { results := [.lit (.bool false)], args := [d1, d2] }
  | _ => none }
def SpillTransfersWrongFalsely : Prop := spillTransfersRow.holds Tryz.pinned (OpenSpec.ofChange spillTransfersWrong)

/- THE SECOND FORM. 'bulk': how many values and letters a reading holds, each counted each time it is reached (what is shared counts as often as it is met; a slice's spare places count too). A statement '..UptoSaid' is the law's where the arguments, and the package variables that the reading takes, are together of bulk at most 1048576: NARROWER than '..Said'. Prove '..Said' where nothing that the law and all that it calls make is longer than what came in: it says more and counts as full. Else prove '..UptoSaid'. A law counts once. -/
mutual
def uptoBulk {H : Type} : DataW H → Nat
  | .lit (.string bytes) => bytes.length + 1
  | .lit _ => 1
  | .nil => 1
  | .ptr d => uptoBulk d + 1
  | .slice elems spare => uptoBulkAll elems + uptoBulkAll spare + 1
  | .agg parts => uptoBulkAll parts + 1
  | .iface _ d => uptoBulk d + 1
  | .map entries => uptoBulkEntries entries + 1
  | .held _ => 1
def uptoBulkAll {H : Type} : List (DataW H) → Nat
  | [] => 0
  | d :: r => uptoBulk d + uptoBulkAll r
def uptoBulkEntries {H : Type} : List (Lit × DataW H) → Nat
  | [] => 0
  | x :: r => uptoBulkEntry x + uptoBulkEntries r
def uptoBulkEntry {H : Type} : Lit × DataW H → Nat
  | (.string bytes, d) => bytes.length + uptoBulk d + 1
  | (_, d) => uptoBulk d + 1
 end
def uptoSmall : (H : Type) → List (DataW H) → Bool := fun _ ds => decide (uptoBulkAll ds ≤ 1048576)
def OpenSpec.upto (s : _root_.Go.ChangeSpec) : _root_.Go.OpenSpec := { _root_.Go.OpenSpec.ofChange s with cond := some uptoSmall }

/-- 'standbylaw24.SpillMakes', WHERE WHAT IT READS IS OF BULK AT MOST 1048576: true; the input reads as it did. -/
def spillMakesUptoRow : OpenClaim := { program := "ytpcncggjmabnaaagreatdoor", sum := "4d114881fa371acc765893c6d63cf81545e40afcbe84e7fbb76c4f81d983918b", func := "standby/standbylaw24.SpillMakes", spec := "spillMakes", unfollowed := true, recurses := true, named := ["math/bits.deBruijn64tab"], apart := false, laid := [("math/bits.deBruijn64tab", laid_math_bits_deBruijn64tab)], narrowed := true }
def SpillMakesUptoSaid : Prop := spillMakesUptoRow.holds Tryz.pinned (OpenSpec.upto spillMakesSpec)

/-- 'standbylaw24.SpillPushes', WHERE WHAT IT READS IS OF BULK AT MOST 1048576: true; the input reads as it did. -/
def spillPushesUptoRow : OpenClaim := { program := "ytpcncggjmabnaaagreatdoor", sum := "4d114881fa371acc765893c6d63cf81545e40afcbe84e7fbb76c4f81d983918b", func := "standby/standbylaw24.SpillPushes", spec := "spillPushes", unfollowed := true, recurses := true, named := ["math/bits.deBruijn64tab"], apart := false, laid := [("math/bits.deBruijn64tab", laid_math_bits_deBruijn64tab)], narrowed := true }
def SpillPushesUptoSaid : Prop := spillPushesUptoRow.holds Tryz.pinned (OpenSpec.upto spillPushesSpec)

/-- 'standbylaw24.SpillPops', WHERE WHAT IT READS IS OF BULK AT MOST 1048576: true; the input reads as it did. -/
def spillPopsUptoRow : OpenClaim := { program := "ytpcncggjmabnaaagreatdoor", sum := "4d114881fa371acc765893c6d63cf81545e40afcbe84e7fbb76c4f81d983918b", func := "standby/standbylaw24.SpillPops", spec := "spillPops", unfollowed := true, recurses := true, named := ["math/bits.deBruijn64tab"], apart := false, laid := [("math/bits.deBruijn64tab", laid_math_bits_deBruijn64tab)], narrowed := true }
def SpillPopsUptoSaid : Prop := spillPopsUptoRow.holds Tryz.pinned (OpenSpec.upto spillPopsSpec)

/-- 'standbylaw24.SpillDrains', WHERE WHAT IT READS IS OF BULK AT MOST 1048576: true; the input reads as it did. -/
def spillDrainsUptoRow : OpenClaim := { program := "ytpcncggjmabnaaagreatdoor", sum := "4d114881fa371acc765893c6d63cf81545e40afcbe84e7fbb76c4f81d983918b", func := "standby/standbylaw24.SpillDrains", spec := "spillDrains", unfollowed := true, recurses := true, named := ["math/bits.deBruijn64tab"], apart := false, laid := [("math/bits.deBruijn64tab", laid_math_bits_deBruijn64tab)], narrowed := true }
def SpillDrainsUptoSaid : Prop := spillDrainsUptoRow.holds Tryz.pinned (OpenSpec.upto spillDrainsSpec)

/-- 'standbylaw24.SpillKeeps', WHERE WHAT IT READS IS OF BULK AT MOST 1048576: true; the input reads as it did. -/
def spillKeepsUptoRow : OpenClaim := { program := "ytpcncggjmabnaaagreatdoor", sum := "4d114881fa371acc765893c6d63cf81545e40afcbe84e7fbb76c4f81d983918b", func := "standby/standbylaw24.SpillKeeps", spec := "spillKeeps", unfollowed := true, recurses := true, named := ["math/bits.deBruijn64tab"], apart := false, laid := [("math/bits.deBruijn64tab", laid_math_bits_deBruijn64tab)], narrowed := true }
def SpillKeepsUptoSaid : Prop := spillKeepsUptoRow.holds Tryz.pinned (OpenSpec.upto spillKeepsSpec)

/-- 'standbylaw24.SpillLimits', WHERE WHAT IT READS IS OF BULK AT MOST 1048576: true; the input reads as it did. -/
def spillLimitsUptoRow : OpenClaim := { program := "ytpcncggjmabnaaagreatdoor", sum := "4d114881fa371acc765893c6d63cf81545e40afcbe84e7fbb76c4f81d983918b", func := "standby/standbylaw24.SpillLimits", spec := "spillLimits", unfollowed := true, recurses := true, named := ["math/bits.deBruijn64tab"], apart := false, laid := [("math/bits.deBruijn64tab", laid_math_bits_deBruijn64tab)], narrowed := true }
def SpillLimitsUptoSaid : Prop := spillLimitsUptoRow.holds Tryz.pinned (OpenSpec.upto spillLimitsSpec)

/-- 'standbylaw24.SpillTransfers', WHERE WHAT IT READS IS OF BULK AT MOST 1048576: true; the input reads as it did. -/
def spillTransfersUptoRow : OpenClaim := { program := "ytpcncggjmabnaaagreatdoor", sum := "4d114881fa371acc765893c6d63cf81545e40afcbe84e7fbb76c4f81d983918b", func := "standby/standbylaw24.SpillTransfers", spec := "spillTransfers", unfollowed := true, recurses := true, named := ["math/bits.deBruijn64tab"], apart := false, laid := [("math/bits.deBruijn64tab", laid_math_bits_deBruijn64tab)], narrowed := true }
def SpillTransfersUptoSaid : Prop := spillTransfersUptoRow.holds Tryz.pinned (OpenSpec.upto spillTransfersSpec)

end Rows
end Go.Proofs.YtpcncggjmabnaaaGreatDoor
