/-
  Part 16 of the texts that the statement stands on.
-/
import Derived.Test.YtncobemfpammfaaZ15
set_option linter.all false
namespace Go.Proofs.Ytncobemfpammfaa

def Ok1 (P : Program) (f : Nat) : VDef → Prop
  | .code fn => fnOk P f fn = true
  | .ext g => ∀ args rs, g args = some rs → callable P f = true ∧ CallOk P f args rs
  | .srt h => callable P f = true ∧ SortOk P f h
theorem ok5 : Ok1 Try.prog 5 (.code fn5) := (by kernel_rfl : fnOk Try.prog 5 fn5 = true)
theorem ok6 : Ok1 Try.prog 6 (.code fn6) := (by kernel_rfl : fnOk Try.prog 6 fn6 = true)
theorem ok7 : Ok1 Try.prog 7 (.code fn7) := (by kernel_rfl : fnOk Try.prog 7 fn7 = true)
theorem ok8 : Ok1 Try.prog 8 (.code fn8) := (by kernel_rfl : fnOk Try.prog 8 fn8 = true)
theorem ok9 : Ok1 Try.prog 9 (.code fn9) := (by kernel_rfl : fnOk Try.prog 9 fn9 = true)
theorem ok11 : Ok1 Try.prog 11 (.code fn11) := (by kernel_rfl : fnOk Try.prog 11 fn11 = true)
theorem ok13 : Ok1 Try.prog 13 (.code fn13) := (by kernel_rfl : fnOk Try.prog 13 fn13 = true)
theorem ok14 : Ok1 Try.prog 14 (.code fn14) := (by kernel_rfl : fnOk Try.prog 14 fn14 = true)
theorem ok16 : Ok1 Try.prog 16 (.code fn16) := (by kernel_rfl : fnOk Try.prog 16 fn16 = true)
theorem ok17 : Ok1 Try.prog 17 (.code fn17) := (by kernel_rfl : fnOk Try.prog 17 fn17 = true)
theorem ok18 : Ok1 Try.prog 18 (.ext applyX) := applyI_ok
theorem ok19 : Ok1 Try.prog 19 (.code fn19) := (by kernel_rfl : fnOk Try.prog 19 fn19 = true)
theorem ok20 : Ok1 Try.prog 20 (.code fn20) := (by kernel_rfl : fnOk Try.prog 20 fn20 = true)
theorem ok21 : Ok1 Try.prog 21 (.code fn21) := (by kernel_rfl : fnOk Try.prog 21 fn21 = true)
theorem ok22 : Ok1 Try.prog 22 (.code fn22) := (by kernel_rfl : fnOk Try.prog 22 fn22 = true)
theorem ok23 : Ok1 Try.prog 23 (.code fn23) := (by kernel_rfl : fnOk Try.prog 23 fn23 = true)
theorem ok24 : Ok1 Try.prog 24 (.code fn24) := (by kernel_rfl : fnOk Try.prog 24 fn24 = true)
theorem ok25 : Ok1 Try.prog 25 (.code fn25) := (by kernel_rfl : fnOk Try.prog 25 fn25 = true)
theorem ok26 : Ok1 Try.prog 26 (.code fn26) := (by kernel_rfl : fnOk Try.prog 26 fn26 = true)
theorem ok30 : Ok1 Try.prog 30 (.code fn30) := (by kernel_rfl : fnOk Try.prog 30 fn30 = true)
theorem ok31 : Ok1 Try.prog 31 (.code fn31) := (by kernel_rfl : fnOk Try.prog 31 fn31 = true)
theorem ok32 : Ok1 Try.prog 32 (.code fn32) := (by kernel_rfl : fnOk Try.prog 32 fn32 = true)
theorem ok34 : Ok1 Try.prog 34 (.code fn34) := (by kernel_rfl : fnOk Try.prog 34 fn34 = true)
theorem ok35 : Ok1 Try.prog 35 (.code fn35) := (by kernel_rfl : fnOk Try.prog 35 fn35 = true)
theorem ok36 : Ok1 Try.prog 36 (.code fn36) := (by kernel_rfl : fnOk Try.prog 36 fn36 = true)
theorem ok38 : Ok1 Try.prog 38 (.code fn38) := (by kernel_rfl : fnOk Try.prog 38 fn38 = true)
theorem ok39 : Ok1 Try.prog 39 (.code fn39) := (by kernel_rfl : fnOk Try.prog 39 fn39 = true)
theorem ok40 : Ok1 Try.prog 40 (.ext (cloneX 8)) := clone40_ok
theorem ok41 : Ok1 Try.prog 41 (.code fn41) := (by kernel_rfl : fnOk Try.prog 41 fn41 = true)
theorem ok44 : Ok1 Try.prog 44 (.code fn44) := (by kernel_rfl : fnOk Try.prog 44 fn44 = true)
theorem ok45 : Ok1 Try.prog 45 (.code fn45) := (by kernel_rfl : fnOk Try.prog 45 fn45 = true)
theorem ok46 : Ok1 Try.prog 46 (.code fn46) := (by kernel_rfl : fnOk Try.prog 46 fn46 = true)
theorem ok47 : Ok1 Try.prog 47 (.code fn47) := (by kernel_rfl : fnOk Try.prog 47 fn47 = true)
theorem ok48 : Ok1 Try.prog 48 (.code fn48) := (by kernel_rfl : fnOk Try.prog 48 fn48 = true)
theorem ok49 : Ok1 Try.prog 49 (.code fn49) := (by kernel_rfl : fnOk Try.prog 49 fn49 = true)
theorem ok50 : Ok1 Try.prog 50 (.code fn50) := (by kernel_rfl : fnOk Try.prog 50 fn50 = true)
theorem ok51 : Ok1 Try.prog 51 (.code fn51) := (by kernel_rfl : fnOk Try.prog 51 fn51 = true)
theorem ok52 : Ok1 Try.prog 52 (.code fn52) := (by kernel_rfl : fnOk Try.prog 52 fn52 = true)
theorem ok53 : Ok1 Try.prog 53 (.code fn53) := (by kernel_rfl : fnOk Try.prog 53 fn53 = true)
theorem ok54 : Ok1 Try.prog 54 (.code fn54) := (by kernel_rfl : fnOk Try.prog 54 fn54 = true)
theorem ok60 : Ok1 Try.prog 60 (.code fn60) := (by kernel_rfl : fnOk Try.prog 60 fn60 = true)
theorem ok61 : Ok1 Try.prog 61 (.code fn61) := (by kernel_rfl : fnOk Try.prog 61 fn61 = true)
theorem ok62 : Ok1 Try.prog 62 (.code fn62) := (by kernel_rfl : fnOk Try.prog 62 fn62 = true)
theorem ok63 : Ok1 Try.prog 63 (.code fn63) := (by kernel_rfl : fnOk Try.prog 63 fn63 = true)
theorem ok64 : Ok1 Try.prog 64 (.code fn64) := (by kernel_rfl : fnOk Try.prog 64 fn64 = true)
theorem ok65 : Ok1 Try.prog 65 (.code fn65) := (by kernel_rfl : fnOk Try.prog 65 fn65 = true)
theorem ok66 : Ok1 Try.prog 66 (.code fn66) := (by kernel_rfl : fnOk Try.prog 66 fn66 = true)
theorem ok68 : Ok1 Try.prog 68 (.code fn68) := (by kernel_rfl : fnOk Try.prog 68 fn68 = true)
theorem ok69 : Ok1 Try.prog 69 (.code fn69) := (by kernel_rfl : fnOk Try.prog 69 fn69 = true)
theorem ok70 : Ok1 Try.prog 70 (.code fn70) := (by kernel_rfl : fnOk Try.prog 70 fn70 = true)
theorem ok71 : Ok1 Try.prog 71 (.code fn71) := (by kernel_rfl : fnOk Try.prog 71 fn71 = true)
theorem ok72 : Ok1 Try.prog 72 (.code fn72) := (by kernel_rfl : fnOk Try.prog 72 fn72 = true)
theorem ok73 : Ok1 Try.prog 73 (.code fn73) := (by kernel_rfl : fnOk Try.prog 73 fn73 = true)
theorem ok74 : Ok1 Try.prog 74 (.code fn74) := (by kernel_rfl : fnOk Try.prog 74 fn74 = true)
theorem ok78 : Ok1 Try.prog 78 (.code fn78) := (by kernel_rfl : fnOk Try.prog 78 fn78 = true)
theorem ok79 : Ok1 Try.prog 79 (.code fn79) := (by kernel_rfl : fnOk Try.prog 79 fn79 = true)
theorem ok80 : Ok1 Try.prog 80 (.code fn80) := (by kernel_rfl : fnOk Try.prog 80 fn80 = true)
theorem ok81 : Ok1 Try.prog 81 (.code fn81) := (by kernel_rfl : fnOk Try.prog 81 fn81 = true)
theorem ok82 : Ok1 Try.prog 82 (.code fn82) := (by kernel_rfl : fnOk Try.prog 82 fn82 = true)
theorem ok83 : Ok1 Try.prog 83 (.code fn83) := (by kernel_rfl : fnOk Try.prog 83 fn83 = true)
theorem ok84 : Ok1 Try.prog 84 (.code fn84) := (by kernel_rfl : fnOk Try.prog 84 fn84 = true)
theorem ok85 : Ok1 Try.prog 85 (.srt (sortEndsX 86)) := sortEnds_ok
theorem ok86 : Ok1 Try.prog 86 (.code fn86) := (by kernel_rfl : fnOk Try.prog 86 fn86 = true)
theorem ok87 : Ok1 Try.prog 87 (.code fn87) := (by kernel_rfl : fnOk Try.prog 87 fn87 = true)
theorem ok90 : Ok1 Try.prog 90 (.code fn90) := (by kernel_rfl : fnOk Try.prog 90 fn90 = true)
theorem ok93 : Ok1 Try.prog 93 (.code fn93) := (by kernel_rfl : fnOk Try.prog 93 fn93 = true)
theorem tabOk : ∀ p ∈ tab, Ok1 Try.prog p.1 p.2 := by
  unfold tab
  exact List.forall_mem_cons.2 ⟨ok5, List.forall_mem_cons.2 ⟨ok6, List.forall_mem_cons.2 ⟨ok7, List.forall_mem_cons.2 ⟨ok8, List.forall_mem_cons.2 ⟨ok9, List.forall_mem_cons.2 ⟨ok11, List.forall_mem_cons.2 ⟨ok13, List.forall_mem_cons.2 ⟨ok14, List.forall_mem_cons.2 ⟨ok16, List.forall_mem_cons.2 ⟨ok17, List.forall_mem_cons.2 ⟨ok18, List.forall_mem_cons.2 ⟨ok19, List.forall_mem_cons.2 ⟨ok20, List.forall_mem_cons.2 ⟨ok21, List.forall_mem_cons.2 ⟨ok22, List.forall_mem_cons.2 ⟨ok23, List.forall_mem_cons.2 ⟨ok24, List.forall_mem_cons.2 ⟨ok25, List.forall_mem_cons.2 ⟨ok26, List.forall_mem_cons.2 ⟨ok30, List.forall_mem_cons.2 ⟨ok31, List.forall_mem_cons.2 ⟨ok32, List.forall_mem_cons.2 ⟨ok34, List.forall_mem_cons.2 ⟨ok35, List.forall_mem_cons.2 ⟨ok36, List.forall_mem_cons.2 ⟨ok38, List.forall_mem_cons.2 ⟨ok39, List.forall_mem_cons.2 ⟨ok40, List.forall_mem_cons.2 ⟨ok41, List.forall_mem_cons.2 ⟨ok44, List.forall_mem_cons.2 ⟨ok45, List.forall_mem_cons.2 ⟨ok46, List.forall_mem_cons.2 ⟨ok47, List.forall_mem_cons.2 ⟨ok48, List.forall_mem_cons.2 ⟨ok49, List.forall_mem_cons.2 ⟨ok50, List.forall_mem_cons.2 ⟨ok51, List.forall_mem_cons.2 ⟨ok52, List.forall_mem_cons.2 ⟨ok53, List.forall_mem_cons.2 ⟨ok54, List.forall_mem_cons.2 ⟨ok60, List.forall_mem_cons.2 ⟨ok61, List.forall_mem_cons.2 ⟨ok62, List.forall_mem_cons.2 ⟨ok63, List.forall_mem_cons.2 ⟨ok64, List.forall_mem_cons.2 ⟨ok65, List.forall_mem_cons.2 ⟨ok66, List.forall_mem_cons.2 ⟨ok68, List.forall_mem_cons.2 ⟨ok69, List.forall_mem_cons.2 ⟨ok70, List.forall_mem_cons.2 ⟨ok71, List.forall_mem_cons.2 ⟨ok72, List.forall_mem_cons.2 ⟨ok73, List.forall_mem_cons.2 ⟨ok74, List.forall_mem_cons.2 ⟨ok78, List.forall_mem_cons.2 ⟨ok79, List.forall_mem_cons.2 ⟨ok80, List.forall_mem_cons.2 ⟨ok81, List.forall_mem_cons.2 ⟨ok82, List.forall_mem_cons.2 ⟨ok83, List.forall_mem_cons.2 ⟨ok84, List.forall_mem_cons.2 ⟨ok85, List.forall_mem_cons.2 ⟨ok86, List.forall_mem_cons.2 ⟨ok87, List.forall_mem_cons.2 ⟨ok90, List.forall_mem_cons.2 ⟨ok93, fun p hp => by cases hp⟩⟩⟩⟩⟩⟩⟩⟩⟩⟩⟩⟩⟩⟩⟩⟩⟩⟩⟩⟩⟩⟩⟩⟩⟩⟩⟩⟩⟩⟩⟩⟩⟩⟩⟩⟩⟩⟩⟩⟩⟩⟩⟩⟩⟩⟩⟩⟩⟩⟩⟩⟩⟩⟩⟩⟩⟩⟩⟩⟩⟩⟩⟩⟩⟩⟩
theorem lookup_mem : ∀ {l : List (Nat × VDef)} {f : Nat} {d : VDef}, l.lookup f = some d → (f, d) ∈ l
  | (k, v) :: l, f, d, h => by
    rw [List.lookup_cons] at h
    split at h
    · rename_i e
      have e : f = k := by simpa using e
      cases h; subst e; simp
    · exact List.mem_cons_of_mem _ (lookup_mem h)
theorem envOk : EnvOk Try.prog env := fun f d h => by
  have := tabOk _ (lookup_mem h)
  cases d <;> exact this
end Go.Proofs.Ytncobemfpammfaa
