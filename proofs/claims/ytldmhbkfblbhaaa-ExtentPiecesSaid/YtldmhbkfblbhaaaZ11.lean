/-
  Part 11 of the texts that the statement stands on.
-/
import Derived.Test.YtldmhbkfblbhaaaZ10
set_option linter.all false
namespace Go.Proofs.Ytldmhbkfblbhaaa
set_option linter.all false

def Ok1 (P : Program) (f : Nat) : VDef → Prop
  | .code fn => fnOk P f fn = true
  | .ext g => ∀ args rs, g args = some rs → callable P f = true ∧ CallOk P f args rs
  | .srt h => callable P f = true ∧ SortOk P f h
theorem ok3 : Ok1 Try.prog 3 (.code fn3) := (by kernel_rfl : fnOk Try.prog 3 fn3 = true)
theorem ok4 : Ok1 Try.prog 4 (.code fn4) := (by kernel_rfl : fnOk Try.prog 4 fn4 = true)
theorem ok5 : Ok1 Try.prog 5 (.code fn5) := (by kernel_rfl : fnOk Try.prog 5 fn5 = true)
theorem ok6 : Ok1 Try.prog 6 (.code fn6) := (by kernel_rfl : fnOk Try.prog 6 fn6 = true)
theorem ok7 : Ok1 Try.prog 7 (.code fn7) := (by kernel_rfl : fnOk Try.prog 7 fn7 = true)
theorem ok8 : Ok1 Try.prog 8 (.code fn8) := (by kernel_rfl : fnOk Try.prog 8 fn8 = true)
theorem ok9 : Ok1 Try.prog 9 (.code fn9) := (by kernel_rfl : fnOk Try.prog 9 fn9 = true)
theorem ok10 : Ok1 Try.prog 10 (.code fn10) := (by kernel_rfl : fnOk Try.prog 10 fn10 = true)
theorem ok11 : Ok1 Try.prog 11 (.code fn11) := (by kernel_rfl : fnOk Try.prog 11 fn11 = true)
theorem ok12 : Ok1 Try.prog 12 (.code fn12) := (by kernel_rfl : fnOk Try.prog 12 fn12 = true)
theorem ok13 : Ok1 Try.prog 13 (.code fn13) := (by kernel_rfl : fnOk Try.prog 13 fn13 = true)
theorem ok14 : Ok1 Try.prog 14 (.code fn14) := (by kernel_rfl : fnOk Try.prog 14 fn14 = true)
theorem ok15 : Ok1 Try.prog 15 (.code fn15) := (by kernel_rfl : fnOk Try.prog 15 fn15 = true)
theorem ok16 : Ok1 Try.prog 16 (.code fn16) := (by kernel_rfl : fnOk Try.prog 16 fn16 = true)
theorem ok17 : Ok1 Try.prog 17 (.code fn17) := (by kernel_rfl : fnOk Try.prog 17 fn17 = true)
theorem ok18 : Ok1 Try.prog 18 (.code fn18) := (by kernel_rfl : fnOk Try.prog 18 fn18 = true)
theorem ok19 : Ok1 Try.prog 19 (.code fn19) := (by kernel_rfl : fnOk Try.prog 19 fn19 = true)
theorem ok20 : Ok1 Try.prog 20 (.code fn20) := (by kernel_rfl : fnOk Try.prog 20 fn20 = true)
theorem ok21 : Ok1 Try.prog 21 (.code fn21) := (by kernel_rfl : fnOk Try.prog 21 fn21 = true)
theorem ok22 : Ok1 Try.prog 22 (.code fn22) := (by kernel_rfl : fnOk Try.prog 22 fn22 = true)
theorem ok23 : Ok1 Try.prog 23 (.code fn23) := (by kernel_rfl : fnOk Try.prog 23 fn23 = true)
theorem ok24 : Ok1 Try.prog 24 (.code fn24) := (by kernel_rfl : fnOk Try.prog 24 fn24 = true)
theorem ok25 : Ok1 Try.prog 25 (.code fn25) := (by kernel_rfl : fnOk Try.prog 25 fn25 = true)
theorem ok26 : Ok1 Try.prog 26 (.code fn26) := (by kernel_rfl : fnOk Try.prog 26 fn26 = true)
theorem ok27 : Ok1 Try.prog 27 (.code fn27) := (by kernel_rfl : fnOk Try.prog 27 fn27 = true)
theorem ok28 : Ok1 Try.prog 28 (.code fn28) := (by kernel_rfl : fnOk Try.prog 28 fn28 = true)
theorem ok29 : Ok1 Try.prog 29 (.code fn29) := (by kernel_rfl : fnOk Try.prog 29 fn29 = true)
theorem ok30 : Ok1 Try.prog 30 (.code fn30) := (by kernel_rfl : fnOk Try.prog 30 fn30 = true)
theorem ok31 : Ok1 Try.prog 31 (.code fn31) := (by kernel_rfl : fnOk Try.prog 31 fn31 = true)
theorem ok32 : Ok1 Try.prog 32 (.code fn32) := (by kernel_rfl : fnOk Try.prog 32 fn32 = true)
theorem ok33 : Ok1 Try.prog 33 (.code fn33) := (by kernel_rfl : fnOk Try.prog 33 fn33 = true)
theorem ok34 : Ok1 Try.prog 34 (.code fn34) := (by kernel_rfl : fnOk Try.prog 34 fn34 = true)
theorem ok35 : Ok1 Try.prog 35 (.code fn35) := (by kernel_rfl : fnOk Try.prog 35 fn35 = true)
theorem ok36 : Ok1 Try.prog 36 (.code fn36) := (by kernel_rfl : fnOk Try.prog 36 fn36 = true)
theorem ok37 : Ok1 Try.prog 37 (.code fn37) := (by kernel_rfl : fnOk Try.prog 37 fn37 = true)
theorem ok38 : Ok1 Try.prog 38 (.code fn38) := (by kernel_rfl : fnOk Try.prog 38 fn38 = true)
theorem ok39 : Ok1 Try.prog 39 (.code fn39) := (by kernel_rfl : fnOk Try.prog 39 fn39 = true)
theorem ok40 : Ok1 Try.prog 40 (.code fn40) := (by kernel_rfl : fnOk Try.prog 40 fn40 = true)
theorem ok41 : Ok1 Try.prog 41 (.code fn41) := (by kernel_rfl : fnOk Try.prog 41 fn41 = true)
theorem ok42 : Ok1 Try.prog 42 (.code fn42) := (by kernel_rfl : fnOk Try.prog 42 fn42 = true)
theorem ok43 : Ok1 Try.prog 43 (.code fn43) := (by kernel_rfl : fnOk Try.prog 43 fn43 = true)
theorem ok44 : Ok1 Try.prog 44 (.code fn44) := (by kernel_rfl : fnOk Try.prog 44 fn44 = true)
theorem ok45 : Ok1 Try.prog 45 (.srt addX) := add_ok
theorem ok46 : Ok1 Try.prog 46 (.code fn46) := (by kernel_rfl : fnOk Try.prog 46 fn46 = true)
theorem ok47 : Ok1 Try.prog 47 (.code fn47) := (by kernel_rfl : fnOk Try.prog 47 fn47 = true)
theorem ok48 : Ok1 Try.prog 48 (.code fn48) := (by kernel_rfl : fnOk Try.prog 48 fn48 = true)
theorem ok49 : Ok1 Try.prog 49 (.code fn49) := (by kernel_rfl : fnOk Try.prog 49 fn49 = true)
theorem ok50 : Ok1 Try.prog 50 (.srt (sortEndsX 51)) := sortEnds_ok
theorem ok51 : Ok1 Try.prog 51 (.code fn51) := (by kernel_rfl : fnOk Try.prog 51 fn51 = true)
theorem ok52 : Ok1 Try.prog 52 (.code fn52) := (by kernel_rfl : fnOk Try.prog 52 fn52 = true)
theorem ok55 : Ok1 Try.prog 55 (.code fn55) := (by kernel_rfl : fnOk Try.prog 55 fn55 = true)
theorem tabOk : ∀ p ∈ tab, Ok1 Try.prog p.1 p.2 := by
  unfold tab
  exact List.forall_mem_cons.2 ⟨ok3, List.forall_mem_cons.2 ⟨ok4, List.forall_mem_cons.2 ⟨ok5, List.forall_mem_cons.2 ⟨ok6, List.forall_mem_cons.2 ⟨ok7, List.forall_mem_cons.2 ⟨ok8, List.forall_mem_cons.2 ⟨ok9, List.forall_mem_cons.2 ⟨ok10, List.forall_mem_cons.2 ⟨ok11, List.forall_mem_cons.2 ⟨ok12, List.forall_mem_cons.2 ⟨ok13, List.forall_mem_cons.2 ⟨ok14, List.forall_mem_cons.2 ⟨ok15, List.forall_mem_cons.2 ⟨ok16, List.forall_mem_cons.2 ⟨ok17, List.forall_mem_cons.2 ⟨ok18, List.forall_mem_cons.2 ⟨ok19, List.forall_mem_cons.2 ⟨ok20, List.forall_mem_cons.2 ⟨ok21, List.forall_mem_cons.2 ⟨ok22, List.forall_mem_cons.2 ⟨ok23, List.forall_mem_cons.2 ⟨ok24, List.forall_mem_cons.2 ⟨ok25, List.forall_mem_cons.2 ⟨ok26, List.forall_mem_cons.2 ⟨ok27, List.forall_mem_cons.2 ⟨ok28, List.forall_mem_cons.2 ⟨ok29, List.forall_mem_cons.2 ⟨ok30, List.forall_mem_cons.2 ⟨ok31, List.forall_mem_cons.2 ⟨ok32, List.forall_mem_cons.2 ⟨ok33, List.forall_mem_cons.2 ⟨ok34, List.forall_mem_cons.2 ⟨ok35, List.forall_mem_cons.2 ⟨ok36, List.forall_mem_cons.2 ⟨ok37, List.forall_mem_cons.2 ⟨ok38, List.forall_mem_cons.2 ⟨ok39, List.forall_mem_cons.2 ⟨ok40, List.forall_mem_cons.2 ⟨ok41, List.forall_mem_cons.2 ⟨ok42, List.forall_mem_cons.2 ⟨ok43, List.forall_mem_cons.2 ⟨ok44, List.forall_mem_cons.2 ⟨ok45, List.forall_mem_cons.2 ⟨ok46, List.forall_mem_cons.2 ⟨ok47, List.forall_mem_cons.2 ⟨ok48, List.forall_mem_cons.2 ⟨ok49, List.forall_mem_cons.2 ⟨ok50, List.forall_mem_cons.2 ⟨ok51, List.forall_mem_cons.2 ⟨ok52, List.forall_mem_cons.2 ⟨ok55, fun p hp => by cases hp⟩⟩⟩⟩⟩⟩⟩⟩⟩⟩⟩⟩⟩⟩⟩⟩⟩⟩⟩⟩⟩⟩⟩⟩⟩⟩⟩⟩⟩⟩⟩⟩⟩⟩⟩⟩⟩⟩⟩⟩⟩⟩⟩⟩⟩⟩⟩⟩⟩⟩⟩
theorem lookup_mem : ∀ {l : List (Nat × VDef)} {f : Nat} {d : VDef}, l.lookup f = some d → (f, d) ∈ l
  | (k, v) :: l, f, d, h => by
    rw [List.lookup_cons] at h
    split at h
    · rename_i e
      have e : f = k := by simpa using e
      cases h; subst e; simp
    · exact List.mem_cons_of_mem _ (lookup_mem h)
theorem envOk : EnvOk Try.prog env := fun f d h => by
  have := tabOk _ (lookup_mem h)
  cases d <;> exact this
end Go.Proofs.Ytldmhbkfblbhaaa
