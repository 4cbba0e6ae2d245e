/-
  Part 15 of the texts that the statement stands on.
-/
import Derived.Test.YthccglceomoboaaGreatDoorY14
import Derived.Test.YthccglceomoboaaGreatDoorRows
set_option linter.all false
namespace Go.Proofs.YthccglceomoboaaGreatDoor
open Go.RowKit Go.ChangeShapes Go.WideShapes Go.ChangeAt
theorem oQ:(Rows.topComparisonsRepeatedRow.inPlace==Tryz.prog.inPlace 4)=true:=by kernel_rfl
theorem oU:(Rows.topComparisonsRepeatedRow.unfollowed==Tryz.prog.unfollowed 4)=true:=by kernel_rfl
theorem oV:(Rows.topComparisonsRepeatedRow.recurses==Tryz.prog.recurses 4)=true:=by kernel_rfl
theorem oW:(Rows.topComparisonsRepeatedRow.named==Tryz.prog.varsNamed 4)=true:=by kernel_rfl
end Go.Proofs.YthccglceomoboaaGreatDoor
