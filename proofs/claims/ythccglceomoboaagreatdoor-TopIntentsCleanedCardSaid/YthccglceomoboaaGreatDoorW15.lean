/-
  Part 15 of the texts that the statement stands on.
-/
import Derived.Test.YthccglceomoboaaGreatDoorW14
import Derived.Test.YthccglceomoboaaGreatDoorRows
set_option linter.all false
namespace Go.Proofs.YthccglceomoboaaGreatDoor
open Go.RowKit Go.ChangeShapes Go.WideShapes Go.ChangeAt
theorem xA:(Rows.topIntentsCleanedRow.inPlace==Tryz.prog.inPlace 7)=true:=by kernel_rfl
theorem xB:(Rows.topIntentsCleanedRow.unfollowed==Tryz.prog.unfollowed 7)=true:=by kernel_rfl
theorem xC:(Rows.topIntentsCleanedRow.recurses==Tryz.prog.recurses 7)=true:=by kernel_rfl
theorem xE:(Rows.topIntentsCleanedRow.named==Tryz.prog.varsNamed 7)=true:=by kernel_rfl
end Go.Proofs.YthccglceomoboaaGreatDoor
