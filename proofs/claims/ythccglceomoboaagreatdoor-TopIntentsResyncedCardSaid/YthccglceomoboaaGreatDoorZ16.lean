/-
  Part 16 of the texts that the statement stands on.
-/
import Derived.Test.YthccglceomoboaaGreatDoorZ15
import Derived.Test.YthccglceomoboaaGreatDoorRows
set_option linter.all false
namespace Go.Proofs.YthccglceomoboaaGreatDoor
open Go.RowKit Go.ChangeShapes Go.WideShapes Go.ChangeAt
theorem wS:(Rows.topIntentsResyncedRow.inPlace==Tryz.prog.inPlace 8)=true:=by kernel_rfl
theorem wU:(Rows.topIntentsResyncedRow.unfollowed==Tryz.prog.unfollowed 8)=true:=by kernel_rfl
theorem wV:(Rows.topIntentsResyncedRow.recurses==Tryz.prog.recurses 8)=true:=by kernel_rfl
theorem wW:(Rows.topIntentsResyncedRow.named==Tryz.prog.varsNamed 8)=true:=by kernel_rfl
end Go.Proofs.YthccglceomoboaaGreatDoor
