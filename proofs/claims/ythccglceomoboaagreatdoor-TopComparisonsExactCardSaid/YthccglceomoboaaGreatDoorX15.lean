/-
  Part 15 of the texts that the statement stands on.
-/
import Derived.Test.YthccglceomoboaaGreatDoorX14
import Derived.Test.YthccglceomoboaaGreatDoorRows
set_option linter.all false
namespace Go.Proofs.YthccglceomoboaaGreatDoor
open Go.RowKit Go.ChangeShapes Go.WideShapes Go.ChangeAt
theorem uJ:(Rows.topComparisonsExactRow.inPlace==Tryz.prog.inPlace 6)=true:=by kernel_rfl
theorem uK:(Rows.topComparisonsExactRow.unfollowed==Tryz.prog.unfollowed 6)=true:=by kernel_rfl
theorem uM:(Rows.topComparisonsExactRow.recurses==Tryz.prog.recurses 6)=true:=by kernel_rfl
theorem uN:(Rows.topComparisonsExactRow.named==Tryz.prog.varsNamed 6)=true:=by kernel_rfl
end Go.Proofs.YthccglceomoboaaGreatDoor
