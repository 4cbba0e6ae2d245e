/-
  Part 14 of the texts that the statement stands on.
-/
import Derived.Test.YthccglceomoboaaGreatDoorW13
import Derived.Test.YthccglceomoboaaGreatDoorRows
set_option linter.all false
namespace Go.Proofs.YthccglceomoboaaGreatDoor
open Go.RowKit Go.ChangeShapes Go.WideShapes Go.ChangeAt
theorem xw:(Rows.topIntentsCleanedRow.wf (OpenSpec.ofChange Rows.topIntentsCleanedSpec)&&laidOutB Tryz.prog&&mapsRowed Tryz.prog&&Tryz.f7.params.all (Tryz.prog.readableRec ·)&&namedTie Tryz.prog Rows.topIntentsCleanedRow.named Rows.topIntentsCleanedSpec.vars&&(Rows.topIntentsCleanedRow.stops==[])&&(Tryz.prog.stops==[])&&(Rows.topIntentsCleanedRow.knobs==[])&&(Tryz.prog.stopKnobs==[]))=true:=by kernel_rfl
end Go.Proofs.YthccglceomoboaaGreatDoor
