/-
  Part 15 of the texts that the statement stands on.
-/
import Derived.Test.YthccglceomoboaaGreatDoorZ14
import Derived.Test.YthccglceomoboaaGreatDoorRows
set_option linter.all false
namespace Go.Proofs.YthccglceomoboaaGreatDoor
open Go.RowKit Go.ChangeShapes Go.WideShapes Go.ChangeAt
theorem wR:(Rows.topIntentsResyncedRow.wf (OpenSpec.ofChange Rows.topIntentsResyncedSpec)&&laidOutB Tryz.prog&&mapsRowed Tryz.prog&&Tryz.f8.params.all (Tryz.prog.readableRec ·)&&namedTie Tryz.prog Rows.topIntentsResyncedRow.named Rows.topIntentsResyncedSpec.vars&&(Rows.topIntentsResyncedRow.stops==[])&&(Tryz.prog.stops==[])&&(Rows.topIntentsResyncedRow.knobs==[])&&(Tryz.prog.stopKnobs==[]))=true:=by kernel_rfl
end Go.Proofs.YthccglceomoboaaGreatDoor
