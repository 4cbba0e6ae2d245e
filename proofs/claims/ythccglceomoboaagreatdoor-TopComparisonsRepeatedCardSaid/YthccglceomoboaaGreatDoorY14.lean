/-
  Part 14 of the texts that the statement stands on.
-/
import Derived.Test.YthccglceomoboaaGreatDoorY13
import Derived.Test.YthccglceomoboaaGreatDoorRows
set_option linter.all false
namespace Go.Proofs.YthccglceomoboaaGreatDoor
open Go.RowKit Go.ChangeShapes Go.WideShapes Go.ChangeAt
theorem oP:(Rows.topComparisonsRepeatedRow.wf (OpenSpec.ofChange Rows.topComparisonsRepeatedSpec)&&laidOutB Tryz.prog&&mapsRowed Tryz.prog&&Tryz.f4.params.all (Tryz.prog.readableRec ·)&&namedTie Tryz.prog Rows.topComparisonsRepeatedRow.named Rows.topComparisonsRepeatedSpec.vars&&(Rows.topComparisonsRepeatedRow.stops==[])&&(Tryz.prog.stops==[])&&(Rows.topComparisonsRepeatedRow.knobs==[])&&(Tryz.prog.stopKnobs==[]))=true:=by kernel_rfl
end Go.Proofs.YthccglceomoboaaGreatDoor
