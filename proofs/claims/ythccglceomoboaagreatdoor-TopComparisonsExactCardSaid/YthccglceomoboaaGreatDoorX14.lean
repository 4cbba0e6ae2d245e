/-
  Part 14 of the texts that the statement stands on.
-/
import Derived.Test.YthccglceomoboaaGreatDoorX13
import Derived.Test.YthccglceomoboaaGreatDoorRows
set_option linter.all false
namespace Go.Proofs.YthccglceomoboaaGreatDoor
open Go.RowKit Go.ChangeShapes Go.WideShapes Go.ChangeAt
theorem uI:(Rows.topComparisonsExactRow.wf (OpenSpec.ofChange Rows.topComparisonsExactSpec)&&laidOutB Tryz.prog&&mapsRowed Tryz.prog&&Tryz.f6.params.all (Tryz.prog.readableRec ·)&&namedTie Tryz.prog Rows.topComparisonsExactRow.named Rows.topComparisonsExactSpec.vars&&(Rows.topComparisonsExactRow.stops==[])&&(Tryz.prog.stops==[])&&(Rows.topComparisonsExactRow.knobs==[])&&(Tryz.prog.stopKnobs==[]))=true:=by kernel_rfl
end Go.Proofs.YthccglceomoboaaGreatDoor
