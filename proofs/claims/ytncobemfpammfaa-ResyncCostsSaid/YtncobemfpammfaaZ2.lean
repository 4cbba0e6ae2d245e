/-
  Part 2 of the texts that the statement stands on.
-/
import Derived.Test.YtncobemfpammfaaZ1
import Derived.WalkSpells
set_option linter.all false
namespace Go.Proofs.Ytncobemfpammfaa
open Go.RowKit

end Go.Proofs.Ytncobemfpammfaa

namespace Go.Proofs.Ytncobemfpammfaa
open Go.RowKit

end Go.Proofs.Ytncobemfpammfaa

namespace Go.Proofs.Ytncobemfpammfaa
open Go.RowKit

def orNil {α : Type} (e : Int) (l : List α) : List α := if e = 0 then l else []
end Go.Proofs.Ytncobemfpammfaa
