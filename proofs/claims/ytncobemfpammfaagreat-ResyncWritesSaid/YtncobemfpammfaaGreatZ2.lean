/-
  Part 2 of the texts that the statement stands on.
-/
import Derived.Test.YtncobemfpammfaaGreatZ1
import Derived.WalkSpells
set_option linter.all false
namespace Go.Proofs.YtncobemfpammfaaGreat
open Go.RowKit

end Go.Proofs.YtncobemfpammfaaGreat

namespace Go.Proofs.YtncobemfpammfaaGreat
open Go.RowKit

end Go.Proofs.YtncobemfpammfaaGreat

namespace Go.Proofs.YtncobemfpammfaaGreat
open Go.RowKit

def orNil {α : Type} (e : Int) (l : List α) : List α := if e = 0 then l else []
def zeros (n : Int) : List Sec := List.replicate n.toNat zeroSec
def newImg (l : List Int) : List (List Sec) := l.map zeros
end Go.Proofs.YtncobemfpammfaaGreat
