/-
  Part 10 of the texts that the statement stands on.
-/
import Derived.Test.YtpdfhckdmblicaaZ9
set_option linter.all false
namespace Go.Proofs.Ytpdfhckdmblicaa.V
theorem calAwake:cal env 9 []=some [(.bool true,false)]:=cal_of_vmCall (n:=400) (by kernel_rfl)
end Go.Proofs.Ytpdfhckdmblicaa.V
