/-
  Part 9 of the texts that the statement stands on.
-/
import Derived.Test.YtioijcfcehhmdaaGreatDoorZ8
import Derived.Test.YtioijcfcehhmdaaGreatDoorRows
import Derived.Lib.LaidTab
import Derived.LaidByTextLater
set_option linter.all false
namespace Go.Proofs.YtioijcfcehhmdaaGreatDoor.V
theorem aw0:cal env 43 [(.int .i64 0),(.int .u8 1)]=some [((.agg [(.int .i64 0),(.int .i64 0),(.list 8 [(.agg [(.int .u8 1),(.int .u8 0),(.int .u8 0),(.int .u8 0),(.int .u8 0),(.int .u8 0),(.int .u8 0),(.int .u8 0)])])]),false)]:=cal_of_vmCall (n:=400) (by kernel_rfl)
theorem aw1:cal env 39 [(.list 1 [(.int .i64 3)]),(.list 3 [(.agg [(.int .i64 0),(.int .i64 0),(.list 8 [(.agg [(.int .u8 1),(.int .u8 0),(.int .u8 0),(.int .u8 0),(.int .u8 0),(.int .u8 0),(.int .u8 0),(.int .u8 0)])])])])]=some [((.list 2 [(.agg [(.int .i64 3),(.list 1 [(.int .u64 1)])])]),true),((.bool true),false)]:=cal_of_vmCall (n:=400) (by kernel_rfl)
theorem aw2:cal env 43 [(.int .i64 2),(.int .u8 2)]=some [((.agg [(.int .i64 0),(.int .i64 2),(.list 8 [(.agg [(.int .u8 2),(.int .u8 0),(.int .u8 0),(.int .u8 0),(.int .u8 0),(.int .u8 0),(.int .u8 0),(.int .u8 0)])])]),false)]:=cal_of_vmCall (n:=400) (by kernel_rfl)
theorem aw3:cal env 39 [(.list 1 [(.int .i64 3)]),(.list 3 [(.agg [(.int .i64 0),(.int .i64 2),(.list 8 [(.agg [(.int .u8 2),(.int .u8 0),(.int .u8 0),(.int .u8 0),(.int .u8 0),(.int .u8 0),(.int .u8 0),(.int .u8 0)])])])])]=some [((.list 2 [(.agg [(.int .i64 3),(.list 1 [(.int .u64 4)])])]),true),((.bool true),false)]:=cal_of_vmCall (n:=400) (by kernel_rfl)
theorem aw4:cal env 39 [(.list 1 [(.int .i64 3)]),(.list 3 [(.agg [(.int .i64 0),(.int .i64 0),(.list 8 [(.agg [(.int .u8 1),(.int .u8 0),(.int .u8 0),(.int .u8 0),(.int .u8 0),(.int .u8 0),(.int .u8 0),(.int .u8 0)])])]),(.agg [(.int .i64 0),(.int .i64 2),(.list 8 [(.agg [(.int .u8 2),(.int .u8 0),(.int .u8 0),(.int .u8 0),(.int .u8 0),(.int .u8 0),(.int .u8 0),(.int .u8 0)])])])])]=some [((.list 2 [(.agg [(.int .i64 3),(.list 1 [(.int .u64 5)])])]),true),((.bool true),false)]:=cal_of_vmCall (n:=400) (by kernel_rfl)
theorem aw5:cal env 43 [(.int .i64 1),(.int .u8 3)]=some [((.agg [(.int .i64 0),(.int .i64 1),(.list 8 [(.agg [(.int .u8 3),(.int .u8 0),(.int .u8 0),(.int .u8 0),(.int .u8 0),(.int .u8 0),(.int .u8 0),(.int .u8 0)])])]),false)]:=cal_of_vmCall (n:=400) (by kernel_rfl)
theorem aw6:cal env 39 [(.list 1 [(.int .i64 3)]),(.list 3 [(.agg [(.int .i64 0),(.int .i64 1),(.list 8 [(.agg [(.int .u8 3),(.int .u8 0),(.int .u8 0),(.int .u8 0),(.int .u8 0),(.int .u8 0),(.int .u8 0),(.int .u8 0)])])])])]=some [((.list 2 [(.agg [(.int .i64 3),(.list 1 [(.int .u64 2)])])]),true),((.bool true),false)]:=cal_of_vmCall (n:=400) (by kernel_rfl)
theorem aw7:cal env 44 [(.list 1 [(.list 8 [(.agg [(.int .u8 1),(.int .u8 0),(.int .u8 0),(.int .u8 0),(.int .u8 0),(.int .u8 0),(.int .u8 0),(.int .u8 0)]),(.agg [(.int .u8 0),(.int .u8 0),(.int .u8 0),(.int .u8 0),(.int .u8 0),(.int .u8 0),(.int .u8 0),(.int .u8 0)]),(.agg [(.int .u8 0),(.int .u8 0),(.int .u8 0),(.int .u8 0),(.int .u8 0),(.int .u8 0),(.int .u8 0),(.int .u8 0)])])]),(.list 2 [(.agg [(.int .i64 3),(.list 1 [(.int .u64 1)])])])]=some [((.agg [(.int .i64 0),(.list 3 [(.agg [(.int .i64 1),(.int .i64 1),(.int .i64 7)])]),(.list 2 [(.agg [(.int .i64 3),(.list 1 [(.int .u64 1)])])]),(.list 1 [(.list 8 [(.agg [(.int .u8 1),(.int .u8 0),(.int .u8 0),(.int .u8 0),(.int .u8 0),(.int .u8 0),(.int .u8 0),(.int .u8 0)]),(.agg [(.int .u8 0),(.int .u8 0),(.int .u8 0),(.int .u8 0),(.int .u8 0),(.int .u8 0),(.int .u8 0),(.int .u8 0)]),(.agg [(.int .u8 0),(.int .u8 0),(.int .u8 0),(.int .u8 0),(.int .u8 0),(.int .u8 0),(.int .u8 0),(.int .u8 0)])])])]),false)]:=cal_of_vmCall (n:=400) (by kernel_rfl)
theorem aw8:cal env 45 [(.list 1 [(.list 8 [(.agg [(.int .u8 0),(.int .u8 0),(.int .u8 0),(.int .u8 0),(.int .u8 0),(.int .u8 0),(.int .u8 0),(.int .u8 0)]),(.agg [(.int .u8 0),(.int .u8 0),(.int .u8 0),(.int .u8 0),(.int .u8 0),(.int .u8 0),(.int .u8 0),(.int .u8 0)]),(.agg [(.int .u8 2),(.int .u8 0),(.int .u8 0),(.int .u8 0),(.int .u8 0),(.int .u8 0),(.int .u8 0),(.int .u8 0)])])]),(.list 2 [(.agg [(.int .i64 3),(.list 1 [(.int .u64 4)])])])]=some [((.agg [(.int .i64 1),(.list 3 [(.agg [(.int .i64 1),(.int .i64 1),(.int .i64 5)]),(.agg [(.int .i64 2),(.int .i64 6),(.int .i64 9)])]),(.list 2 [(.agg [(.int .i64 3),(.list 1 [(.int .u64 4)])])]),(.list 1 [(.list 8 [(.agg [(.int .u8 0),(.int .u8 0),(.int .u8 0),(.int .u8 0),(.int .u8 0),(.int .u8 0),(.int .u8 0),(.int .u8 0)]),(.agg [(.int .u8 0),(.int .u8 0),(.int .u8 0),(.int .u8 0),(.int .u8 0),(.int .u8 0),(.int .u8 0),(.int .u8 0)]),(.agg [(.int .u8 2),(.int .u8 0),(.int .u8 0),(.int .u8 0),(.int .u8 0),(.int .u8 0),(.int .u8 0),(.int .u8 0)])])])]),false)]:=cal_of_vmCall (n:=400) (by kernel_rfl)
theorem aw9:cal env 24 [(.agg [(.int .i64 0),(.list 3 [(.agg [(.int .i64 1),(.int .i64 1),(.int .i64 7)])]),(.list 2 [(.agg [(.int .i64 3),(.list 1 [(.int .u64 1)])])]),(.list 1 [(.list 8 [(.agg [(.int .u8 1),(.int .u8 0),(.int .u8 0),(.int .u8 0),(.int .u8 0),(.int .u8 0),(.int .u8 0),(.int .u8 0)]),(.agg [(.int .u8 0),(.int .u8 0),(.int .u8 0),(.int .u8 0),(.int .u8 0),(.int .u8 0),(.int .u8 0),(.int .u8 0)]),(.agg [(.int .u8 0),(.int .u8 0),(.int .u8 0),(.int .u8 0),(.int .u8 0),(.int .u8 0),(.int .u8 0),(.int .u8 0)])])])]),(.agg [(.int .i64 1),(.list 3 [(.agg [(.int .i64 1),(.int .i64 1),(.int .i64 5)]),(.agg [(.int .i64 2),(.int .i64 6),(.int .i64 9)])]),(.list 2 [(.agg [(.int .i64 3),(.list 1 [(.int .u64 4)])])]),(.list 1 [(.list 8 [(.agg [(.int .u8 0),(.int .u8 0),(.int .u8 0),(.int .u8 0),(.int .u8 0),(.int .u8 0),(.int .u8 0),(.int .u8 0)]),(.agg [(.int .u8 0),(.int .u8 0),(.int .u8 0),(.int .u8 0),(.int .u8 0),(.int .u8 0),(.int .u8 0),(.int .u8 0)]),(.agg [(.int .u8 2),(.int .u8 0),(.int .u8 0),(.int .u8 0),(.int .u8 0),(.int .u8 0),(.int .u8 0),(.int .u8 0)])])])]),(.int .i64 3)]=some [((.agg [(.int .i64 3),(.int .i64 1),(.int .i64 0),(.int .i64 0),(.int .i64 3),(.int .i64 5),(.bool false),(.bool false)]),false),((.list 1 [(.list 2 [(.agg [(.int .i64 0),(.int .i64 1)]),(.agg [(.int .i64 2),(.int .i64 1)])])]),false),((.int .i64 0),false)]:=cal_of_vmCall (n:=400) (by kernel_rfl)
theorem aw10:cal env 27 [(.list 1 [(.list 2 [(.agg [(.int .i64 0),(.int .i64 1)]),(.agg [(.int .i64 2),(.int .i64 1)])])]),(.list 1 [(.list 2 [(.agg [(.int .i64 0),(.int .i64 1)]),(.agg [(.int .i64 2),(.int .i64 1)])])])]=some [((.bool true),false)]:=cal_of_vmCall (n:=400) (by kernel_rfl)
theorem aw11:cal env 45 [(.list 1 [(.list 8 [(.agg [(.int .u8 0),(.int .u8 0),(.int .u8 0),(.int .u8 0),(.int .u8 0),(.int .u8 0),(.int .u8 0),(.int .u8 0)]),(.agg [(.int .u8 0),(.int .u8 0),(.int .u8 0),(.int .u8 0),(.int .u8 0),(.int .u8 0),(.int .u8 0),(.int .u8 0)]),(.agg [(.int .u8 2),(.int .u8 0),(.int .u8 0),(.int .u8 0),(.int .u8 0),(.int .u8 0),(.int .u8 0),(.int .u8 0)])])]),(.list 2 [(.agg [(.int .i64 3),(.list 1 [(.int .u64 5)])])])]=some [((.agg [(.int .i64 1),(.list 3 [(.agg [(.int .i64 1),(.int .i64 1),(.int .i64 5)]),(.agg [(.int .i64 2),(.int .i64 6),(.int .i64 9)])]),(.list 2 [(.agg [(.int .i64 3),(.list 1 [(.int .u64 5)])])]),(.list 1 [(.list 8 [(.agg [(.int .u8 0),(.int .u8 0),(.int .u8 0),(.int .u8 0),(.int .u8 0),(.int .u8 0),(.int .u8 0),(.int .u8 0)]),(.agg [(.int .u8 0),(.int .u8 0),(.int .u8 0),(.int .u8 0),(.int .u8 0),(.int .u8 0),(.int .u8 0),(.int .u8 0)]),(.agg [(.int .u8 2),(.int .u8 0),(.int .u8 0),(.int .u8 0),(.int .u8 0),(.int .u8 0),(.int .u8 0),(.int .u8 0)])])])]),false)]:=cal_of_vmCall (n:=400) (by kernel_rfl)
theorem aw12:cal env 12 [(.agg [(.int .i64 3),(.int .i64 1),(.int .i64 0),(.int .i64 0),(.int .i64 3),(.int .i64 5),(.bool false),(.bool false)]),(.agg [(.int .i64 1),(.list 3 [(.agg [(.int .i64 1),(.int .i64 1),(.int .i64 5)]),(.agg [(.int .i64 2),(.int .i64 6),(.int .i64 9)])]),(.list 2 [(.agg [(.int .i64 3),(.list 1 [(.int .u64 5)])])]),(.list 1 [(.list 8 [(.agg [(.int .u8 0),(.int .u8 0),(.int .u8 0),(.int .u8 0),(.int .u8 0),(.int .u8 0),(.int .u8 0),(.int .u8 0)]),(.agg [(.int .u8 0),(.int .u8 0),(.int .u8 0),(.int .u8 0),(.int .u8 0),(.int .u8 0),(.int .u8 0),(.int .u8 0)]),(.agg [(.int .u8 2),(.int .u8 0),(.int .u8 0),(.int .u8 0),(.int .u8 0),(.int .u8 0),(.int .u8 0),(.int .u8 0)])])])]),(.int .i64 10),(.int .i64 0)]=some [((.agg [(.int .i64 3),(.int .i64 1),(.int .i64 0),(.int .i64 1),(.int .i64 3),(.int .i64 10),(.bool false),(.bool false)]),false),((.agg [(.int .i64 5),(.int .i64 10),(.int .i64 0),(.list 1 []),(.list 3 [(.agg [(.int .i64 0),(.int .i64 0),(.list 8 [(.agg [(.int .u8 0),(.int .u8 0),(.int .u8 0),(.int .u8 0),(.int .u8 0),(.int .u8 0),(.int .u8 0),(.int .u8 0)])])]),(.agg [(.int .i64 0),(.int .i64 2),(.list 8 [(.agg [(.int .u8 2),(.int .u8 0),(.int .u8 0),(.int .u8 0),(.int .u8 0),(.int .u8 0),(.int .u8 0),(.int .u8 0)])])])])]),false),((.int .i64 0),false)]:=cal_of_vmCall (n:=400) (by kernel_rfl)
theorem aw13:cal env 36 [(.list 1 [(.list 8 [(.agg [(.int .u8 1),(.int .u8 0),(.int .u8 0),(.int .u8 0),(.int .u8 0),(.int .u8 0),(.int .u8 0),(.int .u8 0)]),(.agg [(.int .u8 0),(.int .u8 0),(.int .u8 0),(.int .u8 0),(.int .u8 0),(.int .u8 0),(.int .u8 0),(.int .u8 0)]),(.agg [(.int .u8 0),(.int .u8 0),(.int .u8 0),(.int .u8 0),(.int .u8 0),(.int .u8 0),(.int .u8 0),(.int .u8 0)])])]),(.agg [(.int .i64 5),(.int .i64 10),(.int .i64 0),(.list 1 []),(.list 3 [(.agg [(.int .i64 0),(.int .i64 0),(.list 8 [(.agg [(.int .u8 0),(.int .u8 0),(.int .u8 0),(.int .u8 0),(.int .u8 0),(.int .u8 0),(.int .u8 0),(.int .u8 0)])])]),(.agg [(.int .i64 0),(.int .i64 2),(.list 8 [(.agg [(.int .u8 2),(.int .u8 0),(.int .u8 0),(.int .u8 0),(.int .u8 0),(.int .u8 0),(.int .u8 0),(.int .u8 0)])])])])])]=some [((.list 1 [(.list 8 [(.agg [(.int .u8 0),(.int .u8 0),(.int .u8 0),(.int .u8 0),(.int .u8 0),(.int .u8 0),(.int .u8 0),(.int .u8 0)]),(.agg [(.int .u8 0),(.int .u8 0),(.int .u8 0),(.int .u8 0),(.int .u8 0),(.int .u8 0),(.int .u8 0),(.int .u8 0)]),(.agg [(.int .u8 2),(.int .u8 0),(.int .u8 0),(.int .u8 0),(.int .u8 0),(.int .u8 0),(.int .u8 0),(.int .u8 0)])])]),false),((.int .i64 0),false)]:=cal_of_vmCall (n:=400) (by kernel_rfl)
theorem aw14:cal env 44 [(.list 1 [(.list 8 [(.agg [(.int .u8 0),(.int .u8 0),(.int .u8 0),(.int .u8 0),(.int .u8 0),(.int .u8 0),(.int .u8 0),(.int .u8 0)]),(.agg [(.int .u8 0),(.int .u8 0),(.int .u8 0),(.int .u8 0),(.int .u8 0),(.int .u8 0),(.int .u8 0),(.int .u8 0)]),(.agg [(.int .u8 2),(.int .u8 0),(.int .u8 0),(.int .u8 0),(.int .u8 0),(.int .u8 0),(.int .u8 0),(.int .u8 0)])])]),(.list 2 [(.agg [(.int .i64 3),(.list 1 [(.int .u64 1)])])])]=some [((.agg [(.int .i64 0),(.list 3 [(.agg [(.int .i64 1),(.int .i64 1),(.int .i64 7)])]),(.list 2 [(.agg [(.int .i64 3),(.list 1 [(.int .u64 1)])])]),(.list 1 [(.list 8 [(.agg [(.int .u8 0),(.int .u8 0),(.int .u8 0),(.int .u8 0),(.int .u8 0),(.int .u8 0),(.int .u8 0),(.int .u8 0)]),(.agg [(.int .u8 0),(.int .u8 0),(.int .u8 0),(.int .u8 0),(.int .u8 0),(.int .u8 0),(.int .u8 0),(.int .u8 0)]),(.agg [(.int .u8 2),(.int .u8 0),(.int .u8 0),(.int .u8 0),(.int .u8 0),(.int .u8 0),(.int .u8 0),(.int .u8 0)])])])]),false)]:=cal_of_vmCall (n:=400) (by kernel_rfl)
theorem aw15:cal env 45 [(.list 1 [(.list 8 [(.agg [(.int .u8 0),(.int .u8 0),(.int .u8 0),(.int .u8 0),(.int .u8 0),(.int .u8 0),(.int .u8 0),(.int .u8 0)]),(.agg [(.int .u8 3),(.int .u8 0),(.int .u8 0),(.int .u8 0),(.int .u8 0),(.int .u8 0),(.int .u8 0),(.int .u8 0)]),(.agg [(.int .u8 2),(.int .u8 0),(.int .u8 0),(.int .u8 0),(.int .u8 0),(.int .u8 0),(.int .u8 0),(.int .u8 0)])])]),(.list 2 [(.agg [(.int .i64 3),(.list 1 [(.int .u64 2)])])])]=some [((.agg [(.int .i64 1),(.list 3 [(.agg [(.int .i64 1),(.int .i64 1),(.int .i64 5)]),(.agg [(.int .i64 2),(.int .i64 6),(.int .i64 9)])]),(.list 2 [(.agg [(.int .i64 3),(.list 1 [(.int .u64 2)])])]),(.list 1 [(.list 8 [(.agg [(.int .u8 0),(.int .u8 0),(.int .u8 0),(.int .u8 0),(.int .u8 0),(.int .u8 0),(.int .u8 0),(.int .u8 0)]),(.agg [(.int .u8 3),(.int .u8 0),(.int .u8 0),(.int .u8 0),(.int .u8 0),(.int .u8 0),(.int .u8 0),(.int .u8 0)]),(.agg [(.int .u8 2),(.int .u8 0),(.int .u8 0),(.int .u8 0),(.int .u8 0),(.int .u8 0),(.int .u8 0),(.int .u8 0)])])])]),false)]:=cal_of_vmCall (n:=400) (by kernel_rfl)
theorem aw16:cal env 15 [(.agg [(.int .i64 3),(.int .i64 1),(.int .i64 0),(.int .i64 1),(.int .i64 3),(.int .i64 10),(.bool false),(.bool false)]),(.agg [(.int .i64 0),(.list 3 [(.agg [(.int .i64 1),(.int .i64 1),(.int .i64 7)])]),(.list 2 [(.agg [(.int .i64 3),(.list 1 [(.int .u64 1)])])]),(.list 1 [(.list 8 [(.agg [(.int .u8 0),(.int .u8 0),(.int .u8 0),(.int .u8 0),(.int .u8 0),(.int .u8 0),(.int .u8 0),(.int .u8 0)]),(.agg [(.int .u8 0),(.int .u8 0),(.int .u8 0),(.int .u8 0),(.int .u8 0),(.int .u8 0),(.int .u8 0),(.int .u8 0)]),(.agg [(.int .u8 2),(.int .u8 0),(.int .u8 0),(.int .u8 0),(.int .u8 0),(.int .u8 0),(.int .u8 0),(.int .u8 0)])])])]),(.agg [(.int .i64 1),(.list 3 [(.agg [(.int .i64 1),(.int .i64 1),(.int .i64 5)]),(.agg [(.int .i64 2),(.int .i64 6),(.int .i64 9)])]),(.list 2 [(.agg [(.int .i64 3),(.list 1 [(.int .u64 2)])])]),(.list 1 [(.list 8 [(.agg [(.int .u8 0),(.int .u8 0),(.int .u8 0),(.int .u8 0),(.int .u8 0),(.int .u8 0),(.int .u8 0),(.int .u8 0)]),(.agg [(.int .u8 3),(.int .u8 0),(.int .u8 0),(.int .u8 0),(.int .u8 0),(.int .u8 0),(.int .u8 0),(.int .u8 0)]),(.agg [(.int .u8 2),(.int .u8 0),(.int .u8 0),(.int .u8 0),(.int .u8 0),(.int .u8 0),(.int .u8 0),(.int .u8 0)])])])])]=some [((.agg [(.int .i64 0),(.int .i64 0),(.int .i64 0),(.int .i64 0),(.int .i64 0),(.int .i64 0),(.bool false),(.bool false)]),false),((.int .i64 22),false)]:=cal_of_vmCall (n:=400) (by kernel_rfl)
theorem aw17:cal env 12 [(.agg [(.int .i64 3),(.int .i64 1),(.int .i64 0),(.int .i64 1),(.int .i64 3),(.int .i64 10),(.bool false),(.bool false)]),(.agg [(.int .i64 1),(.list 3 [(.agg [(.int .i64 1),(.int .i64 1),(.int .i64 5)]),(.agg [(.int .i64 2),(.int .i64 6),(.int .i64 9)])]),(.list 2 [(.agg [(.int .i64 3),(.list 1 [(.int .u64 2)])])]),(.list 1 [(.list 8 [(.agg [(.int .u8 0),(.int .u8 0),(.int .u8 0),(.int .u8 0),(.int .u8 0),(.int .u8 0),(.int .u8 0),(.int .u8 0)]),(.agg [(.int .u8 3),(.int .u8 0),(.int .u8 0),(.int .u8 0),(.int .u8 0),(.int .u8 0),(.int .u8 0),(.int .u8 0)]),(.agg [(.int .u8 2),(.int .u8 0),(.int .u8 0),(.int .u8 0),(.int .u8 0),(.int .u8 0),(.int .u8 0),(.int .u8 0)])])])]),(.int .i64 11),(.int .i64 0)]=some [((.agg [(.int .i64 3),(.int .i64 1),(.int .i64 0),(.int .i64 2),(.int .i64 3),(.int .i64 11),(.bool false),(.bool false)]),false),((.agg [(.int .i64 10),(.int .i64 11),(.int .i64 0),(.list 1 []),(.list 3 [(.agg [(.int .i64 0),(.int .i64 1),(.list 8 [(.agg [(.int .u8 3),(.int .u8 0),(.int .u8 0),(.int .u8 0),(.int .u8 0),(.int .u8 0),(.int .u8 0),(.int .u8 0)])])])])]),false),((.int .i64 0),false)]:=cal_of_vmCall (n:=400) (by kernel_rfl)
theorem aw18:cal env 36 [(.list 1 [(.list 8 [(.agg [(.int .u8 0),(.int .u8 0),(.int .u8 0),(.int .u8 0),(.int .u8 0),(.int .u8 0),(.int .u8 0),(.int .u8 0)]),(.agg [(.int .u8 0),(.int .u8 0),(.int .u8 0),(.int .u8 0),(.int .u8 0),(.int .u8 0),(.int .u8 0),(.int .u8 0)]),(.agg [(.int .u8 2),(.int .u8 0),(.int .u8 0),(.int .u8 0),(.int .u8 0),(.int .u8 0),(.int .u8 0),(.int .u8 0)])])]),(.agg [(.int .i64 10),(.int .i64 11),(.int .i64 0),(.list 1 []),(.list 3 [(.agg [(.int .i64 0),(.int .i64 1),(.list 8 [(.agg [(.int .u8 3),(.int .u8 0),(.int .u8 0),(.int .u8 0),(.int .u8 0),(.int .u8 0),(.int .u8 0),(.int .u8 0)])])])])])]=some [((.list 1 [(.list 8 [(.agg [(.int .u8 0),(.int .u8 0),(.int .u8 0),(.int .u8 0),(.int .u8 0),(.int .u8 0),(.int .u8 0),(.int .u8 0)]),(.agg [(.int .u8 3),(.int .u8 0),(.int .u8 0),(.int .u8 0),(.int .u8 0),(.int .u8 0),(.int .u8 0),(.int .u8 0)]),(.agg [(.int .u8 2),(.int .u8 0),(.int .u8 0),(.int .u8 0),(.int .u8 0),(.int .u8 0),(.int .u8 0),(.int .u8 0)])])]),false),((.int .i64 0),false)]:=cal_of_vmCall (n:=400) (by kernel_rfl)
theorem aw19:cal env 44 [(.list 1 [(.list 8 [(.agg [(.int .u8 0),(.int .u8 0),(.int .u8 0),(.int .u8 0),(.int .u8 0),(.int .u8 0),(.int .u8 0),(.int .u8 0)]),(.agg [(.int .u8 3),(.int .u8 0),(.int .u8 0),(.int .u8 0),(.int .u8 0),(.int .u8 0),(.int .u8 0),(.int .u8 0)]),(.agg [(.int .u8 2),(.int .u8 0),(.int .u8 0),(.int .u8 0),(.int .u8 0),(.int .u8 0),(.int .u8 0),(.int .u8 0)])])]),(.list 2 [(.agg [(.int .i64 3),(.list 1 [(.int .u64 1)])])])]=some [((.agg [(.int .i64 0),(.list 3 [(.agg [(.int .i64 1),(.int .i64 1),(.int .i64 7)])]),(.list 2 [(.agg [(.int .i64 3),(.list 1 [(.int .u64 1)])])]),(.list 1 [(.list 8 [(.agg [(.int .u8 0),(.int .u8 0),(.int .u8 0),(.int .u8 0),(.int .u8 0),(.int .u8 0),(.int .u8 0),(.int .u8 0)]),(.agg [(.int .u8 3),(.int .u8 0),(.int .u8 0),(.int .u8 0),(.int .u8 0),(.int .u8 0),(.int .u8 0),(.int .u8 0)]),(.agg [(.int .u8 2),(.int .u8 0),(.int .u8 0),(.int .u8 0),(.int .u8 0),(.int .u8 0),(.int .u8 0),(.int .u8 0)])])])]),false)]:=cal_of_vmCall (n:=400) (by kernel_rfl)
theorem aw20:cal env 15 [(.agg [(.int .i64 3),(.int .i64 1),(.int .i64 0),(.int .i64 2),(.int .i64 3),(.int .i64 11),(.bool false),(.bool false)]),(.agg [(.int .i64 0),(.list 3 [(.agg [(.int .i64 1),(.int .i64 1),(.int .i64 7)])]),(.list 2 [(.agg [(.int .i64 3),(.list 1 [(.int .u64 1)])])]),(.list 1 [(.list 8 [(.agg [(.int .u8 0),(.int .u8 0),(.int .u8 0),(.int .u8 0),(.int .u8 0),(.int .u8 0),(.int .u8 0),(.int .u8 0)]),(.agg [(.int .u8 3),(.int .u8 0),(.int .u8 0),(.int .u8 0),(.int .u8 0),(.int .u8 0),(.int .u8 0),(.int .u8 0)]),(.agg [(.int .u8 2),(.int .u8 0),(.int .u8 0),(.int .u8 0),(.int .u8 0),(.int .u8 0),(.int .u8 0),(.int .u8 0)])])])]),(.agg [(.int .i64 1),(.list 3 [(.agg [(.int .i64 1),(.int .i64 1),(.int .i64 5)]),(.agg [(.int .i64 2),(.int .i64 6),(.int .i64 9)])]),(.list 2 [(.agg [(.int .i64 3),(.list 1 [(.int .u64 2)])])]),(.list 1 [(.list 8 [(.agg [(.int .u8 0),(.int .u8 0),(.int .u8 0),(.int .u8 0),(.int .u8 0),(.int .u8 0),(.int .u8 0),(.int .u8 0)]),(.agg [(.int .u8 3),(.int .u8 0),(.int .u8 0),(.int .u8 0),(.int .u8 0),(.int .u8 0),(.int .u8 0),(.int .u8 0)]),(.agg [(.int .u8 2),(.int .u8 0),(.int .u8 0),(.int .u8 0),(.int .u8 0),(.int .u8 0),(.int .u8 0),(.int .u8 0)])])])])]=some [((.agg [(.int .i64 3),(.int .i64 1),(.int .i64 0),(.int .i64 2),(.int .i64 3),(.int .i64 11),(.bool true),(.bool false)]),false),((.int .i64 0),false)]:=cal_of_vmCall (n:=400) (by kernel_rfl)
theorem aw21:cal env 17 [(.list 1 [(.list 8 [(.agg [(.int .u8 1),(.int .u8 0),(.int .u8 0),(.int .u8 0),(.int .u8 0),(.int .u8 0),(.int .u8 0),(.int .u8 0)]),(.agg [(.int .u8 0),(.int .u8 0),(.int .u8 0),(.int .u8 0),(.int .u8 0),(.int .u8 0),(.int .u8 0),(.int .u8 0)]),(.agg [(.int .u8 0),(.int .u8 0),(.int .u8 0),(.int .u8 0),(.int .u8 0),(.int .u8 0),(.int .u8 0),(.int .u8 0)])])]),(.list 1 [(.list 8 [(.agg [(.int .u8 0),(.int .u8 0),(.int .u8 0),(.int .u8 0),(.int .u8 0),(.int .u8 0),(.int .u8 0),(.int .u8 0)]),(.agg [(.int .u8 0),(.int .u8 0),(.int .u8 0),(.int .u8 0),(.int .u8 0),(.int .u8 0),(.int .u8 0),(.int .u8 0)]),(.agg [(.int .u8 2),(.int .u8 0),(.int .u8 0),(.int .u8 0),(.int .u8 0),(.int .u8 0),(.int .u8 0),(.int .u8 0)])])])]=some [((.int .i64 2),false),((.int .i64 0),false)]:=cal_of_vmCall (n:=400) (by kernel_rfl)
theorem aw22:cal env 37 [(.list 1 [(.list 8 [(.agg [(.int .u8 0),(.int .u8 0),(.int .u8 0),(.int .u8 0),(.int .u8 0),(.int .u8 0),(.int .u8 0),(.int .u8 0)]),(.agg [(.int .u8 3),(.int .u8 0),(.int .u8 0),(.int .u8 0),(.int .u8 0),(.int .u8 0),(.int .u8 0),(.int .u8 0)]),(.agg [(.int .u8 2),(.int .u8 0),(.int .u8 0),(.int .u8 0),(.int .u8 0),(.int .u8 0),(.int .u8 0),(.int .u8 0)])])]),(.list 1 [(.list 8 [(.agg [(.int .u8 0),(.int .u8 0),(.int .u8 0),(.int .u8 0),(.int .u8 0),(.int .u8 0),(.int .u8 0),(.int .u8 0)]),(.agg [(.int .u8 3),(.int .u8 0),(.int .u8 0),(.int .u8 0),(.int .u8 0),(.int .u8 0),(.int .u8 0),(.int .u8 0)]),(.agg [(.int .u8 2),(.int .u8 0),(.int .u8 0),(.int .u8 0),(.int .u8 0),(.int .u8 0),(.int .u8 0),(.int .u8 0)])])])]=some [((.bool true),false)]:=cal_of_vmCall (n:=400) (by kernel_rfl)
theorem aw23:cal env 20 [(.list 5 [(.agg [(.int .i64 5),(.int .i64 10),(.int .i64 0),(.list 1 []),(.list 3 [(.agg [(.int .i64 0),(.int .i64 0),(.list 8 [(.agg [(.int .u8 0),(.int .u8 0),(.int .u8 0),(.int .u8 0),(.int .u8 0),(.int .u8 0),(.int .u8 0),(.int .u8 0)])])]),(.agg [(.int .i64 0),(.int .i64 2),(.list 8 [(.agg [(.int .u8 2),(.int .u8 0),(.int .u8 0),(.int .u8 0),(.int .u8 0),(.int .u8 0),(.int .u8 0),(.int .u8 0)])])])])]),(.agg [(.int .i64 10),(.int .i64 11),(.int .i64 0),(.list 1 []),(.list 3 [(.agg [(.int .i64 0),(.int .i64 1),(.list 8 [(.agg [(.int .u8 3),(.int .u8 0),(.int .u8 0),(.int .u8 0),(.int .u8 0),(.int .u8 0),(.int .u8 0),(.int .u8 0)])])])])])])]=some [((.int .i64 3),false)]:=cal_of_vmCall (n:=400) (by kernel_rfl)
theorem scP (k s1 s2 s3 a l1 l2 l3):(PV.agg [.int k a,.list s1 l1,.list s2 l2,.list s3 l3]).scalar=false:=rfl
theorem scW (k k2 s1 a b l1):(PV.agg [.int k a,.int k2 b,.list s1 l1]).scalar=false:=rfl
theorem scB (k s1 a l1):(PV.agg [.int k a,.list s1 l1]).scalar=false:=rfl
theorem scC (k1 k2 k3 s1 s2 a b c l1 l2):(PV.agg [.int k1 a,.int k2 b,.int k3 c,.list s1 l1,.list s2 l2]).scalar=false:=rfl
theorem scQ (k1 k2 k3 k4 k5 k6 a b c d e f x y):(PV.agg [.int k1 a,.int k2 b,.int k3 c,.int k4 d,.int k5 e,.int k6 f,.bool x,.bool y]).scalar=true:=rfl
theorem w00:IntKind.i64.wrap 0=0:=by decide
set_option maxRecDepth 20000 in
theorem calAwake:cal env 11 []=some [(.bool true,false)]:=by
 rw [cal_code env11 rfl];simp only [fn11,slAll,Nat.reduceBEq,Nat.reduceLeDiff,Nat.reduceAdd,List.length_cons,List.length_nil]
 simp only [aw0,aw1,aw2,aw3,aw4,aw5,aw6,aw7,aw8,aw9,aw10,aw11,aw12,aw13,aw14,aw15,aw16,aw17,aw18,aw19,aw20,aw21,aw22,aw23,scP,scW,scB,scC,scQ,w00,Int.add_zero,slAll,slsAll,Nat.reduceMul,Nat.reduceBEq,Nat.reduceLT,Nat.reduceLeDiff,memAll,vAll,reduceCtorEq,Nat.reduceEqDiff,Nat.reduceAdd,Nat.reduceLT,Nat.reduceLeDiff,Nat.beq]
end Go.Proofs.YtioijcfcehhmdaaGreatDoor.V

namespace Go.Proofs.YtioijcfcehhmdaaGreatDoor.V
structure Cye where
 base:Int
 num:Int
 time:Int
 pos:List Int
 ws:List Wrt
def eCye (c:Cye):PV:=.agg [.int .i64 c.base,.int .i64 c.num,.int .i64 c.time,.list 1 (c.pos.map eI),.list 3 (c.ws.map eWr)]
theorem eCye_eq (c:Cye):eCye c=.agg [.int .i64 c.base,.int .i64 c.num,.int .i64 c.time,.list 1 (c.pos.map eI),.list 3 (c.ws.map eWr)]:=rfl
theorem eCye_at {l:List Cye} {i:Nat} (h:i<l.length):(l.map eCye)[i]?=some (.agg [.int .i64 l[i].base,.int .i64 l[i].num,.int .i64 l[i].time,.list 1 (l[i].pos.map eI),.list 3 (l[i].ws.map eWr)]):=by rw [List.getElem?_map,List.getElem?_eq_getElem h];rfl
theorem eWr_at {l:List Wrt} {i:Nat} (h:i<l.length):(l.map eWr)[i]?=some (.agg [.int .i64 l[i].volume,.int .i64 l[i].start,.list 8 (l[i].data.map eSec)]):=by rw [List.getElem?_map,List.getElem?_eq_getElem h];rfl
theorem loop66 {l:List Wrt} (hd:∀ w∈l,w.data.length≤10000) (hl:l.length≤1000000) {st:St} (h:st.head [0,3,6,7,8] st.boxes.length=some ⟨sl 19 [(0,.pv (.list 3 (l.map eWr))),(3,.pv (.int .i64 (secsW (l.take ((0:Nat)))))),(6,.pv (.list 3 (l.map eWr))),(7,.pv (.int .i64 l.length)),(8,.pv (.int .i64 (0:Nat)))],[],[],none⟩) :
  den env fn66_l1 st=some (.normal,⟨sl 19 [(2,.any),(3,.pv (.int .i64 (secsW l)))],[],[],none⟩):=by
 unfold fn66_l1
 refine clean_up (env:=env) (nb:=0) (l.length) (fun i=>⟨sl 19 [(0,.pv (.list 3 (l.map eWr))),(3,.pv (.int .i64 (secsW (l.take (i))))),(6,.pv (.list 3 (l.map eWr))),(7,.pv (.int .i64 l.length)),(8,.pv (.int .i64 i))],[],[],none⟩) (fun i=>some (.normal,⟨sl 19 [(2,.any),(3,.pv (.int .i64 (secsW l)))],[],[],none⟩)) h (fun _=>rfl) (fun _=>by simp only [slAll,slsAll,Nat.reduceMul,Nat.reduceBEq,Nat.reduceLT,Nat.reduceLeDiff,Nat.reduceAdd,decide_true,Bool.and_self,Bool.true_and]) ?_ ?_
 ·intro i rb hi ih
  have hi1:=i64_next hi (Nat.le_trans hl (by decide))
  have F1:((i:Int)<(l.length:Int))=True:=eq_true (by omega)
  have hx:=eWr_at hi
  have P3:∀ a b c:PV,part [a,b,c] 0 (some 3)=some (.agg [a,b,c]):=fun _ _ _=>rfl
  have h1:=secsW_lim (l:=l.take i) fun w hw=>hd w (List.mem_of_mem_take hw)
  have h2:=hd _ (List.getElem_mem hi)
  have h3:(l.take i).length≤1000000:=by rw [List.length_take];omega
  have W:IntKind.i64.wrap (secsW (l.take i)+(l[i].data.length:Int))=secsW (l.take (i+1)):=by rw [secsW_take hi];exact i64_fits (by omega)
  simp only [fn66_b0,F1,hx,P3,W,index_nat hi,List.length_map,slAll,slsAll,Nat.reduceMul,Nat.reduceBEq,Nat.reduceLT,Nat.reduceLeDiff,memAll,vAll,reduceCtorEq,Nat.reduceEqDiff,Nat.reduceAdd,Nat.reduceLT,Nat.reduceLeDiff,Nat.beq]
  rw [ih _ (by simp only [hi1,slAll,slsAll,Nat.reduceMul,Nat.reduceBEq,Nat.reduceLT,Nat.reduceLeDiff,memAll,vAll,reduceCtorEq,Nat.reduceEqDiff,Nat.reduceAdd,Nat.reduceLT,Nat.reduceLeDiff,Nat.beq]<;>rfl)]
 ·intro rb
  rw [List.take_length]
  simp only [fn66_b0,Int.lt_irrefl,List.length_map,slAll,slsAll,Nat.reduceMul,Nat.reduceBEq,Nat.reduceLT,Nat.reduceLeDiff,memAll,vAll,reduceCtorEq,Nat.reduceEqDiff,Nat.reduceAdd,Nat.reduceLT,Nat.reduceLeDiff,Nat.beq]
theorem cal66 {l:List Wrt} (hd:∀ w∈l,w.data.length≤10000) (hl:l.length≤1000000):cal env 66 [.list 3 (l.map eWr)]=some [(.int .i64 (secsW l),false)]:=by
 rw [cal_code env66 rfl];simp only [fn66,slAll,Nat.reduceBEq,Nat.reduceLeDiff,Nat.reduceAdd,List.length_cons,List.length_nil]
 simp only [List.length_map,slAll,slsAll,Nat.reduceMul,Nat.reduceBEq,Nat.reduceLT,Nat.reduceLeDiff,memAll,vAll,reduceCtorEq,Nat.reduceEqDiff,Nat.reduceAdd,Nat.reduceLT,Nat.reduceLeDiff,Nat.beq]
 rw [loop66 hd hl (by simp only [List.take_zero];simp only [slAll,slsAll,Nat.reduceMul,Nat.reduceBEq,Nat.reduceLT,Nat.reduceLeDiff,Nat.reduceAdd,decide_true,Bool.and_self,Bool.true_and]<;>rfl)]
 simp only [slAll,slsAll,Nat.reduceMul,Nat.reduceBEq,Nat.reduceLT,Nat.reduceLeDiff,memAll,vAll,reduceCtorEq,Nat.reduceEqDiff,Nat.reduceAdd,Nat.reduceLT,Nat.reduceLeDiff,Nat.beq]
def secsC:List Cye→Int
 |[]=>0
 |c :: l=>secsW c.ws+secsC l
theorem secsC_app:∀ a b:List Cye,secsC (a++b)=secsC a+secsC b
 |[],b=>by simp [secsC]
 |e :: a,b=>by simp only [List.cons_append,secsC,secsC_app a b];omega
theorem secsC_take {l:List Cye} {i:Nat} (h:i<l.length):secsC (l.take (i+1))=secsC (l.take i)+secsW l[i].ws:=by
 rw [List.take_succ_eq_append_getElem h,secsC_app];simp [secsC]
def okC (l:List Cye):Prop:=l.length≤1000∧∀ c∈l,c.ws.length≤10000∧∀ w∈c.ws,w.data.length≤10000
theorem secsC_le:∀ {l:List Cye},(∀ c∈l,c.ws.length≤10000∧∀ w∈c.ws,w.data.length≤10000)→0≤secsC l∧secsC l≤100000000 * (l.length:Int)
 |[],_=>by simp [secsC]
 |c :: l,h=>by
  obtain ⟨h0,h1⟩:=h c (by simp)
  have h3:=secsW_lim h1
  have h2:=secsC_le (l:=l) fun x hx=>h x (by simp [hx])
  simp only [secsC,List.length_cons]
  omega
theorem secsC_tk {l:List Cye} (h:okC l) (i:Nat):0≤secsC (l.take i)∧secsC (l.take i)≤100000000000:=by
 have h1:=secsC_le (l:=l.take i) fun c hc=>h.2 c (List.mem_of_mem_take hc)
 have h2:=h.1
 have h3:(l.take i).length≤l.length:=by rw [List.length_take];omega
 omega
theorem loop20 {l:List Cye} (ho:okC l) {st:St} (h:st.head [0,3,6,7,8] st.boxes.length=some ⟨sl 19 [(0,.pv (.list 5 (l.map eCye))),(3,.pv (.int .i64 (secsC (l.take ((0:Nat)))))),(6,.pv (.list 5 (l.map eCye))),(7,.pv (.int .i64 l.length)),(8,.pv (.int .i64 (0:Nat)))],[],[],none⟩) :
  den env fn20_l1 st=some (.normal,⟨sl 19 [(2,.any),(3,.pv (.int .i64 (secsC l)))],[],[],none⟩):=by
 unfold fn20_l1
 refine clean_up (env:=env) (nb:=0) (l.length) (fun i=>⟨sl 19 [(0,.pv (.list 5 (l.map eCye))),(3,.pv (.int .i64 (secsC (l.take (i))))),(6,.pv (.list 5 (l.map eCye))),(7,.pv (.int .i64 l.length)),(8,.pv (.int .i64 i))],[],[],none⟩) (fun i=>some (.normal,⟨sl 19 [(2,.any),(3,.pv (.int .i64 (secsC l)))],[],[],none⟩)) h (fun _=>rfl) (fun _=>by simp only [slAll,slsAll,Nat.reduceMul,Nat.reduceBEq,Nat.reduceLT,Nat.reduceLeDiff,Nat.reduceAdd,decide_true,Bool.and_self,Bool.true_and]) ?_ ?_
 ·intro i rb hi ih
  have hl:=ho.1
  have hi1:=i64_next hi (Nat.le_trans hl (by decide))
  have F1:((i:Int)<(l.length:Int))=True:=eq_true (by omega)
  have hx:=eCye_at hi
  have P5:∀ a b c d e:PV,part [a,b,c,d,e] 0 (some 5)=some (.agg [a,b,c,d,e]):=fun _ _ _ _ _=>rfl
  have b1:=secsC_tk ho i
  obtain ⟨b2,b3⟩:=ho.2 _ (List.getElem_mem hi)
  have b4:=secsW_lim b3
  have e1:=cal66 (l:=l[i].ws) b3 (by omega)
  have W:IntKind.i64.wrap (secsC (l.take i)+secsW l[i].ws)=secsC (l.take (i+1)):=by rw [secsC_take hi];exact i64_fits (by omega)
  simp only [fn20_b0,F1,hx,P5,W,e1,index_nat hi,List.length_map,slAll,slsAll,Nat.reduceMul,Nat.reduceBEq,Nat.reduceLT,Nat.reduceLeDiff,memAll,vAll,reduceCtorEq,Nat.reduceEqDiff,Nat.reduceAdd,Nat.reduceLT,Nat.reduceLeDiff,Nat.beq]
  rw [ih _ (by simp only [hi1,slAll,slsAll,Nat.reduceMul,Nat.reduceBEq,Nat.reduceLT,Nat.reduceLeDiff,memAll,vAll,reduceCtorEq,Nat.reduceEqDiff,Nat.reduceAdd,Nat.reduceLT,Nat.reduceLeDiff,Nat.beq]<;>rfl)]
 ·intro rb
  rw [List.take_length]
  simp only [fn20_b0,Int.lt_irrefl,List.length_map,slAll,slsAll,Nat.reduceMul,Nat.reduceBEq,Nat.reduceLT,Nat.reduceLeDiff,memAll,vAll,reduceCtorEq,Nat.reduceEqDiff,Nat.reduceAdd,Nat.reduceLT,Nat.reduceLeDiff,Nat.beq]
theorem cal20 {l:List Cye} (ho:okC l):cal env 20 [.list 5 (l.map eCye)]=some [(.int .i64 (secsC l),false)]:=by
 rw [cal_code env20 rfl];simp only [fn20,slAll,Nat.reduceBEq,Nat.reduceLeDiff,Nat.reduceAdd,List.length_cons,List.length_nil]
 simp only [List.length_map,slAll,slsAll,Nat.reduceMul,Nat.reduceBEq,Nat.reduceLT,Nat.reduceLeDiff,memAll,vAll,reduceCtorEq,Nat.reduceEqDiff,Nat.reduceAdd,Nat.reduceLT,Nat.reduceLeDiff,Nat.beq]
 rw [loop20 ho (by simp only [List.take_zero,secsC];simp only [slAll,slsAll,Nat.reduceMul,Nat.reduceBEq,Nat.reduceLT,Nat.reduceLeDiff,Nat.reduceAdd,decide_true,Bool.and_self,Bool.true_and]<;>rfl)]
 simp only [slAll,slsAll,Nat.reduceMul,Nat.reduceBEq,Nat.reduceLT,Nat.reduceLeDiff,memAll,vAll,reduceCtorEq,Nat.reduceEqDiff,Nat.reduceAdd,Nat.reduceLT,Nat.reduceLeDiff,Nat.beq]
theorem loop21 {l:List Cye} (ho:okC l) {st:St} (h:st.head [0,3,4] st.boxes.length=some ⟨sl 20 [(0,.pv (.list 5 (l.map eCye))),(3,.pv (.int .i64 (secsC (l.take ((0:Nat)))))),(4,.pv (.int .i64 (0:Nat)))],[],[],none⟩) :
  den env fn21_l1 st=some (.normal,⟨sl 20 [(2,.any),(3,.pv (.int .i64 (secsC l)))],[],[],none⟩):=by
 unfold fn21_l1
 refine clean_up (env:=env) (nb:=0) (l.length) (fun i=>⟨sl 20 [(0,.pv (.list 5 (l.map eCye))),(3,.pv (.int .i64 (secsC (l.take (i))))),(4,.pv (.int .i64 i))],[],[],none⟩) (fun i=>some (.normal,⟨sl 20 [(2,.any),(3,.pv (.int .i64 (secsC l)))],[],[],none⟩)) h (fun _=>rfl) (fun _=>by simp only [slAll,slsAll,Nat.reduceMul,Nat.reduceBEq,Nat.reduceLT,Nat.reduceLeDiff,Nat.reduceAdd,decide_true,Bool.and_self,Bool.true_and]) ?_ ?_
 ·intro i rb hi ih
  have hl:=ho.1
  have hi1:=i64_next hi (Nat.le_trans hl (by decide))
  have F1:((i:Int)<(l.length:Int))=True:=eq_true (by omega)
  have hx:=eCye_at hi
  have P5:∀ a b c d e:PV,part [a,b,c,d,e] 0 (some 5)=some (.agg [a,b,c,d,e]):=fun _ _ _ _ _=>rfl
  have b1:=secsC_tk ho i
  obtain ⟨b2,b3⟩:=ho.2 _ (List.getElem_mem hi)
  have b4:=secsW_lim b3
  have e1:=cal67 (l:=l[i].ws) b3 (by omega)
  have W:IntKind.i64.wrap (secsC (l.take i)+secsW l[i].ws)=secsC (l.take (i+1)):=by rw [secsC_take hi];exact i64_fits (by omega)
  simp only [fn21_b0,F1,hx,P5,W,e1,index_nat hi,List.length_map,slAll,slsAll,Nat.reduceMul,Nat.reduceBEq,Nat.reduceLT,Nat.reduceLeDiff,memAll,vAll,reduceCtorEq,Nat.reduceEqDiff,Nat.reduceAdd,Nat.reduceLT,Nat.reduceLeDiff,Nat.beq]
  rw [ih _ (by simp only [hi1,slAll,slsAll,Nat.reduceMul,Nat.reduceBEq,Nat.reduceLT,Nat.reduceLeDiff,memAll,vAll,reduceCtorEq,Nat.reduceEqDiff,Nat.reduceAdd,Nat.reduceLT,Nat.reduceLeDiff,Nat.beq]<;>rfl)]
 ·intro rb
  rw [List.take_length]
  simp only [fn21_b0,Int.lt_irrefl,List.length_map,slAll,slsAll,Nat.reduceMul,Nat.reduceBEq,Nat.reduceLT,Nat.reduceLeDiff,memAll,vAll,reduceCtorEq,Nat.reduceEqDiff,Nat.reduceAdd,Nat.reduceLT,Nat.reduceLeDiff,Nat.beq]
theorem cal21 {l:List Cye} (ho:okC l):cal env 21 [.list 5 (l.map eCye)]=some [(.int .i64 (secsC l),false)]:=by
 rw [cal_code env21 rfl];simp only [fn21,slAll,Nat.reduceBEq,Nat.reduceLeDiff,Nat.reduceAdd,List.length_cons,List.length_nil]
 simp only [List.length_map,slAll,slsAll,Nat.reduceMul,Nat.reduceBEq,Nat.reduceLT,Nat.reduceLeDiff,memAll,vAll,reduceCtorEq,Nat.reduceEqDiff,Nat.reduceAdd,Nat.reduceLT,Nat.reduceLeDiff,Nat.beq]
 rw [loop21 ho (by simp only [List.take_zero,secsC];simp only [slAll,slsAll,Nat.reduceMul,Nat.reduceBEq,Nat.reduceLT,Nat.reduceLeDiff,Nat.reduceAdd,decide_true,Bool.and_self,Bool.true_and]<;>rfl)]
 simp only [slAll,slsAll,Nat.reduceMul,Nat.reduceBEq,Nat.reduceLT,Nat.reduceLeDiff,memAll,vAll,reduceCtorEq,Nat.reduceEqDiff,Nat.reduceAdd,Nat.reduceLT,Nat.reduceLeDiff,Nat.beq]
def few23 (c:Cye):Bool:=decide (c.pos.length≤40)&&few22 c.ws
theorem cal19 {c:Cye}:cal env 19 [eCye c]=some [(.bool (few23 c),false)]:=by
 have e1:=cal65 (l:=c.ws)
 unfold few23
 rw [eCye_eq]
 by_cases h:c.pos.length≤40
 ·have F1:((c.pos.length:Int)≤40)=True:=eq_true (by omega)
  rw [decide_eq_true h]
  rw [cal_code env19 rfl];simp only [fn19,slAll,Nat.reduceBEq,Nat.reduceLeDiff,Nat.reduceAdd,List.length_cons,List.length_nil]
  simp only [e1,F1,List.length_map,slAll,slsAll,Nat.reduceMul,Nat.reduceBEq,Nat.reduceLT,Nat.reduceLeDiff,memAll,vAll,reduceCtorEq,Nat.reduceEqDiff,Nat.reduceAdd,Nat.reduceLT,Nat.reduceLeDiff,Nat.beq]
 ·have F1:((c.pos.length:Int)≤40)=False:=eq_false (by omega)
  rw [decide_eq_false h]
  rw [cal_code env19 rfl];simp only [fn19,slAll,Nat.reduceBEq,Nat.reduceLeDiff,Nat.reduceAdd,List.length_cons,List.length_nil]
  simp only [e1,F1,List.length_map,slAll,slsAll,Nat.reduceMul,Nat.reduceBEq,Nat.reduceLT,Nat.reduceLeDiff,memAll,vAll,reduceCtorEq,Nat.reduceEqDiff,Nat.reduceAdd,Nat.reduceLT,Nat.reduceLeDiff,Nat.beq]
end Go.Proofs.YtioijcfcehhmdaaGreatDoor.V

namespace Go.Proofs.YtioijcfcehhmdaaGreatDoor.V
def cF:Nat→List Cye→Bool
 |_,[]=>true
 |i,c :: l=>decide (i≤20)&&(few23 c&&cF (i+1) l)
theorem cF_step {l:List Cye} {i:Nat} (h:i<l.length):cF i (l.drop i)=(decide (i≤20)&&(few23 l[i]&&cF (i+1) (l.drop (i+1)))):=by
 rw [List.drop_eq_getElem_cons h,cF]
theorem cF_len:∀ {l:List Cye} {i:Nat},i≤21→cF i l=true→i+l.length≤21∧∀ c∈l,few23 c=true
 |[],i,hi,_=>⟨by simpa using hi,fun c h=>by cases h⟩
 |c :: l,i,hi,h=>by
  simp only [cF,Bool.and_eq_true,decide_eq_true_eq] at h
  obtain ⟨h1,h2,h3⟩:=h
  obtain ⟨g1,g2⟩:=cF_len (l:=l) (by omega) h3
  refine ⟨by simp only [List.length_cons];omega,fun x hx=>?_⟩
  rcases List.mem_cons.1 hx with rfl|hx
  ·exact h2
  ·exact g2 x hx
theorem cF_ok {l:List Cye} (h:cF 0 l=true):okC l:=by
 obtain ⟨h1,h2⟩:=cF_len (Nat.zero_le _) h
 refine ⟨by omega,fun c hc=>?_⟩
 have:=h2 c hc
 simp only [few23,Bool.and_eq_true,decide_eq_true_eq] at this
 obtain ⟨k1,k2⟩:=few22_len this.2
 exact ⟨by omega,fun w hw=>by have:=k2 w hw;omega⟩
def resC (n:Nat) (l:List Cye) (b:Bool):Option (Ex × St):=if b then some (.normal,⟨sl n [(0,.pv (.list 5 (l.map eCye))),(2,.any)],[],[],none⟩) else some (.ret,⟨sl n [(0,.pv (.list 5 (l.map eCye))),(2,.pv (.bool true))],[],[],none⟩)
theorem loop5 {l:List Cye} {st:St} (h:st.head [0,5,6,7] st.boxes.length=some ⟨sl 29 [(0,.pv (.list 5 (l.map eCye))),(5,.pv (.list 5 (l.map eCye))),(6,.pv (.int .i64 l.length)),(7,.pv (.int .i64 (0:Nat)))],[],[],none⟩) :
  den env fn5_l1 st=resC 29 l (cF ((0:Nat)) (l.drop ((0:Nat)))):=by
 unfold fn5_l1
 refine clean_up (env:=env) (nb:=0) (l.length) (fun i=>⟨sl 29 [(0,.pv (.list 5 (l.map eCye))),(5,.pv (.list 5 (l.map eCye))),(6,.pv (.int .i64 l.length)),(7,.pv (.int .i64 i))],[],[],none⟩) (fun i=>resC 29 l (cF (i) (l.drop (i)))) h (fun _=>rfl) (fun _=>by simp only [slAll,slsAll,Nat.reduceMul,Nat.reduceBEq,Nat.reduceLT,Nat.reduceLeDiff,Nat.reduceAdd,decide_true,Bool.and_self,Bool.true_and]) ?_ ?_
 ·intro i rb hi ih
  have F1:((i:Int)<(l.length:Int))=True:=eq_true (by omega)
  have hx:=eCye_at hi
  have aw:=calAwake
  have P5:∀ a b c d e:PV,part [a,b,c,d,e] 0 (some 5)=some (.agg [a,b,c,d,e]):=fun _ _ _ _ _=>rfl
  have e1:=cal19 (c:=l[i])
  rw [eCye_eq] at e1
  rw [cF_step hi]
  by_cases c1:i≤20
  ·have hi1:=i64_next (show i<21 by omega) (by unfold lim;omega)
   have F2:((i:Int) > 20)=False:=eq_false (by omega)
   rw [decide_eq_true c1,Bool.true_and]
   cases h:few23 l[i] with
   |false =>
    rw [h] at e1
    rw [Bool.false_and]
    unfold resC
    rw [if_neg (by decide)]
    simp only [fn5_b0,F1,F2,hx,P5,e1,aw,index_nat hi,List.length_map,slAll,slsAll,Nat.reduceMul,Nat.reduceBEq,Nat.reduceLT,Nat.reduceLeDiff,memAll,vAll,reduceCtorEq,Nat.reduceEqDiff,Nat.reduceAdd,Nat.reduceLT,Nat.reduceLeDiff,Nat.beq]
   |true =>
    rw [h] at e1
    rw [Bool.true_and]
    simp only [fn5_b0,F1,F2,hx,P5,e1,aw,index_nat hi,List.length_map,slAll,slsAll,Nat.reduceMul,Nat.reduceBEq,Nat.reduceLT,Nat.reduceLeDiff,memAll,vAll,reduceCtorEq,Nat.reduceEqDiff,Nat.reduceAdd,Nat.reduceLT,Nat.reduceLeDiff,Nat.beq]
    rw [ih _ (by simp only [hi1,slAll,slsAll,Nat.reduceMul,Nat.reduceBEq,Nat.reduceLT,Nat.reduceLeDiff,memAll,vAll,reduceCtorEq,Nat.reduceEqDiff,Nat.reduceAdd,Nat.reduceLT,Nat.reduceLeDiff,Nat.beq]<;>rfl)]
  ·have F2:((i:Int) > 20)=True:=eq_true (by omega)
   rw [decide_eq_false c1,Bool.false_and]
   unfold resC
   rw [if_neg (by decide)]
   simp only [fn5_b0,F1,F2,hx,P5,e1,aw,index_nat hi,List.length_map,slAll,slsAll,Nat.reduceMul,Nat.reduceBEq,Nat.reduceLT,Nat.reduceLeDiff,memAll,vAll,reduceCtorEq,Nat.reduceEqDiff,Nat.reduceAdd,Nat.reduceLT,Nat.reduceLeDiff,Nat.beq]
 ·intro rb
  rw [List.drop_length]
  unfold resC cF
  rw [if_pos rfl]
  simp only [fn5_b0,Int.lt_irrefl,List.length_map,slAll,slsAll,Nat.reduceMul,Nat.reduceBEq,Nat.reduceLT,Nat.reduceLeDiff,memAll,vAll,reduceCtorEq,Nat.reduceEqDiff,Nat.reduceAdd,Nat.reduceLT,Nat.reduceLeDiff,Nat.beq]
theorem cal5 {l:List Cye}:cal env 5 [.list 5 (l.map eCye)]=some [(.bool true,false)]:=by
 rw [cal_code env5 rfl];simp only [fn5,slAll,Nat.reduceBEq,Nat.reduceLeDiff,Nat.reduceAdd,List.length_cons,List.length_nil]
 simp only [List.length_map,slAll,slsAll,Nat.reduceMul,Nat.reduceBEq,Nat.reduceLT,Nat.reduceLeDiff,memAll,vAll,reduceCtorEq,Nat.reduceEqDiff,Nat.reduceAdd,Nat.reduceLT,Nat.reduceLeDiff,Nat.beq]
 rw [loop5 (l:=l)]
 rotate_left
 ·simp only [slAll,slsAll,Nat.reduceMul,Nat.reduceBEq,Nat.reduceLT,Nat.reduceLeDiff,Nat.reduceAdd,decide_true,Bool.and_self,Bool.true_and]<;>rfl
 ·simp only [List.drop_zero]
  unfold resC
  cases h:cF 0 l with
  |false=>rw [if_neg (by decide)];simp only [slAll,slsAll,Nat.reduceMul,Nat.reduceBEq,Nat.reduceLT,Nat.reduceLeDiff,memAll,vAll,reduceCtorEq,Nat.reduceEqDiff,Nat.reduceAdd,Nat.reduceLT,Nat.reduceLeDiff,Nat.beq]
  |true =>
   have aw:=calAwake
   have e1:=cal20 (cF_ok h)
   have e2:=cal21 (cF_ok h)
   have N:∀ n:Int,(n==n)=true:=fun n=>by simp
   rw [if_pos rfl]
   simp only [aw,e1,e2,N,slAll,slsAll,Nat.reduceMul,Nat.reduceBEq,Nat.reduceLT,Nat.reduceLeDiff,memAll,vAll,reduceCtorEq,Nat.reduceEqDiff,Nat.reduceAdd,Nat.reduceLT,Nat.reduceLeDiff,Nat.beq]
end Go.Proofs.YtioijcfcehhmdaaGreatDoor.V

namespace Go.Proofs.YtioijcfcehhmdaaGreatDoor
open Go.RowKit
theorem laidTabEq:(Rows.laid_math_bits_deBruijn64tab:DataW Unit)=Lib.tabData .u8 (Lib.deBruijn64tab.map Int.ofNat):=by kernel_rfl
theorem tabG:Tryz.prog.globalNamed "math/bits.deBruijn64tab"=some 0:=by kernel_rfl
theorem globIn_of_laid {w:World} {l:List (String × DataW Unit)} (hl:l=[("math/bits.deBruijn64tab",Rows.laid_math_bits_deBruijn64tab)]) (h:laidMetH Tryz.prog l w):GlobIn w:=by
 subst hl
 rw [MakeChecks.laidMetH_plain _ _ _ (by kernel_rfl),laidTabEq] at h
 have ht:Lib.TabIs Tryz.prog w "math/bits.deBruijn64tab" .u8 (Lib.deBruijn64tab.map Int.ofNat) :=
  Lib.tabIs_of_head (t:=204) (e:=5) (n:=64) tabG (by kernel_rfl) (by kernel_rfl) (by kernel_rfl) (by kernel_rfl) (by kernel_rfl) h
 have hc:∀ i,i<64→w.cell? ⟨0,i,none⟩=some (.int .u8 ((Lib.deBruijn64tab.map Int.ofNat).getD i 0)):=fun i hi=>ht.cell tabG i (by simpa [Lib.deBruijn64tab] using hi)
 have hC:Cellish w 0:=cellish_of (hc 0 (by decide))
 intro p hp
 obtain rfl:p=_:=List.mem_singleton.1 hp
 refine .iptr _ 0 _ 0 (fun i=>.int .u8 ((Lib.deBruijn64tab.map Int.ofNat).getD i 0)) (if_pos hC.lt) hC (fun k x hk=>?_) (fun k x hk=>?_)
 ·have hk':=(List.getElem?_eq_some_iff.1 hk).1
  rw [Nat.zero_add]
  exact ⟨hc k (by simpa [Lib.deBruijn64tab] using hk'),rfl⟩
 ·simp only [List.getElem?_map] at hk
  cases e:Lib.deBruijn64tab[k]? with
  |none=>rw [e] at hk;cases hk
  |some n =>
   rw [e] at hk;cases hk
   have:(Lib.deBruijn64tab.map Int.ofNat).getD k 0=(n:Int):=by simp [List.getD_eq_getElem?_getD,e]
   rw [this]
   exact .int _ _
end Go.Proofs.YtioijcfcehhmdaaGreatDoor

namespace Go.Proofs.YtioijcfcehhmdaaGreatDoor.V
open Go.RowKit Go.ChangeShapes Go.WideShapes Go.ChangeAt
theorem Tryz.ownKnobV:ownKnob Tryz.prog.godebug=none:=by kernel_rfl
theorem Tryz.laidOutV:laidOutB Tryz.prog=true:=by kernel_rfl
theorem sint_u8 {q:PV} (h:SInt .u8 [q]):∃ b:UInt8,q=.int .u8 (b.toNat:Int):=by
 obtain ⟨n,h1,h2⟩:=h
 have h3:IntKind.u8.min=0:=rfl
 have h4:IntKind.u8.max=255:=rfl
 simp only [Lit.wf,Bool.and_eq_true,decide_eq_true_eq] at h1
 cases h2
 refine ⟨UInt8.ofNat n.toNat,?_⟩
 rw [UInt8.toNat_ofNat_of_lt' (show n.toNat<2 ^ 8 by omega)]
 congr 1;omega
def SSec:List PV→Prop:=SArr 8 (SInt .u8)
theorem ssec {ps:List PV} (h:SSec ps):∃ s:Sec,ps=secPV s:=by
 obtain ⟨h1,h2⟩:=h
 have:∀ l:List PV,(∀ p∈l,SInt .u8 [p])→∃ m:List UInt8,m.length=l.length∧l=m.map fun b=>.int .u8 (b.toNat:Int):=by
  intro l
  induction l with
  |nil=>exact fun _=>⟨[],rfl,rfl⟩
  |cons p l ih =>
   intro h
   obtain ⟨b,hb⟩:=sint_u8 (h p (by simp))
   obtain ⟨m,e1,e2⟩:=ih fun q hq=>h q (by simp [hq])
   exact ⟨b :: m,by simp [e1],by rw [hb,e2];rfl⟩
 obtain ⟨m,e1,e2⟩:=this ps h2
 refine ⟨⟨m.toArray,by simp [e1,h1]⟩,?_⟩
 subst e2
 simp [secPV,Vector.toList]
theorem slist {α:Type} {n:Nat} {S:List PV→Prop} {wr:List PV→PV} {enc:α→PV} {ok:α→Prop} (hS:∀ ps,S ps→∃ a,ok a∧wr ps=enc a) {q:PV} (h:SList n S wr [q]):∃ l:List α,(∀ a∈l,ok a)∧q=.list n (l.map enc):=by
 obtain ⟨es,h1,h2⟩:=h
 cases h1
 have:∀ es:List PV,(∀ x∈es,∃ q,S q∧x=wr q)→∃ l:List α,(∀ a∈l,ok a)∧es=l.map enc:=by
  intro es
  induction es with
  |nil=>exact fun _=>⟨[],by simp,rfl⟩
  |cons e es ih =>
   intro h
   obtain ⟨q,h3,h4⟩:=h e (by simp)
   obtain ⟨a,h5,h6⟩:=hS q h3
   obtain ⟨l,h7,h8⟩:=ih fun x hx=>h x (by simp [hx])
   exact ⟨a :: l,by simp;exact ⟨h5,h7⟩,by rw [h4,h6,h8];rfl⟩
 obtain ⟨l,h3,h4⟩:=this es h2
 exact ⟨l,h3,by rw [h4]⟩
def SSecs:List PV→Prop:=SList 8 SSec .agg
theorem ssecs {q:PV} (h:SSecs [q]):∃ l:List Sec,q=eSecs l:=by
 obtain ⟨l,_,e⟩:=slist (enc:=eSec) (ok:=fun _=>True) (fun ps h=>by obtain ⟨s,rfl⟩:=ssec h;exact ⟨s,trivial,rfl⟩) h
 exact ⟨l,e⟩
theorem Tryz.rdInt:RdsC Tryz.prog 3 1 (SInt .i64):=RdsC.int Tryz.underlying3 (by kernel_rfl)
theorem Tryz.rdU8:RdsC Tryz.prog 5 1 (SInt .u8):=RdsC.int Tryz.underlying5 (by kernel_rfl)
theorem Tryz.rdSec:RdsC Tryz.prog 68 8 SSec:=RdsC.arr Tryz.underlying68 Tryz.rdU8 (by kernel_rfl)
theorem Tryz.rdSecs:RdsC Tryz.prog 66 1 SSecs:=RdsC.list Tryz.underlying66 (by kernel_rfl) Tryz.rdSec (by decide) (fun _ _ _=>rfl)
end Go.Proofs.YtioijcfcehhmdaaGreatDoor.V

namespace Go.Proofs.YtioijcfcehhmdaaGreatDoor
open V
open Go.RowKit Go.ChangeShapes Go.WideShapes Go.ChangeAt
def SWr8:List PV→Prop:=SCat [SInt .i64,SInt .i64,SSecs]
theorem swr8 {ps:List PV} (h:SWr8 ps):∃ x:Wrt,PV.agg ps=eWr x:=by
 obtain ⟨p,q,rfl,⟨n,h1,rfl⟩,p2,q2,rfl,⟨m,h2,rfl⟩,p3,q3,rfl,h3,rfl⟩:=h
 obtain ⟨es,rfl,h4⟩:=h3
 obtain ⟨l,e3⟩:=ssecs (q:=.list 8 es) ⟨es,rfl,h4⟩
 refine ⟨⟨n,m,l⟩,?_⟩
 rw [e3];rfl
def SWrs8:List PV→Prop:=SList 3 SWr8 .agg
theorem swrs8 {q:PV} (h:SWrs8 [q]):∃ l:List Wrt,q=.list 3 (l.map eWr):=by
 obtain ⟨l,_,e⟩:=slist (enc:=eWr) (ok:=fun _=>True) (fun ps h=>by
  obtain ⟨x,e⟩:=swr8 h
  exact ⟨x,trivial,e⟩) h
 exact ⟨l,e⟩
def SInts8:List PV→Prop:=SList 1 (SInt .i64) wrS
theorem sints8 {q:PV} (h:SInts8 [q]):∃ l:List Int,q=.list 1 (l.map eI):=by
 obtain ⟨l,_,e⟩:=slist (enc:=eI) (ok:=fun _=>True) (fun ps h=>by
  obtain ⟨n,h1,rfl⟩:=h
  exact ⟨n,trivial,rfl⟩) h
 exact ⟨l,e⟩
def SCy:List PV→Prop:=SCat [SInt .i64,SInt .i64,SInt .i64,SInts8,SWrs8]
theorem scy {ps:List PV} (h:SCy ps):∃ c:Cye,PV.agg ps=eCye c:=by
 obtain ⟨p,q,rfl,⟨n,h1,rfl⟩,p2,q2,rfl,⟨n2,h2,rfl⟩,p3,q3,rfl,⟨n3,h3,rfl⟩,p4,q4,rfl,h4,p5,q5,rfl,h5,rfl⟩:=h
 obtain ⟨es4,rfl,g4⟩:=h4
 obtain ⟨es5,rfl,g5⟩:=h5
 obtain ⟨l,e4⟩:=sints8 (q:=.list 1 es4) ⟨es4,rfl,g4⟩
 obtain ⟨w,e5⟩:=swrs8 (q:=.list 3 es5) ⟨es5,rfl,g5⟩
 refine ⟨⟨n,n2,n3,l,w⟩,?_⟩
 rw [e4,e5];rfl
def SCys:List PV→Prop:=SList 5 SCy .agg
theorem scys {q:PV} (h:SCys [q]):∃ l:List Cye,q=.list 5 (l.map eCye):=by
 obtain ⟨l,_,e⟩:=slist (enc:=eCye) (ok:=fun _=>True) (fun ps h=>by
  obtain ⟨x,e⟩:=scy h
  exact ⟨x,trivial,e⟩) h
 exact ⟨l,e⟩
theorem Tryz.rdWr8:RdsC Tryz.prog 81 3 SWr8:=RdsC.struct3 Tryz.underlying81 Tryz.rdInt Tryz.rdInt Tryz.rdSecs rfl rfl rfl (by kernel_rfl)
theorem Tryz.rdWrs8:RdsC Tryz.prog 34 1 SWrs8:=RdsC.list Tryz.underlying34 (by kernel_rfl) Tryz.rdWr8 (by decide) (fun _ _ _=>rfl)
theorem Tryz.rdInts8:RdsC Tryz.prog 33 1 SInts8:=RdsC.list Tryz.underlying33 (by kernel_rfl) Tryz.rdInt (by decide) (fun _ h _=>by obtain ⟨n,_,rfl⟩:=h;rfl)
theorem Tryz.rdCy:RdsC Tryz.prog 36 5 SCy:=RdsC.struct5 Tryz.underlying36 Tryz.rdInt Tryz.rdInt Tryz.rdInt Tryz.rdInts8 Tryz.rdWrs8 rfl rfl rfl rfl rfl (by kernel_rfl)
theorem Tryz.rdCys:RdsC Tryz.prog 53 1 SCys:=RdsC.list Tryz.underlying53 (by kernel_rfl) Tryz.rdCy (by decide) (fun _ _ _=>rfl)
end Go.Proofs.YtioijcfcehhmdaaGreatDoor
