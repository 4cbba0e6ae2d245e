/-
  Part 8 of the texts that the statement stands on.
-/
import Derived.Test.YtioijcfcehhmdaaGreatDoorZ7
set_option linter.all false
namespace Go.Proofs.YtioijcfcehhmdaaGreatDoor.V
theorem aw0:cal env 43 [(.int .i64 0),(.int .u8 1)]=some [((.agg [(.int .i64 0),(.int .i64 0),(.list 8 [(.agg [(.int .u8 1),(.int .u8 0),(.int .u8 0),(.int .u8 0),(.int .u8 0),(.int .u8 0),(.int .u8 0),(.int .u8 0)])])]),false)]:=cal_of_vmCall (n:=400) (by kernel_rfl)
theorem aw1:cal env 39 [(.list 1 [(.int .i64 3)]),(.list 3 [(.agg [(.int .i64 0),(.int .i64 0),(.list 8 [(.agg [(.int .u8 1),(.int .u8 0),(.int .u8 0),(.int .u8 0),(.int .u8 0),(.int .u8 0),(.int .u8 0),(.int .u8 0)])])])])]=some [((.list 2 [(.agg [(.int .i64 3),(.list 1 [(.int .u64 1)])])]),true),((.bool true),false)]:=cal_of_vmCall (n:=400) (by kernel_rfl)
theorem aw2:cal env 43 [(.int .i64 2),(.int .u8 2)]=some [((.agg [(.int .i64 0),(.int .i64 2),(.list 8 [(.agg [(.int .u8 2),(.int .u8 0),(.int .u8 0),(.int .u8 0),(.int .u8 0),(.int .u8 0),(.int .u8 0),(.int .u8 0)])])]),false)]:=cal_of_vmCall (n:=400) (by kernel_rfl)
theorem aw3:cal env 39 [(.list 1 [(.int .i64 3)]),(.list 3 [(.agg [(.int .i64 0),(.int .i64 2),(.list 8 [(.agg [(.int .u8 2),(.int .u8 0),(.int .u8 0),(.int .u8 0),(.int .u8 0),(.int .u8 0),(.int .u8 0),(.int .u8 0)])])])])]=some [((.list 2 [(.agg [(.int .i64 3),(.list 1 [(.int .u64 4)])])]),true),((.bool true),false)]:=cal_of_vmCall (n:=400) (by kernel_rfl)
theorem aw4:cal env 39 [(.list 1 [(.int .i64 3)]),(.list 3 [(.agg [(.int .i64 0),(.int .i64 0),(.list 8 [(.agg [(.int .u8 1),(.int .u8 0),(.int .u8 0),(.int .u8 0),(.int .u8 0),(.int .u8 0),(.int .u8 0),(.int .u8 0)])])]),(.agg [(.int .i64 0),(.int .i64 2),(.list 8 [(.agg [(.int .u8 2),(.int .u8 0),(.int .u8 0),(.int .u8 0),(.int .u8 0),(.int .u8 0),(.int .u8 0),(.int .u8 0)])])])])]=some [((.list 2 [(.agg [(.int .i64 3),(.list 1 [(.int .u64 5)])])]),true),((.bool true),false)]:=cal_of_vmCall (n:=400) (by kernel_rfl)
theorem aw5:cal env 43 [(.int .i64 1),(.int .u8 3)]=some [((.agg [(.int .i64 0),(.int .i64 1),(.list 8 [(.agg [(.int .u8 3),(.int .u8 0),(.int .u8 0),(.int .u8 0),(.int .u8 0),(.int .u8 0),(.int .u8 0),(.int .u8 0)])])]),false)]:=cal_of_vmCall (n:=400) (by kernel_rfl)
theorem aw6:cal env 39 [(.list 1 [(.int .i64 3)]),(.list 3 [(.agg [(.int .i64 0),(.int .i64 1),(.list 8 [(.agg [(.int .u8 3),(.int .u8 0),(.int .u8 0),(.int .u8 0),(.int .u8 0),(.int .u8 0),(.int .u8 0),(.int .u8 0)])])])])]=some [((.list 2 [(.agg [(.int .i64 3),(.list 1 [(.int .u64 2)])])]),true),((.bool true),false)]:=cal_of_vmCall (n:=400) (by kernel_rfl)
theorem aw7:cal env 44 [(.list 1 [(.list 8 [(.agg [(.int .u8 1),(.int .u8 0),(.int .u8 0),(.int .u8 0),(.int .u8 0),(.int .u8 0),(.int .u8 0),(.int .u8 0)]),(.agg [(.int .u8 0),(.int .u8 0),(.int .u8 0),(.int .u8 0),(.int .u8 0),(.int .u8 0),(.int .u8 0),(.int .u8 0)]),(.agg [(.int .u8 0),(.int .u8 0),(.int .u8 0),(.int .u8 0),(.int .u8 0),(.int .u8 0),(.int .u8 0),(.int .u8 0)])])]),(.list 2 [(.agg [(.int .i64 3),(.list 1 [(.int .u64 1)])])])]=some [((.agg [(.int .i64 0),(.list 3 [(.agg [(.int .i64 1),(.int .i64 1),(.int .i64 7)])]),(.list 2 [(.agg [(.int .i64 3),(.list 1 [(.int .u64 1)])])]),(.list 1 [(.list 8 [(.agg [(.int .u8 1),(.int .u8 0),(.int .u8 0),(.int .u8 0),(.int .u8 0),(.int .u8 0),(.int .u8 0),(.int .u8 0)]),(.agg [(.int .u8 0),(.int .u8 0),(.int .u8 0),(.int .u8 0),(.int .u8 0),(.int .u8 0),(.int .u8 0),(.int .u8 0)]),(.agg [(.int .u8 0),(.int .u8 0),(.int .u8 0),(.int .u8 0),(.int .u8 0),(.int .u8 0),(.int .u8 0),(.int .u8 0)])])])]),false)]:=cal_of_vmCall (n:=400) (by kernel_rfl)
theorem aw8:cal env 45 [(.list 1 [(.list 8 [(.agg [(.int .u8 0),(.int .u8 0),(.int .u8 0),(.int .u8 0),(.int .u8 0),(.int .u8 0),(.int .u8 0),(.int .u8 0)]),(.agg [(.int .u8 0),(.int .u8 0),(.int .u8 0),(.int .u8 0),(.int .u8 0),(.int .u8 0),(.int .u8 0),(.int .u8 0)]),(.agg [(.int .u8 2),(.int .u8 0),(.int .u8 0),(.int .u8 0),(.int .u8 0),(.int .u8 0),(.int .u8 0),(.int .u8 0)])])]),(.list 2 [(.agg [(.int .i64 3),(.list 1 [(.int .u64 4)])])])]=some [((.agg [(.int .i64 1),(.list 3 [(.agg [(.int .i64 1),(.int .i64 1),(.int .i64 5)]),(.agg [(.int .i64 2),(.int .i64 6),(.int .i64 9)])]),(.list 2 [(.agg [(.int .i64 3),(.list 1 [(.int .u64 4)])])]),(.list 1 [(.list 8 [(.agg [(.int .u8 0),(.int .u8 0),(.int .u8 0),(.int .u8 0),(.int .u8 0),(.int .u8 0),(.int .u8 0),(.int .u8 0)]),(.agg [(.int .u8 0),(.int .u8 0),(.int .u8 0),(.int .u8 0),(.int .u8 0),(.int .u8 0),(.int .u8 0),(.int .u8 0)]),(.agg [(.int .u8 2),(.int .u8 0),(.int .u8 0),(.int .u8 0),(.int .u8 0),(.int .u8 0),(.int .u8 0),(.int .u8 0)])])])]),false)]:=cal_of_vmCall (n:=400) (by kernel_rfl)
theorem aw9:cal env 24 [(.agg [(.int .i64 0),(.list 3 [(.agg [(.int .i64 1),(.int .i64 1),(.int .i64 7)])]),(.list 2 [(.agg [(.int .i64 3),(.list 1 [(.int .u64 1)])])]),(.list 1 [(.list 8 [(.agg [(.int .u8 1),(.int .u8 0),(.int .u8 0),(.int .u8 0),(.int .u8 0),(.int .u8 0),(.int .u8 0),(.int .u8 0)]),(.agg [(.int .u8 0),(.int .u8 0),(.int .u8 0),(.int .u8 0),(.int .u8 0),(.int .u8 0),(.int .u8 0),(.int .u8 0)]),(.agg [(.int .u8 0),(.int .u8 0),(.int .u8 0),(.int .u8 0),(.int .u8 0),(.int .u8 0),(.int .u8 0),(.int .u8 0)])])])]),(.agg [(.int .i64 1),(.list 3 [(.agg [(.int .i64 1),(.int .i64 1),(.int .i64 5)]),(.agg [(.int .i64 2),(.int .i64 6),(.int .i64 9)])]),(.list 2 [(.agg [(.int .i64 3),(.list 1 [(.int .u64 4)])])]),(.list 1 [(.list 8 [(.agg [(.int .u8 0),(.int .u8 0),(.int .u8 0),(.int .u8 0),(.int .u8 0),(.int .u8 0),(.int .u8 0),(.int .u8 0)]),(.agg [(.int .u8 0),(.int .u8 0),(.int .u8 0),(.int .u8 0),(.int .u8 0),(.int .u8 0),(.int .u8 0),(.int .u8 0)]),(.agg [(.int .u8 2),(.int .u8 0),(.int .u8 0),(.int .u8 0),(.int .u8 0),(.int .u8 0),(.int .u8 0),(.int .u8 0)])])])]),(.int .i64 3)]=some [((.agg [(.int .i64 3),(.int .i64 1),(.int .i64 0),(.int .i64 0),(.int .i64 3),(.int .i64 5),(.bool false),(.bool false)]),false),((.list 1 [(.list 2 [(.agg [(.int .i64 0),(.int .i64 1)]),(.agg [(.int .i64 2),(.int .i64 1)])])]),false),((.int .i64 0),false)]:=cal_of_vmCall (n:=400) (by kernel_rfl)
theorem aw10:cal env 27 [(.list 1 [(.list 2 [(.agg [(.int .i64 0),(.int .i64 1)]),(.agg [(.int .i64 2),(.int .i64 1)])])]),(.list 1 [(.list 2 [(.agg [(.int .i64 0),(.int .i64 1)]),(.agg [(.int .i64 2),(.int .i64 1)])])])]=some [((.bool true),false)]:=cal_of_vmCall (n:=400) (by kernel_rfl)
theorem aw11:cal env 45 [(.list 1 [(.list 8 [(.agg [(.int .u8 0),(.int .u8 0),(.int .u8 0),(.int .u8 0),(.int .u8 0),(.int .u8 0),(.int .u8 0),(.int .u8 0)]),(.agg [(.int .u8 0),(.int .u8 0),(.int .u8 0),(.int .u8 0),(.int .u8 0),(.int .u8 0),(.int .u8 0),(.int .u8 0)]),(.agg [(.int .u8 2),(.int .u8 0),(.int .u8 0),(.int .u8 0),(.int .u8 0),(.int .u8 0),(.int .u8 0),(.int .u8 0)])])]),(.list 2 [(.agg [(.int .i64 3),(.list 1 [(.int .u64 5)])])])]=some [((.agg [(.int .i64 1),(.list 3 [(.agg [(.int .i64 1),(.int .i64 1),(.int .i64 5)]),(.agg [(.int .i64 2),(.int .i64 6),(.int .i64 9)])]),(.list 2 [(.agg [(.int .i64 3),(.list 1 [(.int .u64 5)])])]),(.list 1 [(.list 8 [(.agg [(.int .u8 0),(.int .u8 0),(.int .u8 0),(.int .u8 0),(.int .u8 0),(.int .u8 0),(.int .u8 0),(.int .u8 0)]),(.agg [(.int .u8 0),(.int .u8 0),(.int .u8 0),(.int .u8 0),(.int .u8 0),(.int .u8 0),(.int .u8 0),(.int .u8 0)]),(.agg [(.int .u8 2),(.int .u8 0),(.int .u8 0),(.int .u8 0),(.int .u8 0),(.int .u8 0),(.int .u8 0),(.int .u8 0)])])])]),false)]:=cal_of_vmCall (n:=400) (by kernel_rfl)
theorem aw12:cal env 12 [(.agg [(.int .i64 3),(.int .i64 1),(.int .i64 0),(.int .i64 0),(.int .i64 3),(.int .i64 5),(.bool false),(.bool false)]),(.agg [(.int .i64 1),(.list 3 [(.agg [(.int .i64 1),(.int .i64 1),(.int .i64 5)]),(.agg [(.int .i64 2),(.int .i64 6),(.int .i64 9)])]),(.list 2 [(.agg [(.int .i64 3),(.list 1 [(.int .u64 5)])])]),(.list 1 [(.list 8 [(.agg [(.int .u8 0),(.int .u8 0),(.int .u8 0),(.int .u8 0),(.int .u8 0),(.int .u8 0),(.int .u8 0),(.int .u8 0)]),(.agg [(.int .u8 0),(.int .u8 0),(.int .u8 0),(.int .u8 0),(.int .u8 0),(.int .u8 0),(.int .u8 0),(.int .u8 0)]),(.agg [(.int .u8 2),(.int .u8 0),(.int .u8 0),(.int .u8 0),(.int .u8 0),(.int .u8 0),(.int .u8 0),(.int .u8 0)])])])]),(.int .i64 10),(.int .i64 0)]=some [((.agg [(.int .i64 3),(.int .i64 1),(.int .i64 0),(.int .i64 1),(.int .i64 3),(.int .i64 10),(.bool false),(.bool false)]),false),((.agg [(.int .i64 5),(.int .i64 10),(.int .i64 0),(.list 1 []),(.list 3 [(.agg [(.int .i64 0),(.int .i64 0),(.list 8 [(.agg [(.int .u8 0),(.int .u8 0),(.int .u8 0),(.int .u8 0),(.int .u8 0),(.int .u8 0),(.int .u8 0),(.int .u8 0)])])]),(.agg [(.int .i64 0),(.int .i64 2),(.list 8 [(.agg [(.int .u8 2),(.int .u8 0),(.int .u8 0),(.int .u8 0),(.int .u8 0),(.int .u8 0),(.int .u8 0),(.int .u8 0)])])])])]),false),((.int .i64 0),false)]:=cal_of_vmCall (n:=400) (by kernel_rfl)
theorem aw13:cal env 36 [(.list 1 [(.list 8 [(.agg [(.int .u8 1),(.int .u8 0),(.int .u8 0),(.int .u8 0),(.int .u8 0),(.int .u8 0),(.int .u8 0),(.int .u8 0)]),(.agg [(.int .u8 0),(.int .u8 0),(.int .u8 0),(.int .u8 0),(.int .u8 0),(.int .u8 0),(.int .u8 0),(.int .u8 0)]),(.agg [(.int .u8 0),(.int .u8 0),(.int .u8 0),(.int .u8 0),(.int .u8 0),(.int .u8 0),(.int .u8 0),(.int .u8 0)])])]),(.agg [(.int .i64 5),(.int .i64 10),(.int .i64 0),(.list 1 []),(.list 3 [(.agg [(.int .i64 0),(.int .i64 0),(.list 8 [(.agg [(.int .u8 0),(.int .u8 0),(.int .u8 0),(.int .u8 0),(.int .u8 0),(.int .u8 0),(.int .u8 0),(.int .u8 0)])])]),(.agg [(.int .i64 0),(.int .i64 2),(.list 8 [(.agg [(.int .u8 2),(.int .u8 0),(.int .u8 0),(.int .u8 0),(.int .u8 0),(.int .u8 0),(.int .u8 0),(.int .u8 0)])])])])])]=some [((.list 1 [(.list 8 [(.agg [(.int .u8 0),(.int .u8 0),(.int .u8 0),(.int .u8 0),(.int .u8 0),(.int .u8 0),(.int .u8 0),(.int .u8 0)]),(.agg [(.int .u8 0),(.int .u8 0),(.int .u8 0),(.int .u8 0),(.int .u8 0),(.int .u8 0),(.int .u8 0),(.int .u8 0)]),(.agg [(.int .u8 2),(.int .u8 0),(.int .u8 0),(.int .u8 0),(.int .u8 0),(.int .u8 0),(.int .u8 0),(.int .u8 0)])])]),false),((.int .i64 0),false)]:=cal_of_vmCall (n:=400) (by kernel_rfl)
theorem aw14:cal env 44 [(.list 1 [(.list 8 [(.agg [(.int .u8 0),(.int .u8 0),(.int .u8 0),(.int .u8 0),(.int .u8 0),(.int .u8 0),(.int .u8 0),(.int .u8 0)]),(.agg [(.int .u8 0),(.int .u8 0),(.int .u8 0),(.int .u8 0),(.int .u8 0),(.int .u8 0),(.int .u8 0),(.int .u8 0)]),(.agg [(.int .u8 2),(.int .u8 0),(.int .u8 0),(.int .u8 0),(.int .u8 0),(.int .u8 0),(.int .u8 0),(.int .u8 0)])])]),(.list 2 [(.agg [(.int .i64 3),(.list 1 [(.int .u64 1)])])])]=some [((.agg [(.int .i64 0),(.list 3 [(.agg [(.int .i64 1),(.int .i64 1),(.int .i64 7)])]),(.list 2 [(.agg [(.int .i64 3),(.list 1 [(.int .u64 1)])])]),(.list 1 [(.list 8 [(.agg [(.int .u8 0),(.int .u8 0),(.int .u8 0),(.int .u8 0),(.int .u8 0),(.int .u8 0),(.int .u8 0),(.int .u8 0)]),(.agg [(.int .u8 0),(.int .u8 0),(.int .u8 0),(.int .u8 0),(.int .u8 0),(.int .u8 0),(.int .u8 0),(.int .u8 0)]),(.agg [(.int .u8 2),(.int .u8 0),(.int .u8 0),(.int .u8 0),(.int .u8 0),(.int .u8 0),(.int .u8 0),(.int .u8 0)])])])]),false)]:=cal_of_vmCall (n:=400) (by kernel_rfl)
theorem aw15:cal env 45 [(.list 1 [(.list 8 [(.agg [(.int .u8 0),(.int .u8 0),(.int .u8 0),(.int .u8 0),(.int .u8 0),(.int .u8 0),(.int .u8 0),(.int .u8 0)]),(.agg [(.int .u8 3),(.int .u8 0),(.int .u8 0),(.int .u8 0),(.int .u8 0),(.int .u8 0),(.int .u8 0),(.int .u8 0)]),(.agg [(.int .u8 2),(.int .u8 0),(.int .u8 0),(.int .u8 0),(.int .u8 0),(.int .u8 0),(.int .u8 0),(.int .u8 0)])])]),(.list 2 [(.agg [(.int .i64 3),(.list 1 [(.int .u64 2)])])])]=some [((.agg [(.int .i64 1),(.list 3 [(.agg [(.int .i64 1),(.int .i64 1),(.int .i64 5)]),(.agg [(.int .i64 2),(.int .i64 6),(.int .i64 9)])]),(.list 2 [(.agg [(.int .i64 3),(.list 1 [(.int .u64 2)])])]),(.list 1 [(.list 8 [(.agg [(.int .u8 0),(.int .u8 0),(.int .u8 0),(.int .u8 0),(.int .u8 0),(.int .u8 0),(.int .u8 0),(.int .u8 0)]),(.agg [(.int .u8 3),(.int .u8 0),(.int .u8 0),(.int .u8 0),(.int .u8 0),(.int .u8 0),(.int .u8 0),(.int .u8 0)]),(.agg [(.int .u8 2),(.int .u8 0),(.int .u8 0),(.int .u8 0),(.int .u8 0),(.int .u8 0),(.int .u8 0),(.int .u8 0)])])])]),false)]:=cal_of_vmCall (n:=400) (by kernel_rfl)
theorem aw16:cal env 15 [(.agg [(.int .i64 3),(.int .i64 1),(.int .i64 0),(.int .i64 1),(.int .i64 3),(.int .i64 10),(.bool false),(.bool false)]),(.agg [(.int .i64 0),(.list 3 [(.agg [(.int .i64 1),(.int .i64 1),(.int .i64 7)])]),(.list 2 [(.agg [(.int .i64 3),(.list 1 [(.int .u64 1)])])]),(.list 1 [(.list 8 [(.agg [(.int .u8 0),(.int .u8 0),(.int .u8 0),(.int .u8 0),(.int .u8 0),(.int .u8 0),(.int .u8 0),(.int .u8 0)]),(.agg [(.int .u8 0),(.int .u8 0),(.int .u8 0),(.int .u8 0),(.int .u8 0),(.int .u8 0),(.int .u8 0),(.int .u8 0)]),(.agg [(.int .u8 2),(.int .u8 0),(.int .u8 0),(.int .u8 0),(.int .u8 0),(.int .u8 0),(.int .u8 0),(.int .u8 0)])])])]),(.agg [(.int .i64 1),(.list 3 [(.agg [(.int .i64 1),(.int .i64 1),(.int .i64 5)]),(.agg [(.int .i64 2),(.int .i64 6),(.int .i64 9)])]),(.list 2 [(.agg [(.int .i64 3),(.list 1 [(.int .u64 2)])])]),(.list 1 [(.list 8 [(.agg [(.int .u8 0),(.int .u8 0),(.int .u8 0),(.int .u8 0),(.int .u8 0),(.int .u8 0),(.int .u8 0),(.int .u8 0)]),(.agg [(.int .u8 3),(.int .u8 0),(.int .u8 0),(.int .u8 0),(.int .u8 0),(.int .u8 0),(.int .u8 0),(.int .u8 0)]),(.agg [(.int .u8 2),(.int .u8 0),(.int .u8 0),(.int .u8 0),(.int .u8 0),(.int .u8 0),(.int .u8 0),(.int .u8 0)])])])])]=some [((.agg [(.int .i64 0),(.int .i64 0),(.int .i64 0),(.int .i64 0),(.int .i64 0),(.int .i64 0),(.bool false),(.bool false)]),false),((.int .i64 22),false)]:=cal_of_vmCall (n:=400) (by kernel_rfl)
theorem aw17:cal env 12 [(.agg [(.int .i64 3),(.int .i64 1),(.int .i64 0),(.int .i64 1),(.int .i64 3),(.int .i64 10),(.bool false),(.bool false)]),(.agg [(.int .i64 1),(.list 3 [(.agg [(.int .i64 1),(.int .i64 1),(.int .i64 5)]),(.agg [(.int .i64 2),(.int .i64 6),(.int .i64 9)])]),(.list 2 [(.agg [(.int .i64 3),(.list 1 [(.int .u64 2)])])]),(.list 1 [(.list 8 [(.agg [(.int .u8 0),(.int .u8 0),(.int .u8 0),(.int .u8 0),(.int .u8 0),(.int .u8 0),(.int .u8 0),(.int .u8 0)]),(.agg [(.int .u8 3),(.int .u8 0),(.int .u8 0),(.int .u8 0),(.int .u8 0),(.int .u8 0),(.int .u8 0),(.int .u8 0)]),(.agg [(.int .u8 2),(.int .u8 0),(.int .u8 0),(.int .u8 0),(.int .u8 0),(.int .u8 0),(.int .u8 0),(.int .u8 0)])])])]),(.int .i64 11),(.int .i64 0)]=some [((.agg [(.int .i64 3),(.int .i64 1),(.int .i64 0),(.int .i64 2),(.int .i64 3),(.int .i64 11),(.bool false),(.bool false)]),false),((.agg [(.int .i64 10),(.int .i64 11),(.int .i64 0),(.list 1 []),(.list 3 [(.agg [(.int .i64 0),(.int .i64 1),(.list 8 [(.agg [(.int .u8 3),(.int .u8 0),(.int .u8 0),(.int .u8 0),(.int .u8 0),(.int .u8 0),(.int .u8 0),(.int .u8 0)])])])])]),false),((.int .i64 0),false)]:=cal_of_vmCall (n:=400) (by kernel_rfl)
theorem aw18:cal env 36 [(.list 1 [(.list 8 [(.agg [(.int .u8 0),(.int .u8 0),(.int .u8 0),(.int .u8 0),(.int .u8 0),(.int .u8 0),(.int .u8 0),(.int .u8 0)]),(.agg [(.int .u8 0),(.int .u8 0),(.int .u8 0),(.int .u8 0),(.int .u8 0),(.int .u8 0),(.int .u8 0),(.int .u8 0)]),(.agg [(.int .u8 2),(.int .u8 0),(.int .u8 0),(.int .u8 0),(.int .u8 0),(.int .u8 0),(.int .u8 0),(.int .u8 0)])])]),(.agg [(.int .i64 10),(.int .i64 11),(.int .i64 0),(.list 1 []),(.list 3 [(.agg [(.int .i64 0),(.int .i64 1),(.list 8 [(.agg [(.int .u8 3),(.int .u8 0),(.int .u8 0),(.int .u8 0),(.int .u8 0),(.int .u8 0),(.int .u8 0),(.int .u8 0)])])])])])]=some [((.list 1 [(.list 8 [(.agg [(.int .u8 0),(.int .u8 0),(.int .u8 0),(.int .u8 0),(.int .u8 0),(.int .u8 0),(.int .u8 0),(.int .u8 0)]),(.agg [(.int .u8 3),(.int .u8 0),(.int .u8 0),(.int .u8 0),(.int .u8 0),(.int .u8 0),(.int .u8 0),(.int .u8 0)]),(.agg [(.int .u8 2),(.int .u8 0),(.int .u8 0),(.int .u8 0),(.int .u8 0),(.int .u8 0),(.int .u8 0),(.int .u8 0)])])]),false),((.int .i64 0),false)]:=cal_of_vmCall (n:=400) (by kernel_rfl)
theorem aw19:cal env 44 [(.list 1 [(.list 8 [(.agg [(.int .u8 0),(.int .u8 0),(.int .u8 0),(.int .u8 0),(.int .u8 0),(.int .u8 0),(.int .u8 0),(.int .u8 0)]),(.agg [(.int .u8 3),(.int .u8 0),(.int .u8 0),(.int .u8 0),(.int .u8 0),(.int .u8 0),(.int .u8 0),(.int .u8 0)]),(.agg [(.int .u8 2),(.int .u8 0),(.int .u8 0),(.int .u8 0),(.int .u8 0),(.int .u8 0),(.int .u8 0),(.int .u8 0)])])]),(.list 2 [(.agg [(.int .i64 3),(.list 1 [(.int .u64 1)])])])]=some [((.agg [(.int .i64 0),(.list 3 [(.agg [(.int .i64 1),(.int .i64 1),(.int .i64 7)])]),(.list 2 [(.agg [(.int .i64 3),(.list 1 [(.int .u64 1)])])]),(.list 1 [(.list 8 [(.agg [(.int .u8 0),(.int .u8 0),(.int .u8 0),(.int .u8 0),(.int .u8 0),(.int .u8 0),(.int .u8 0),(.int .u8 0)]),(.agg [(.int .u8 3),(.int .u8 0),(.int .u8 0),(.int .u8 0),(.int .u8 0),(.int .u8 0),(.int .u8 0),(.int .u8 0)]),(.agg [(.int .u8 2),(.int .u8 0),(.int .u8 0),(.int .u8 0),(.int .u8 0),(.int .u8 0),(.int .u8 0),(.int .u8 0)])])])]),false)]:=cal_of_vmCall (n:=400) (by kernel_rfl)
theorem aw20:cal env 15 [(.agg [(.int .i64 3),(.int .i64 1),(.int .i64 0),(.int .i64 2),(.int .i64 3),(.int .i64 11),(.bool false),(.bool false)]),(.agg [(.int .i64 0),(.list 3 [(.agg [(.int .i64 1),(.int .i64 1),(.int .i64 7)])]),(.list 2 [(.agg [(.int .i64 3),(.list 1 [(.int .u64 1)])])]),(.list 1 [(.list 8 [(.agg [(.int .u8 0),(.int .u8 0),(.int .u8 0),(.int .u8 0),(.int .u8 0),(.int .u8 0),(.int .u8 0),(.int .u8 0)]),(.agg [(.int .u8 3),(.int .u8 0),(.int .u8 0),(.int .u8 0),(.int .u8 0),(.int .u8 0),(.int .u8 0),(.int .u8 0)]),(.agg [(.int .u8 2),(.int .u8 0),(.int .u8 0),(.int .u8 0),(.int .u8 0),(.int .u8 0),(.int .u8 0),(.int .u8 0)])])])]),(.agg [(.int .i64 1),(.list 3 [(.agg [(.int .i64 1),(.int .i64 1),(.int .i64 5)]),(.agg [(.int .i64 2),(.int .i64 6),(.int .i64 9)])]),(.list 2 [(.agg [(.int .i64 3),(.list 1 [(.int .u64 2)])])]),(.list 1 [(.list 8 [(.agg [(.int .u8 0),(.int .u8 0),(.int .u8 0),(.int .u8 0),(.int .u8 0),(.int .u8 0),(.int .u8 0),(.int .u8 0)]),(.agg [(.int .u8 3),(.int .u8 0),(.int .u8 0),(.int .u8 0),(.int .u8 0),(.int .u8 0),(.int .u8 0),(.int .u8 0)]),(.agg [(.int .u8 2),(.int .u8 0),(.int .u8 0),(.int .u8 0),(.int .u8 0),(.int .u8 0),(.int .u8 0),(.int .u8 0)])])])])]=some [((.agg [(.int .i64 3),(.int .i64 1),(.int .i64 0),(.int .i64 2),(.int .i64 3),(.int .i64 11),(.bool true),(.bool false)]),false),((.int .i64 0),false)]:=cal_of_vmCall (n:=400) (by kernel_rfl)
theorem aw21:cal env 17 [(.list 1 [(.list 8 [(.agg [(.int .u8 1),(.int .u8 0),(.int .u8 0),(.int .u8 0),(.int .u8 0),(.int .u8 0),(.int .u8 0),(.int .u8 0)]),(.agg [(.int .u8 0),(.int .u8 0),(.int .u8 0),(.int .u8 0),(.int .u8 0),(.int .u8 0),(.int .u8 0),(.int .u8 0)]),(.agg [(.int .u8 0),(.int .u8 0),(.int .u8 0),(.int .u8 0),(.int .u8 0),(.int .u8 0),(.int .u8 0),(.int .u8 0)])])]),(.list 1 [(.list 8 [(.agg [(.int .u8 0),(.int .u8 0),(.int .u8 0),(.int .u8 0),(.int .u8 0),(.int .u8 0),(.int .u8 0),(.int .u8 0)]),(.agg [(.int .u8 0),(.int .u8 0),(.int .u8 0),(.int .u8 0),(.int .u8 0),(.int .u8 0),(.int .u8 0),(.int .u8 0)]),(.agg [(.int .u8 2),(.int .u8 0),(.int .u8 0),(.int .u8 0),(.int .u8 0),(.int .u8 0),(.int .u8 0),(.int .u8 0)])])])]=some [((.int .i64 2),false),((.int .i64 0),false)]:=cal_of_vmCall (n:=400) (by kernel_rfl)
theorem aw22:cal env 37 [(.list 1 [(.list 8 [(.agg [(.int .u8 0),(.int .u8 0),(.int .u8 0),(.int .u8 0),(.int .u8 0),(.int .u8 0),(.int .u8 0),(.int .u8 0)]),(.agg [(.int .u8 3),(.int .u8 0),(.int .u8 0),(.int .u8 0),(.int .u8 0),(.int .u8 0),(.int .u8 0),(.int .u8 0)]),(.agg [(.int .u8 2),(.int .u8 0),(.int .u8 0),(.int .u8 0),(.int .u8 0),(.int .u8 0),(.int .u8 0),(.int .u8 0)])])]),(.list 1 [(.list 8 [(.agg [(.int .u8 0),(.int .u8 0),(.int .u8 0),(.int .u8 0),(.int .u8 0),(.int .u8 0),(.int .u8 0),(.int .u8 0)]),(.agg [(.int .u8 3),(.int .u8 0),(.int .u8 0),(.int .u8 0),(.int .u8 0),(.int .u8 0),(.int .u8 0),(.int .u8 0)]),(.agg [(.int .u8 2),(.int .u8 0),(.int .u8 0),(.int .u8 0),(.int .u8 0),(.int .u8 0),(.int .u8 0),(.int .u8 0)])])])]=some [((.bool true),false)]:=cal_of_vmCall (n:=400) (by kernel_rfl)
theorem aw23:cal env 20 [(.list 5 [(.agg [(.int .i64 5),(.int .i64 10),(.int .i64 0),(.list 1 []),(.list 3 [(.agg [(.int .i64 0),(.int .i64 0),(.list 8 [(.agg [(.int .u8 0),(.int .u8 0),(.int .u8 0),(.int .u8 0),(.int .u8 0),(.int .u8 0),(.int .u8 0),(.int .u8 0)])])]),(.agg [(.int .i64 0),(.int .i64 2),(.list 8 [(.agg [(.int .u8 2),(.int .u8 0),(.int .u8 0),(.int .u8 0),(.int .u8 0),(.int .u8 0),(.int .u8 0),(.int .u8 0)])])])])]),(.agg [(.int .i64 10),(.int .i64 11),(.int .i64 0),(.list 1 []),(.list 3 [(.agg [(.int .i64 0),(.int .i64 1),(.list 8 [(.agg [(.int .u8 3),(.int .u8 0),(.int .u8 0),(.int .u8 0),(.int .u8 0),(.int .u8 0),(.int .u8 0),(.int .u8 0)])])])])])])]=some [((.int .i64 3),false)]:=cal_of_vmCall (n:=400) (by kernel_rfl)
theorem scP (k s1 s2 s3 a l1 l2 l3):(PV.agg [.int k a,.list s1 l1,.list s2 l2,.list s3 l3]).scalar=false:=rfl
theorem scW (k k2 s1 a b l1):(PV.agg [.int k a,.int k2 b,.list s1 l1]).scalar=false:=rfl
theorem scB (k s1 a l1):(PV.agg [.int k a,.list s1 l1]).scalar=false:=rfl
theorem scC (k1 k2 k3 s1 s2 a b c l1 l2):(PV.agg [.int k1 a,.int k2 b,.int k3 c,.list s1 l1,.list s2 l2]).scalar=false:=rfl
theorem scQ (k1 k2 k3 k4 k5 k6 a b c d e f x y):(PV.agg [.int k1 a,.int k2 b,.int k3 c,.int k4 d,.int k5 e,.int k6 f,.bool x,.bool y]).scalar=true:=rfl
theorem w00:IntKind.i64.wrap 0=0:=by decide
set_option maxRecDepth 20000 in
theorem calAwake:cal env 11 []=some [(.bool true,false)]:=by
 rw [cal_code env11 rfl];simp only [fn11,slAll,Nat.reduceBEq,Nat.reduceLeDiff,Nat.reduceAdd,List.length_cons,List.length_nil]
 simp only [aw0,aw1,aw2,aw3,aw4,aw5,aw6,aw7,aw8,aw9,aw10,aw11,aw12,aw13,aw14,aw15,aw16,aw17,aw18,aw19,aw20,aw21,aw22,aw23,scP,scW,scB,scC,scQ,w00,Int.add_zero,slAll,slsAll,Nat.reduceMul,Nat.reduceBEq,Nat.reduceLT,Nat.reduceLeDiff,memAll,vAll,reduceCtorEq,Nat.reduceEqDiff,Nat.reduceAdd,Nat.reduceLT,Nat.reduceLeDiff,Nat.beq]
end Go.Proofs.YtioijcfcehhmdaaGreatDoor.V

namespace Go.Proofs.YtioijcfcehhmdaaGreatDoor.V
structure Spn where
 epoch:Int
 fr:Int
 to:Int
 deriving DecidableEq
def eSpn (x:Spn):PV:=.agg [.int .i64 x.epoch,.int .i64 x.fr,.int .i64 x.to]
def bSpn (x:Spn):List BV:=[.pv (.int .i64 x.epoch),.pv (.int .i64 x.fr),.pv (.int .i64 x.to)]
def okNext (p x:Spn):Bool:=decide (x.fr=p.to+1)&&(decide (x.fr≤x.to)&&(decide (x.to≤1073741824)&&(decide (x.epoch≤1073741824)&&decide (p.epoch<x.epoch))))
def z0:Spn:=⟨0,0,0⟩
def linGo:Spn→List Spn→Bool
 |_,[]=>true
 |p,x :: l=>okNext p x&&linGo x l
def linOk (l:List Spn):Bool:=linGo z0 l
def lastOf (l:List Spn) (j:Nat):Spn:=if j=0 then z0 else l.getD (j - 1) z0
def fineS (p:Spn):Prop:=0≤p.epoch∧p.epoch≤1073741824∧0≤p.to∧p.to≤1073741824
theorem lastOf_succ {l:List Spn} {i:Nat} (h:i<l.length):lastOf l (i+1)=l[i]:=by
 simp [lastOf,List.getD_eq_getElem?_getD,List.getElem?_eq_getElem h]
theorem okNext_fine {p x:Spn} (h:okNext p x=true) (hp:fineS p):fineS x∧x.fr=p.to+1∧x.fr≤x.to∧p.epoch<x.epoch:=by
 simp only [okNext,Bool.and_eq_true,decide_eq_true_eq] at h
 unfold fineS at *
 omega
def linRes (p:Spn):List Spn→Bool × Spn
 |[]=>(true,p)
 |x :: r=>if okNext p x=true then linRes x r else (false,p)
theorem linRes_go:∀ (l:List Spn) (p:Spn),(linRes p l).1=linGo p l
 |[],_=>rfl
 |x :: l,p=>by
  unfold linRes linGo
  by_cases h:okNext p x=true
  ·simp only [h,if_true,Bool.true_and];exact linRes_go l x
  ·simp only [h,if_false,Bool.not_eq_true] at *;simp [h]
theorem cal92 {n low:Int}:cal env 92 [.int .i64 n,.int .i64 low]=some [(.bool (decide (n ≥ low)&&decide (n≤1073741824)),false)]:=by
 rw [cal_code env92 rfl];simp only [fn92];simp only [start,z_map_cons,z_map_nil,z_len_cons,z_len_nil,z_repl_zero,z_repl_succ,z_cons_app,z_nil_app,Nat.reduceAdd,Nat.reduceSub]
 by_cases h:n ≥ low
 ·have G:(n ≥ low)=True:=eq_true h
  simp only [G,memAll,vAll,reduceCtorEq,Nat.reduceEqDiff,Nat.reduceAdd,Nat.reduceLT,Nat.reduceLeDiff,Nat.beq]
 ·have G:(n ≥ low)=False:=eq_false h
  simp only [G,memAll,vAll,reduceCtorEq,Nat.reduceEqDiff,Nat.reduceAdd,Nat.reduceLT,Nat.reduceLeDiff,Nat.beq]
theorem loop93 {l:List Spn} (hl:l.length≤lim)
  {st:St} (h:st.head [0,3,7,8,9] st.boxes.length=some ⟨[.pv (.list 3 (l.map eSpn)),.any,.any,.pbox 0 0,.any,.any,.any,.pv (.list 3 (l.map eSpn)),.pv (.int .i64 l.length),.pv (.int .i64 (0:Nat)),.any,.any,.any,.any,.any,.any,.any,.any,.any,.any,.any,.any,.any,.any,.any,.any,.any,.any,.any,.any,.any,.any,.any,.any,.any,.any,.any,.any,.any,.any,.any,.any,.any,.any,.any,.any],[⟨false,bSpn z0⟩],[],none⟩) :
  den env fn93_l1 st=match linRes z0 l with
   |(true,p)=>some (.normal,⟨[.any,.any,.any,.any,.any,.any,.any,.any,.any,.any,.any,.any,.any,.any,.any,.any,.any,.any,.any,.any,.any,.any,.any,.any,.any,.any,.any,.any,.any,.any,.any,.any,.any,.any,.any,.any,.any,.any,.any,.any,.any,.any,.any,.any,.any,.any],[⟨false,bSpn p⟩],[],none⟩)
   |(false,p)=>some (.ret,⟨[.any,.any,.pv (.bool false),.any,.any,.any,.any,.any,.any,.any,.any,.any,.any,.any,.any,.any,.any,.any,.any,.any,.any,.any,.any,.any,.any,.any,.any,.any,.any,.any,.any,.any,.any,.any,.any,.any,.any,.any,.any,.any,.any,.any,.any,.any,.any,.any],[⟨false,bSpn p⟩],[],none⟩):=by
 unfold fn93_l1
 refine clean_upP (env:=env) l.length (fun i=>fineS (lastOf l i)) (fun i=>⟨[.pv (.list 3 (l.map eSpn)),.any,.any,.pbox 0 0,.any,.any,.any,.pv (.list 3 (l.map eSpn)),.pv (.int .i64 l.length),.pv (.int .i64 i),.any,.any,.any,.any,.any,.any,.any,.any,.any,.any,.any,.any,.any,.any,.any,.any,.any,.any,.any,.any,.any,.any,.any,.any,.any,.any,.any,.any,.any,.any,.any,.any,.any,.any,.any,.any],[⟨false,bSpn (lastOf l i)⟩],[],none⟩)
  (fun i=>match linRes (lastOf l i) (l.drop i) with
   |(true,p)=>some (.normal,⟨[.any,.any,.any,.any,.any,.any,.any,.any,.any,.any,.any,.any,.any,.any,.any,.any,.any,.any,.any,.any,.any,.any,.any,.any,.any,.any,.any,.any,.any,.any,.any,.any,.any,.any,.any,.any,.any,.any,.any,.any,.any,.any,.any,.any,.any,.any],[⟨false,bSpn p⟩],[],none⟩)
   |(false,p)=>some (.ret,⟨[.any,.any,.pv (.bool false),.any,.any,.any,.any,.any,.any,.any,.any,.any,.any,.any,.any,.any,.any,.any,.any,.any,.any,.any,.any,.any,.any,.any,.any,.any,.any,.any,.any,.any,.any,.any,.any,.any,.any,.any,.any,.any,.any,.any,.any,.any,.any,.any],[⟨false,bSpn p⟩],[],none⟩)) h (by simp [lastOf,fineS,z0]) (fun _=>rfl) (fun _=>rfl) ?_ ?_
 ·intro i rb hi hf ih
  have hi1:=i64_next hi hl
  have F1:((i:Int)<(l.length:Int))=True:=eq_true (by omega)
  have hk:l[i]?=some l[i]:=List.getElem?_eq_getElem hi
  rw [lastOf_succ hi] at ih
  rw [List.drop_eq_getElem_cons hi]
  unfold linRes
  generalize lastOf l i=p at *
  generalize l[i]=x at *
  obtain ⟨pe,pf,pt⟩:=p
  obtain ⟨xe,xf,xt⟩:=x
  have hf':=hf
  simp only [fineS] at hf
  have F2:IntKind.i64.wrap (pt+1)=pt+1:=i64_fits (by omega)
  by_cases c1:xf=pt+1
  rotate_left
  ·have G1:(xf != pt+1)=true:=by simpa using c1
   have hn:okNext ⟨pe,pf,pt⟩ ⟨xe,xf,xt⟩=false:=by simp [okNext,c1]
   simp only [G1,fn93_b0,F1,F2,hk,bSpn,eSpn,index_nat hi,List.getElem?_map,Option.map_some,memAll,vAll,reduceCtorEq,Nat.reduceEqDiff,Nat.reduceAdd,Nat.reduceLT,Nat.reduceLeDiff,Nat.beq]
   simp only [hn]
   rfl
  have G1:(xf != pt+1)=false:=by simpa using c1
  by_cases c2:xt<xf
  ·have G2:(xt<xf)=True:=eq_true c2
   have hn:okNext ⟨pe,pf,pt⟩ ⟨xe,xf,xt⟩=false:=by simp [okNext];omega
   simp only [G1,G2,fn93_b0,F1,F2,hk,bSpn,eSpn,index_nat hi,List.getElem?_map,Option.map_some,memAll,vAll,reduceCtorEq,Nat.reduceEqDiff,Nat.reduceAdd,Nat.reduceLT,Nat.reduceLeDiff,Nat.beq]
   simp only [hn]
   rfl
  have G2:(xt<xf)=False:=eq_false c2
  by_cases c3:xt > 1073741824
  ·have G3:(xt > 1073741824)=True:=eq_true c3
   have hn:okNext ⟨pe,pf,pt⟩ ⟨xe,xf,xt⟩=false:=by simp [okNext];omega
   simp only [G1,G2,G3,fn93_b0,F1,F2,hk,bSpn,eSpn,index_nat hi,List.getElem?_map,Option.map_some,memAll,vAll,reduceCtorEq,Nat.reduceEqDiff,Nat.reduceAdd,Nat.reduceLT,Nat.reduceLeDiff,Nat.beq]
   simp only [hn]
   rfl
  have G3:(xt > 1073741824)=False:=eq_false c3
  have e1:=cal92 (n:=xe) (low:=1)
  by_cases c4:1≤xe∧xe≤1073741824
  rotate_left
  ·have G4:(decide (xe ≥ 1)&&decide (xe≤1073741824))=false:=by
    rw [← Bool.not_eq_true];simp;omega
   rw [G4] at e1
   have hn:okNext ⟨pe,pf,pt⟩ ⟨xe,xf,xt⟩=false:=by simp [okNext];omega
   simp only [G1,G2,G3,e1,fn93_b0,F1,F2,hk,bSpn,eSpn,index_nat hi,List.getElem?_map,Option.map_some,memAll,vAll,reduceCtorEq,Nat.reduceEqDiff,Nat.reduceAdd,Nat.reduceLT,Nat.reduceLeDiff,Nat.beq]
   simp only [hn]
   rfl
  have G4:(decide (xe ≥ 1)&&decide (xe≤1073741824))=true:=by simp;omega
  rw [G4] at e1
  by_cases c5:xe≤pe
  ·have G5:(xe≤pe)=True:=eq_true c5
   have hn:okNext ⟨pe,pf,pt⟩ ⟨xe,xf,xt⟩=false:=by simp [okNext];omega
   simp only [G1,G2,G3,e1,G5,fn93_b0,F1,F2,hk,bSpn,eSpn,index_nat hi,List.getElem?_map,Option.map_some,memAll,vAll,reduceCtorEq,Nat.reduceEqDiff,Nat.reduceAdd,Nat.reduceLT,Nat.reduceLeDiff,Nat.beq]
   simp only [hn]
   rfl
  have G5:(xe≤pe)=False:=eq_false c5
  have hn:okNext ⟨pe,pf,pt⟩ ⟨xe,xf,xt⟩=true:=by simp [okNext];omega
  have hfx:=(okNext_fine hn hf').1
  simp only [G1,G2,G3,e1,G5,fn93_b0,F1,F2,hk,bSpn,eSpn,index_nat hi,List.getElem?_map,Option.map_some,memAll,vAll,reduceCtorEq,Nat.reduceEqDiff,Nat.reduceAdd,Nat.reduceLT,Nat.reduceLeDiff,Nat.beq]
  rw [ih hfx _ (by simp only [hi1];rfl)]
  simp only [hn,if_true]
  rfl
 ·intro rb hf
  simp only [fn93_b0,Int.lt_irrefl,memAll,vAll,reduceCtorEq,Nat.reduceEqDiff,Nat.reduceAdd,Nat.reduceLT,Nat.reduceLeDiff,Nat.beq]
  rw [List.drop_length]
  rfl
theorem cal93 {l:List Spn} (hl:l.length≤lim):cal env 93 [.list 3 (l.map eSpn)]=some [(.bool (linOk l),false)]:=by
 rw [cal_code env93 rfl];simp only [fn93];simp only [start,z_map_cons,z_map_nil,z_len_cons,z_len_nil,z_repl_zero,z_repl_succ,z_cons_app,z_nil_app,Nat.reduceAdd,Nat.reduceSub]
 simp only [ memAll,vAll,reduceCtorEq,Nat.reduceEqDiff,Nat.reduceAdd,Nat.reduceLT,Nat.reduceLeDiff,Nat.beq]
 rw [loop93 hl]
 rotate_left
 ·rfl
 ·have:=linRes_go l z0
  cases h:linRes z0 l with
  |mk t p =>
   rw [h] at this
   cases t with
   |true=>simp only [linOk,← this,memAll,vAll,reduceCtorEq,Nat.reduceEqDiff,Nat.reduceAdd,Nat.reduceLT,Nat.reduceLeDiff,Nat.beq]
   |false=>simp only [linOk,← this,memAll,vAll,reduceCtorEq,Nat.reduceEqDiff,Nat.reduceAdd,Nat.reduceLT,Nat.reduceLeDiff,Nat.beq]
end Go.Proofs.YtioijcfcehhmdaaGreatDoor.V

namespace Go.Proofs.YtioijcfcehhmdaaGreatDoor.V
set_option maxHeartbeats 2000000 in
theorem loop100 {l:List Spn} (hl:l.length≤lim)
  {st:St} (h:st.head [0,3] st.boxes.length=some ⟨[.pv (.list 3 (l.map eSpn)),.any,.any,.pv (.int .i64 (0:Nat)),.any,.any,.any,.any,.any,.any,.any,.any,.any,.any,.any,.any,.any,.any,.any,.any,.any,.any,.any,.any,.any,.any,.any,.any,.any,.any,.any,.any,.any,.any,.any,.any,.any,.any,.any,.any,.any,.any,.any,.any,.any,.any,.any,.any,.any,.any,.any,.any,.any,.any,.any,.any,.any,.any,.any,.any,.any,.any,.any,.any,.any,.any,.any,.any,.any,.any,.any,.any,.any],[],[],none⟩) :
  den env fn100_l1 st=match linRes z0 l with
   |(true,_)=>some (.normal,⟨[.any,.any,.any,.any,.any,.any,.any,.any,.any,.any,.any,.any,.any,.any,.any,.any,.any,.any,.any,.any,.any,.any,.any,.any,.any,.any,.any,.any,.any,.any,.any,.any,.any,.any,.any,.any,.any,.any,.any,.any,.any,.any,.any,.any,.any,.any,.any,.any,.any,.any,.any,.any,.any,.any,.any,.any,.any,.any,.any,.any,.any,.any,.any,.any,.any,.any,.any,.any,.any,.any,.any,.any,.any],[],[],none⟩)
   |(false,_)=>some (.ret,⟨[.any,.any,.pv (.bool false),.any,.any,.any,.any,.any,.any,.any,.any,.any,.any,.any,.any,.any,.any,.any,.any,.any,.any,.any,.any,.any,.any,.any,.any,.any,.any,.any,.any,.any,.any,.any,.any,.any,.any,.any,.any,.any,.any,.any,.any,.any,.any,.any,.any,.any,.any,.any,.any,.any,.any,.any,.any,.any,.any,.any,.any,.any,.any,.any,.any,.any,.any,.any,.any,.any,.any,.any,.any,.any,.any],[],[],none⟩):=by
 unfold fn100_l1
 refine clean_upP (env:=env) l.length (fun i=>fineS (lastOf l i)) (fun i=>⟨[.pv (.list 3 (l.map eSpn)),.any,.any,.pv (.int .i64 i),.any,.any,.any,.any,.any,.any,.any,.any,.any,.any,.any,.any,.any,.any,.any,.any,.any,.any,.any,.any,.any,.any,.any,.any,.any,.any,.any,.any,.any,.any,.any,.any,.any,.any,.any,.any,.any,.any,.any,.any,.any,.any,.any,.any,.any,.any,.any,.any,.any,.any,.any,.any,.any,.any,.any,.any,.any,.any,.any,.any,.any,.any,.any,.any,.any,.any,.any,.any,.any],[],[],none⟩)
  (fun i=>match linRes (lastOf l i) (l.drop i) with
   |(true,_)=>some (.normal,⟨[.any,.any,.any,.any,.any,.any,.any,.any,.any,.any,.any,.any,.any,.any,.any,.any,.any,.any,.any,.any,.any,.any,.any,.any,.any,.any,.any,.any,.any,.any,.any,.any,.any,.any,.any,.any,.any,.any,.any,.any,.any,.any,.any,.any,.any,.any,.any,.any,.any,.any,.any,.any,.any,.any,.any,.any,.any,.any,.any,.any,.any,.any,.any,.any,.any,.any,.any,.any,.any,.any,.any,.any,.any],[],[],none⟩)
   |(false,_)=>some (.ret,⟨[.any,.any,.pv (.bool false),.any,.any,.any,.any,.any,.any,.any,.any,.any,.any,.any,.any,.any,.any,.any,.any,.any,.any,.any,.any,.any,.any,.any,.any,.any,.any,.any,.any,.any,.any,.any,.any,.any,.any,.any,.any,.any,.any,.any,.any,.any,.any,.any,.any,.any,.any,.any,.any,.any,.any,.any,.any,.any,.any,.any,.any,.any,.any,.any,.any,.any,.any,.any,.any,.any,.any,.any,.any,.any,.any],[],[],none⟩)) h (by simp [lastOf,fineS,z0]) (fun _=>rfl) (fun _=>rfl) ?_ ?_
 ·intro i rb hi hf ih
  have hi1:=i64_next hi hl
  have F1:((i:Int)<(l.length:Int))=True:=eq_true (by omega)
  have hk:l[i]?=some l[i]:=List.getElem?_eq_getElem hi
  rw [lastOf_succ hi] at ih
  rw [List.drop_eq_getElem_cons hi]
  unfold linRes
  have hprev:(i=0∧lastOf l i=z0)∨(∃ k,i=k+1∧l[k]?=some (lastOf l i)):=by
   cases i with
   |zero=>exact .inl ⟨rfl,rfl⟩
   |succ k=>exact .inr ⟨k,rfl,by rw [lastOf_succ (by omega)];exact List.getElem?_eq_getElem (by omega)⟩
  generalize lastOf l i=p at *
  generalize l[i]=x at *
  obtain ⟨pe,pf,pt⟩:=p
  obtain ⟨xe,xf,xt⟩:=x
  have hf':=hf
  simp only [fineS] at hf
  have F2:IntKind.i64.wrap (pt+1)=pt+1:=i64_fits (by omega)
  have F3:IntKind.i64.wrap (pe+1)=pe+1:=i64_fits (by omega)
  rcases hprev with ⟨rfl,hz⟩|⟨k,rfl,hkp⟩
  ·cases hz
   have F4:((((0:Nat):Int)) > 0)=False:=eq_false (by omega)
   by_cases c1:xf=1
   rotate_left
   ·have G1:(xf != 1)=true:=by simpa using c1
    have hn:okNext ⟨0,0,0⟩ ⟨xe,xf,xt⟩=false:=by simp [okNext,c1]
    simp only [G1,fn100_b0,F1,F4,hk,eSpn,index_nat hi,List.getElem?_map,Option.map_some,memAll,vAll,reduceCtorEq,Nat.reduceEqDiff,Nat.reduceAdd,Nat.reduceLT,Nat.reduceLeDiff,Nat.beq]
    simp only [hn]
    rfl
   have G1:(xf != 1)=false:=by simpa using c1
   by_cases c2:xt<xf
   ·have G2:(xt<xf)=True:=eq_true c2
    have hn:okNext ⟨0,0,0⟩ ⟨xe,xf,xt⟩=false:=by simp [okNext];omega
    simp only [G1,G2,fn100_b0,F1,F4,hk,eSpn,index_nat hi,List.getElem?_map,Option.map_some,memAll,vAll,reduceCtorEq,Nat.reduceEqDiff,Nat.reduceAdd,Nat.reduceLT,Nat.reduceLeDiff,Nat.beq]
    simp only [hn]
    rfl
   have G2:(xt<xf)=False:=eq_false c2
   by_cases c3:xt > 1073741824
   ·have G3:(xt > 1073741824)=True:=eq_true c3
    have hn:okNext ⟨0,0,0⟩ ⟨xe,xf,xt⟩=false:=by simp [okNext];omega
    simp only [G1,G2,G3,fn100_b0,F1,F4,hk,eSpn,index_nat hi,List.getElem?_map,Option.map_some,memAll,vAll,reduceCtorEq,Nat.reduceEqDiff,Nat.reduceAdd,Nat.reduceLT,Nat.reduceLeDiff,Nat.beq]
    simp only [hn]
    rfl
   have G3:(xt > 1073741824)=False:=eq_false c3
   by_cases c4:xe<1
   ·have G4:(xe<1)=True:=eq_true c4
    have hn:okNext ⟨0,0,0⟩ ⟨xe,xf,xt⟩=false:=by simp [okNext];omega
    simp only [G1,G2,G3,G4,fn100_b0,F1,F4,hk,eSpn,index_nat hi,List.getElem?_map,Option.map_some,memAll,vAll,reduceCtorEq,Nat.reduceEqDiff,Nat.reduceAdd,Nat.reduceLT,Nat.reduceLeDiff,Nat.beq]
    simp only [hn]
    rfl
   have G4:(xe<1)=False:=eq_false c4
   by_cases c5:xe > 1073741824
   ·have G5:(xe > 1073741824)=True:=eq_true c5
    have hn:okNext ⟨0,0,0⟩ ⟨xe,xf,xt⟩=false:=by simp [okNext];omega
    simp only [G1,G2,G3,G4,G5,fn100_b0,F1,F4,hk,eSpn,index_nat hi,List.getElem?_map,Option.map_some,memAll,vAll,reduceCtorEq,Nat.reduceEqDiff,Nat.reduceAdd,Nat.reduceLT,Nat.reduceLeDiff,Nat.beq]
    simp only [hn]
    rfl
   have G5:(xe > 1073741824)=False:=eq_false c5
   have hn:okNext ⟨0,0,0⟩ ⟨xe,xf,xt⟩=true:=by simp [okNext];omega
   have hfx:=(okNext_fine hn hf').1
   simp only [G1,G2,G3,G4,G5,fn100_b0,F1,F4,hk,eSpn,index_nat hi,List.getElem?_map,Option.map_some,memAll,vAll,reduceCtorEq,Nat.reduceEqDiff,Nat.reduceAdd,Nat.reduceLT,Nat.reduceLeDiff,Nat.beq]
   rw [ih hfx _ (by simp only [hi1];rfl)]
   simp only [hn,if_true]<;>rfl
  ·have hkl:k<l.length:=by omega
   have F4:((((k+1:Nat):Int)) > 0)=True:=eq_true (by omega)
   have F5:IntKind.i64.wrap (((k+1:Nat):Int) - 1)=(k:Int):=by
    have hl':=hl
    unfold lim at hl'
    rw [i64_fits (by omega)];omega
   by_cases c1:xf=pt+1
   rotate_left
   ·have G1:(xf != pt+1)=true:=by simpa using c1
    have hn:okNext ⟨pe,pf,pt⟩ ⟨xe,xf,xt⟩=false:=by simp [okNext,c1]
    simp only [G1,fn100_b0,F1,F2,F3,F4,F5,hk,hkp,eSpn,index_nat hi,index_nat hkl,List.getElem?_map,Option.map_some,memAll,vAll,reduceCtorEq,Nat.reduceEqDiff,Nat.reduceAdd,Nat.reduceLT,Nat.reduceLeDiff,Nat.beq]
    simp only [hn]
    rfl
   have G1:(xf != pt+1)=false:=by simpa using c1
   by_cases c2:xt<xf
   ·have G2:(xt<xf)=True:=eq_true c2
    have hn:okNext ⟨pe,pf,pt⟩ ⟨xe,xf,xt⟩=false:=by simp [okNext];omega
    simp only [G1,G2,fn100_b0,F1,F2,F3,F4,F5,hk,hkp,eSpn,index_nat hi,index_nat hkl,List.getElem?_map,Option.map_some,memAll,vAll,reduceCtorEq,Nat.reduceEqDiff,Nat.reduceAdd,Nat.reduceLT,Nat.reduceLeDiff,Nat.beq]
    simp only [hn]
    rfl
   have G2:(xt<xf)=False:=eq_false c2
   by_cases c3:xt > 1073741824
   ·have G3:(xt > 1073741824)=True:=eq_true c3
    have hn:okNext ⟨pe,pf,pt⟩ ⟨xe,xf,xt⟩=false:=by simp [okNext];omega
    simp only [G1,G2,G3,fn100_b0,F1,F2,F3,F4,F5,hk,hkp,eSpn,index_nat hi,index_nat hkl,List.getElem?_map,Option.map_some,memAll,vAll,reduceCtorEq,Nat.reduceEqDiff,Nat.reduceAdd,Nat.reduceLT,Nat.reduceLeDiff,Nat.beq]
    simp only [hn]
    rfl
   have G3:(xt > 1073741824)=False:=eq_false c3
   by_cases c4:xe<pe+1
   ·have G4:(xe<pe+1)=True:=eq_true c4
    have hn:okNext ⟨pe,pf,pt⟩ ⟨xe,xf,xt⟩=false:=by simp [okNext];omega
    simp only [G1,G2,G3,G4,fn100_b0,F1,F2,F3,F4,F5,hk,hkp,eSpn,index_nat hi,index_nat hkl,List.getElem?_map,Option.map_some,memAll,vAll,reduceCtorEq,Nat.reduceEqDiff,Nat.reduceAdd,Nat.reduceLT,Nat.reduceLeDiff,Nat.beq]
    simp only [hn]
    rfl
   have G4:(xe<pe+1)=False:=eq_false c4
   by_cases c5:xe > 1073741824
   ·have G5:(xe > 1073741824)=True:=eq_true c5
    have hn:okNext ⟨pe,pf,pt⟩ ⟨xe,xf,xt⟩=false:=by simp [okNext];omega
    simp only [G1,G2,G3,G4,G5,fn100_b0,F1,F2,F3,F4,F5,hk,hkp,eSpn,index_nat hi,index_nat hkl,List.getElem?_map,Option.map_some,memAll,vAll,reduceCtorEq,Nat.reduceEqDiff,Nat.reduceAdd,Nat.reduceLT,Nat.reduceLeDiff,Nat.beq]
    simp only [hn]
    rfl
   have G5:(xe > 1073741824)=False:=eq_false c5
   have hn:okNext ⟨pe,pf,pt⟩ ⟨xe,xf,xt⟩=true:=by simp [okNext];omega
   have hfx:=(okNext_fine hn hf').1
   simp only [G1,G2,G3,G4,G5,fn100_b0,F1,F2,F3,F4,F5,hk,hkp,eSpn,index_nat hi,index_nat hkl,List.getElem?_map,Option.map_some,memAll,vAll,reduceCtorEq,Nat.reduceEqDiff,Nat.reduceAdd,Nat.reduceLT,Nat.reduceLeDiff,Nat.beq]
   rw [ih hfx _ (by simp only [hi1];rfl)]
   simp only [hn,if_true]<;>rfl
 ·intro rb hf
  simp only [fn100_b0,Int.lt_irrefl,memAll,vAll,reduceCtorEq,Nat.reduceEqDiff,Nat.reduceAdd,Nat.reduceLT,Nat.reduceLeDiff,Nat.beq]
  rw [List.drop_length]
  rfl
end Go.Proofs.YtioijcfcehhmdaaGreatDoor.V

namespace Go.Proofs.YtioijcfcehhmdaaGreatDoor.V
def headOf (l:List Spn):Spn:=lastOf l l.length
end Go.Proofs.YtioijcfcehhmdaaGreatDoor.V

namespace Go.Proofs.YtioijcfcehhmdaaGreatDoor.V
def idxI {α:Type} (p:α→Bool) (l:List α):Int:=if l.any p then (l.findIdx p:Int) else -1
theorem idxI_nonneg {α:Type} (p:α→Bool) (l:List α):decide (idxI p l ≥ 0)=l.any p:=by
 unfold idxI
 cases l.any p
 ·rfl
 ·simp only [if_true];exact decide_eq_true (by omega)
theorem loop151 {α:Type} {enc:α→PV} {l:List α} {p:α→Bool} {gf:Nat} {caps:List PV} (hp:∀ x∈l,cal env gf (enc x :: caps)=some [(.bool (p x),false)]) (hs:∀ x,part (enc x).cells 0 none=some (enc x)) (hl:l.length≤lim)
  {st:St} (h:st.head [0,1,7,8] st.boxes.length=some ⟨[.pv (.list 1 (l.map enc)),.pv (.func gf caps),.any,.any,.any,.any,.any,.pv (.int .i64 l.length),.pv (.int .i64 (0:Nat)),.any,.any,.any,.any,.any,.any,.any,.any,.any,.any],[],[],none⟩) :
  den env fn151_l1 st=if l.any p then some (.ret,⟨[.any,.any,.any,.any,.pv (.int .i64 (l.findIdx p)),.any,.any,.any,.any,.any,.any,.any,.any,.any,.any,.any,.any,.any,.any],[],[],none⟩) else some (.normal,⟨[.any,.any,.any,.any,.any,.any,.any,.any,.any,.any,.any,.any,.any,.any,.any,.any,.any,.any,.any],[],[],none⟩):=by
 unfold fn151_l1
 rw [clean_up l.length (fun i=>⟨[.pv (.list 1 (l.map enc)),.pv (.func gf caps),.any,.any,.any,.any,.any,.pv (.int .i64 l.length),.pv (.int .i64 i),.any,.any,.any,.any,.any,.any,.any,.any,.any,.any],[],[],none⟩)
  (fun i=>if (l.drop i).any p then some (.ret,⟨[.any,.any,.any,.any,.pv (.int .i64 ((i+(l.drop i).findIdx p:Nat):Int)),.any,.any,.any,.any,.any,.any,.any,.any,.any,.any,.any,.any,.any,.any],[],[],none⟩) else some (.normal,⟨[.any,.any,.any,.any,.any,.any,.any,.any,.any,.any,.any,.any,.any,.any,.any,.any,.any,.any,.any],[],[],none⟩)) h (fun _=>rfl) (fun _=>rfl) ?_ ?_]
 ·simp only [List.drop_zero,Nat.zero_add]
 ·intro i rb hi ih
  have hi1:=i64_next hi hl
  have F1:((i:Int)<(l.length:Int))=True:=eq_true (by omega)
  simp only [fn151_b0,F1,List.length_map,index_nat hi,List.getElem?_map,List.getElem?_eq_getElem hi,hp _ (List.getElem_mem hi),hs,vAll,reduceCtorEq,Nat.reduceEqDiff,Nat.reduceAdd,Nat.reduceLT,Nat.reduceLeDiff,Nat.beq]
  (try simp only [bcase_bind,bcase_map,tail_bcase]);refine bcase_split (fun hb=>?_) (fun hb=>?_)<;>try simp only [hb, memAll,vAll,reduceCtorEq,Nat.reduceEqDiff,Nat.reduceAdd,Nat.reduceLT,Nat.reduceLeDiff,Nat.beq]
  ·rw [List.drop_eq_getElem_cons hi]
   simp only [List.any_cons,hb,Bool.true_or,if_true,List.findIdx_cons,cond_true,Nat.add_zero]
   rfl
  ·rw [ih _ (by simp only [hi1];rfl),List.drop_eq_getElem_cons hi]
   simp only [List.any_cons,hb,Bool.false_or,List.findIdx_cons,cond_false,Nat.add_assoc,Nat.add_comm 1]
 ·intro rb
  simp only [fn151_b0,Int.lt_irrefl,vAll,reduceCtorEq,Nat.reduceEqDiff,Nat.reduceAdd,Nat.reduceLT,Nat.reduceLeDiff,Nat.beq]
  simp only [List.drop_length,List.any_nil,Bool.false_eq_true,if_false]
  rfl
theorem cal151 {α:Type} {enc:α→PV} {l:List α} {p:α→Bool} {gf:Nat} {caps:List PV} (hp:∀ x∈l,cal env gf (enc x :: caps)=some [(.bool (p x),false)]) (hs:∀ x,part (enc x).cells 0 none=some (enc x)) (hl:l.length≤lim) :
  cal env 151 [.list 1 (l.map enc),.func gf caps]=some [(.int .i64 (idxI p l),false)]:=by
 rw [cal_code env151 rfl];simp only [fn151];simp only [start,z_map_cons,z_map_nil,z_len_cons,z_len_nil,z_repl_zero,z_repl_succ,z_cons_app,z_nil_app,Nat.reduceAdd,Nat.reduceSub]
 simp only [List.length_map,vAll,reduceCtorEq,Nat.reduceEqDiff,Nat.reduceAdd,Nat.reduceLT,Nat.reduceLeDiff,Nat.beq]
 rw [loop151 hp hs hl]
 rotate_left
 ·rfl
 ·simp only [idxI]
  split<;>simp only [vAll,reduceCtorEq,Nat.reduceEqDiff,Nat.reduceAdd,Nat.reduceLT,Nat.reduceLeDiff,Nat.beq]
--+
theorem cal129 {α:Type} {enc:α→PV} {l:List α} {p:α→Bool} {gf:Nat} {caps:List PV} (hp:∀ x∈l,cal env gf (enc x :: caps)=some [(.bool (p x),false)]) (hs:∀ x,part (enc x).cells 0 none=some (enc x)) (hl:l.length≤lim) :
  cal env 129 [.list 1 (l.map enc),.func gf caps]=some [(.bool (l.any p),false)]:=by
 rw [cal_code env129 rfl];simp only [fn129];simp only [start,z_map_cons,z_map_nil,z_len_cons,z_len_nil,z_repl_zero,z_repl_succ,z_cons_app,z_nil_app,Nat.reduceAdd,Nat.reduceSub]
 simp only [cal151 hp hs hl,idxI_nonneg,vAll,reduceCtorEq,Nat.reduceEqDiff,Nat.reduceAdd,Nat.reduceLT,Nat.reduceLeDiff,Nat.beq]
--+
theorem cal95 {es:List PV} (hl:es.length≤lim):cal env 95 [.list 8 es]=some [(.list 8 es,true)]:=(cal_ext env95).trans (if_pos ⟨rfl,hl⟩)
end Go.Proofs.YtioijcfcehhmdaaGreatDoor.V

namespace Go.Proofs.YtioijcfcehhmdaaGreatDoor.V
def sizesErr (l:List Int):Int:=if l.length<1∨8<l.length then 6 else if l.any (fun n=>decide (n<1) || decide (n > 4096)) then 2 else 0
def imSizes (im:Img):List Int:=im.map fun v=>(v.length:Int)
def imCheck (im:Img):Int:=sizesErr (imSizes im)
def fitsErr (im:Img) (w:Wrt):Int :=
 if w.volume<0∨(im.length:Int)≤w.volume then 7 else if w.data.length=0 then 1
 else if w.start<0∨((im.getD w.volume.toNat []).length:Int) - w.data.length<w.start then 2 else 0
def imFits (im:Img) (w:Wrt):Int:=if imCheck im≠0 then imCheck im else fitsErr im w
def newImg (l:List Int):Img:=l.map fun n=>List.replicate n.toNat zSec
theorem take_map_succ {α β:Type} (f:α→β) {l:List α} {i:Nat} (h:i<l.length):(l.take i).map f++[f l[i]]=(l.take (i+1)).map f:=by
 rw [List.take_succ,List.getElem?_eq_getElem h,List.map_append];rfl
theorem loop127 {α:Type} {enc:α→PV} {l:List α} {g:α→List Sec} {gf:Nat} {caps:List PV} (hp:∀ x∈l,cal env gf (enc x :: caps)=some [(eSecs (g x),true)]) (hs:∀ x,part (enc x).cells 0 none=some (enc x)) (hs3:∀ x,(enc x).cells.length=1) (hl:l.length≤lim)
  {st:St} (h:st.head [0,1,5,10,11,12,13,22] st.boxes.length=some ⟨[.pv (.list 1 (l.map enc)),.pv (.func gf caps),.any,.any,.any,.row 1 [],.any,.any,.any,.any,.any,.pv (.list 1 (l.map enc)),.pv (.int .i64 l.length),.pv (.int .i64 (0:Nat)),.any,.any,.any,.any,.any,.any,.any,.any,.any,.any,.any],[],[],none⟩) :
  den env fn127_l1 st=some (.normal,⟨[.any,.any,.any,.any,.any,.row 1 (l.map fun x=>eSecs (g x)),.any,.any,.any,.any,.any,.any,.any,.any,.any,.any,.any,.any,.any,.any,.any,.any,.any,.any,.any],[],[],none⟩):=by
 unfold fn127_l1
 rw [clean_up l.length (fun i=>⟨[.pv (.list 1 (l.map enc)),.pv (.func gf caps),.any,.any,.any,.row 1 ((l.take i).map fun x=>eSecs (g x)),.any,.any,.any,.any,.any,.pv (.list 1 (l.map enc)),.pv (.int .i64 l.length),.pv (.int .i64 i),.any,.any,.any,.any,.any,.any,.any,.any,.any,.any,.any],[],[],none⟩)
  (fun i=>some (.normal,⟨[.any,.any,.any,.any,.any,.row 1 (l.map fun x=>eSecs (g x)),.any,.any,.any,.any,.any,.any,.any,.any,.any,.any,.any,.any,.any,.any,.any,.any,.any,.any,.any],[],[],none⟩)) h (fun _=>rfl) (fun _=>rfl) ?_ ?_]
 ·intro i rb hi ih
  have hi1:=i64_next hi hl
  have F1:((i:Int)<(l.length:Int))=True:=eq_true (by omega)
  have F2:((l.take i).length+1≤lim)=True:=eq_true (by rw [List.length_take];omega)
  have hpi:cal env gf (enc l[i] :: caps)=some [((PV.list 8 ((g l[i]).map eSec)),true)]:=hp _ (List.getElem_mem hi)
  try simp only [eExt] at hpi
  simp only [fn127_b0,F1,F2,index_nat hi,List.getElem?_map,List.getElem?_eq_getElem hi, hpi,hs,hs3,memAll,vAll,reduceCtorEq,Nat.reduceEqDiff,Nat.reduceAdd,Nat.reduceLT,Nat.reduceLeDiff,Nat.beq]
  rw [ih _ (by simp only [hi1];rw [← take_map_succ _ hi];rfl)]
 ·intro rb
  simp only [fn127_b0,Int.lt_irrefl,vAll,reduceCtorEq,Nat.reduceEqDiff,Nat.reduceAdd,Nat.reduceLT,Nat.reduceLeDiff,Nat.beq]
  rw [List.take_length]
  rfl
theorem cal127 {α:Type} {enc:α→PV} {l:List α} {g:α→List Sec} {gf:Nat} {caps:List PV} (hp:∀ x∈l,cal env gf (enc x :: caps)=some [(eSecs (g x),true)]) (hs:∀ x,part (enc x).cells 0 none=some (enc x)) (hs3:∀ x,(enc x).cells.length=1) (hl:l.length≤lim) :
  cal env 127 [.list 1 (l.map enc),.func gf caps]=some [(.list 1 (l.map fun x=>eSecs (g x)),true)]:=by
 rw [cal_code env127 rfl];simp only [fn127];simp only [start,z_map_cons,z_map_nil,z_len_cons,z_len_nil,z_repl_zero,z_repl_succ,z_cons_app,z_nil_app,Nat.reduceAdd,Nat.reduceSub]
 have F1:((l.length:Int)≤(lim:Int))=True:=eq_true (by omega)
 have F2:((0:Int)≤(l.length:Int))=True:=eq_true (by omega)
 simp only [F1,F2,Int.le_refl,memAll,vAll,reduceCtorEq,Nat.reduceEqDiff,Nat.reduceAdd,Nat.reduceLT,Nat.reduceLeDiff,Nat.beq]
 rw [loop127 hp hs hs3 hl]
 rotate_left
 ·rfl
 ·simp only [memAll,vAll,reduceCtorEq,Nat.reduceEqDiff,Nat.reduceAdd,Nat.reduceLT,Nat.reduceLeDiff,Nat.beq]
--+
theorem loop138 {α:Type} {enc:α→PV} {l:List α} {g:α→Int} {gf:Nat} {caps:List PV} (hp:∀ x∈l,cal env gf (enc x :: caps)=some [(eI (g x),false)]) (hs:∀ x,part (enc x).cells 0 none=some (enc x)) (hs3:∀ x,(enc x).cells.length=1) (hl:l.length≤lim)
  {st:St} (h:st.head [0,1,5,10,11,12,13,22] st.boxes.length=some ⟨[.pv (.list 1 (l.map enc)),.pv (.func gf caps),.any,.any,.any,.row 1 [],.any,.any,.any,.any,.any,.pv (.list 1 (l.map enc)),.pv (.int .i64 l.length),.pv (.int .i64 (0:Nat)),.any,.any,.any,.any,.any,.any,.any,.any,.any,.any,.any],[],[],none⟩) :
  den env fn138_l1 st=some (.normal,⟨[.any,.any,.any,.any,.any,.row 1 (l.map fun x=>eI (g x)),.any,.any,.any,.any,.any,.any,.any,.any,.any,.any,.any,.any,.any,.any,.any,.any,.any,.any,.any],[],[],none⟩):=by
 unfold fn138_l1
 rw [clean_up l.length (fun i=>⟨[.pv (.list 1 (l.map enc)),.pv (.func gf caps),.any,.any,.any,.row 1 ((l.take i).map fun x=>eI (g x)),.any,.any,.any,.any,.any,.pv (.list 1 (l.map enc)),.pv (.int .i64 l.length),.pv (.int .i64 i),.any,.any,.any,.any,.any,.any,.any,.any,.any,.any,.any],[],[],none⟩)
  (fun i=>some (.normal,⟨[.any,.any,.any,.any,.any,.row 1 (l.map fun x=>eI (g x)),.any,.any,.any,.any,.any,.any,.any,.any,.any,.any,.any,.any,.any,.any,.any,.any,.any,.any,.any],[],[],none⟩)) h (fun _=>rfl) (fun _=>rfl) ?_ ?_]
 ·intro i rb hi ih
  have hi1:=i64_next hi hl
  have F1:((i:Int)<(l.length:Int))=True:=eq_true (by omega)
  have F2:((l.take i).length+1≤lim)=True:=eq_true (by rw [List.length_take];omega)
  have hpi:cal env gf (enc l[i] :: caps)=some [((PV.int .i64 (g l[i])),false)]:=hp _ (List.getElem_mem hi)
  try simp only [eExt] at hpi
  simp only [fn138_b0,F1,F2,index_nat hi,List.getElem?_map,List.getElem?_eq_getElem hi, hpi,hs,hs3,memAll,vAll,reduceCtorEq,Nat.reduceEqDiff,Nat.reduceAdd,Nat.reduceLT,Nat.reduceLeDiff,Nat.beq]
  rw [ih _ (by simp only [hi1];rw [← take_map_succ _ hi];rfl)]
 ·intro rb
  simp only [fn138_b0,Int.lt_irrefl,vAll,reduceCtorEq,Nat.reduceEqDiff,Nat.reduceAdd,Nat.reduceLT,Nat.reduceLeDiff,Nat.beq]
  rw [List.take_length]
  rfl
theorem cal138 {α:Type} {enc:α→PV} {l:List α} {g:α→Int} {gf:Nat} {caps:List PV} (hp:∀ x∈l,cal env gf (enc x :: caps)=some [(eI (g x),false)]) (hs:∀ x,part (enc x).cells 0 none=some (enc x)) (hs3:∀ x,(enc x).cells.length=1) (hl:l.length≤lim) :
  cal env 138 [.list 1 (l.map enc),.func gf caps]=some [(.list 1 (l.map fun x=>eI (g x)),true)]:=by
 rw [cal_code env138 rfl];simp only [fn138];simp only [start,z_map_cons,z_map_nil,z_len_cons,z_len_nil,z_repl_zero,z_repl_succ,z_cons_app,z_nil_app,Nat.reduceAdd,Nat.reduceSub]
 have F1:((l.length:Int)≤(lim:Int))=True:=eq_true (by omega)
 have F2:((0:Int)≤(l.length:Int))=True:=eq_true (by omega)
 simp only [F1,F2,Int.le_refl,memAll,vAll,reduceCtorEq,Nat.reduceEqDiff,Nat.reduceAdd,Nat.reduceLT,Nat.reduceLeDiff,Nat.beq]
 rw [loop138 hp hs hs3 hl]
 rotate_left
 ·rfl
 ·simp only [memAll,vAll,reduceCtorEq,Nat.reduceEqDiff,Nat.reduceAdd,Nat.reduceLT,Nat.reduceLeDiff,Nat.beq]
theorem cal148 {x:Int}:cal env 148 [eI x]=some [(.bool (decide (x<1) || decide (x > 4096)),false)]:=by
 unfold eI
 rw [cal_code env148 rfl];simp only [fn148];simp only [start,z_map_cons,z_map_nil,z_len_cons,z_len_nil,z_repl_zero,z_repl_succ,z_cons_app,z_nil_app,Nat.reduceAdd,Nat.reduceSub]
 simp only [ memAll,vAll,reduceCtorEq,Nat.reduceEqDiff,Nat.reduceAdd,Nat.reduceLT,Nat.reduceLeDiff,Nat.beq]
 (try simp only [bcase_bind,bcase_map,tail_bcase]);refine bcase_split (fun hb=>?_) (fun hb=>?_)<;>try simp only [hb, memAll,vAll,reduceCtorEq,Nat.reduceEqDiff,Nat.reduceAdd,Nat.reduceLT,Nat.reduceLeDiff,Nat.beq]
theorem cal124 {l:List Int} (hl:l.length≤lim):cal env 124 [.list 1 (l.map eI)]=some [(.int .i64 (sizesErr l),false)]:=by
 have e1:=cal129 (l:=l) (enc:=eI) (fun x _=>cal148 (x:=x)) (fun x=>rfl) hl
 rw [cal_code env124 rfl];simp only [fn124];simp only [start,z_map_cons,z_map_nil,z_len_cons,z_len_nil,z_repl_zero,z_repl_succ,z_cons_app,z_nil_app,Nat.reduceAdd,Nat.reduceSub]
 simp only [e1,memAll,vAll,reduceCtorEq,Nat.reduceEqDiff,Nat.reduceAdd,Nat.reduceLT,Nat.reduceLeDiff,Nat.beq]
 repeat' ((try simp only [bcase_bind,bcase_map,tail_bcase]);refine bcase_split (fun hb=>?_) (fun hb=>?_)<;>try simp only [hb,e1,memAll,vAll,reduceCtorEq,Nat.reduceEqDiff,Nat.reduceAdd,Nat.reduceLT,Nat.reduceLeDiff,Nat.beq])
 all_goals grind [sizesErr]
theorem cal139 {v:List Sec}:cal env 139 [eSecs v]=some [(eI v.length,false)]:=by
 unfold eSecs eI
 rw [cal_code env139 rfl];simp only [fn139];simp only [start,z_map_cons,z_map_nil,z_len_cons,z_len_nil,z_repl_zero,z_repl_succ,z_cons_app,z_nil_app,Nat.reduceAdd,Nat.reduceSub]
 simp only [ memAll,vAll,reduceCtorEq,Nat.reduceEqDiff,Nat.reduceAdd,Nat.reduceLT,Nat.reduceLeDiff,Nat.beq]
theorem cal116 {im:Img} (hl:im.length≤lim):cal env 116 [.list 1 (im.map eSecs)]=some [(.list 1 ((imSizes im).map eI),true)]:=by
 have e1:=cal138 (enc:=eSecs) (l:=im) (fun x _=>cal139 (v:=x)) (fun x=>rfl) (fun x=>rfl) hl
 rw [cal_code env116 rfl];simp only [fn116];simp only [start,z_map_cons,z_map_nil,z_len_cons,z_len_nil,z_repl_zero,z_repl_succ,z_cons_app,z_nil_app,Nat.reduceAdd,Nat.reduceSub]
 simp only [e1,memAll,vAll,reduceCtorEq,Nat.reduceEqDiff,Nat.reduceAdd,Nat.reduceLT,Nat.reduceLeDiff,Nat.beq]
 simp [imSizes]
theorem cal85 {im:Img} (hl:im.length≤lim):cal env 85 [.list 1 (im.map eSecs)]=some [(.int .i64 (imCheck im),false)]:=by
 have h2:(imSizes im).length≤lim:=by simpa [imSizes] using hl
 have e1:=cal116 hl
 have e2:=cal124 h2
 rw [cal_code env85 rfl];simp only [fn85];simp only [start,z_map_cons,z_map_nil,z_len_cons,z_len_nil,z_repl_zero,z_repl_succ,z_cons_app,z_nil_app,Nat.reduceAdd,Nat.reduceSub]
 simp only [e1,e2,memAll,vAll,reduceCtorEq,Nat.reduceEqDiff,Nat.reduceAdd,Nat.reduceLT,Nat.reduceLeDiff,Nat.beq]
 rfl
theorem cal128 {n:Int} (h0:0≤n) (h1:n≤4096):cal env 128 [eI n]=some [(eSecs (List.replicate n.toNat zSec),true)]:=by
 unfold eI eSecs
 rw [cal_code env128 rfl];simp only [fn128];simp only [start,z_map_cons,z_map_nil,z_len_cons,z_len_nil,z_repl_zero,z_repl_succ,z_cons_app,z_nil_app,Nat.reduceAdd,Nat.reduceSub]
 have F1:(n≤(lim:Int))=True:=eq_true (by simp [lim];omega)
 simp only [F1,h0,← secPV_zero,secPV_length,memAll,vAll,reduceCtorEq,Nat.reduceEqDiff,Nat.reduceAdd,Nat.reduceLT,Nat.reduceLeDiff,Nat.beq]
 simp only [List.map_replicate]
 rfl
theorem cal96 {l:List Int} (hl:l.length≤lim):cal env 96 [.list 1 (l.map eI)]=some [(.list 1 ((if sizesErr l=0 then newImg l else []).map eSecs),true),(.int .i64 (sizesErr l),false)]:=by
 have e0:=cal124 hl
 by_cases h:sizesErr l=0
 ·have hs:∀ x∈l,1≤x∧x≤4096:=by
   intro x hx
   unfold sizesErr at h
   split at h
   ·omega
   ·split at h
    ·omega
    ·rename_i h2
     simp only [List.any_eq_true,not_exists,not_and,Bool.not_eq_true] at h2
     have:=h2 x hx
     simp at this
     omega
  have e1:=cal127 (enc:=eI) (g:=fun n=>List.replicate n.toNat zSec) (l:=l) (fun x hx=>cal128 (n:=x) (by have:=hs x hx;omega) (by have:=hs x hx;omega)) (fun x=>rfl) (fun x=>rfl) hl
  rw [cal_code env96 rfl];simp only [fn96];simp only [start,z_map_cons,z_map_nil,z_len_cons,z_len_nil,z_repl_zero,z_repl_succ,z_cons_app,z_nil_app,Nat.reduceAdd,Nat.reduceSub]
  simp only [e0,e1,memAll,vAll,reduceCtorEq,Nat.reduceEqDiff,Nat.reduceAdd,Nat.reduceLT,Nat.reduceLeDiff,Nat.beq]
  (try simp only [bcase_bind,bcase_map,tail_bcase]);refine bcase_split (fun hb=>?_) (fun hb=>?_)<;>try simp only [hb,e0,e1,memAll,vAll,reduceCtorEq,Nat.reduceEqDiff,Nat.reduceAdd,Nat.reduceLT,Nat.reduceLeDiff,Nat.beq]
  ·simp [newImg,h]
  ·simp at hb;omega
 ·have e1:=e0
  rw [cal_code env96 rfl];simp only [fn96];simp only [start,z_map_cons,z_map_nil,z_len_cons,z_len_nil,z_repl_zero,z_repl_succ,z_cons_app,z_nil_app,Nat.reduceAdd,Nat.reduceSub]
  simp only [e0,e1,memAll,vAll,reduceCtorEq,Nat.reduceEqDiff,Nat.reduceAdd,Nat.reduceLT,Nat.reduceLeDiff,Nat.beq]
  (try simp only [bcase_bind,bcase_map,tail_bcase]);refine bcase_split (fun hb=>?_) (fun hb=>?_)<;>try simp only [hb,e0,e1,memAll,vAll,reduceCtorEq,Nat.reduceEqDiff,Nat.reduceAdd,Nat.reduceLT,Nat.reduceLeDiff,Nat.beq]
  ·simp at hb;omega
  ·simp [h]
end Go.Proofs.YtioijcfcehhmdaaGreatDoor.V

namespace Go.Proofs.YtioijcfcehhmdaaGreatDoor.V
theorem loop104 {l:List Int} (hl:l.length≤lim) {st:St} (h:st.head [0,3] st.boxes.length=some ⟨[.pv (.list 1 (l.map eI)),.any,.any,.pv (.int .i64 (0:Nat)),.any,.any,.any,.any,.any,.any,.any,.any,.any,.any,.any,.any,.any,.any,.any,.any,.any,.any,.any,.any,.any,.any,.any,.any,.any,.any],[],[],none⟩) :
  den env fn104_l1 st=if l.any (fun n=>decide (n<1) || decide (n > 4096)) then some (.ret,⟨[.any,.any,.pv (.int .i64 2),.any,.any,.any,.any,.any,.any,.any,.any,.any,.any,.any,.any,.any,.any,.any,.any,.any,.any,.any,.any,.any,.any,.any,.any,.any,.any,.any],[],[],none⟩) else some (.normal,⟨[.any,.any,.any,.any,.any,.any,.any,.any,.any,.any,.any,.any,.any,.any,.any,.any,.any,.any,.any,.any,.any,.any,.any,.any,.any,.any,.any,.any,.any,.any],[],[],none⟩):=by
 unfold fn104_l1
 rw [ clean_up (env:=env) (l.length) (fun i=>⟨[.pv (.list 1 (l.map eI)),.any,.any,.pv (.int .i64 i),.any,.any,.any,.any,.any,.any,.any,.any,.any,.any,.any,.any,.any,.any,.any,.any,.any,.any,.any,.any,.any,.any,.any,.any,.any,.any],[],[],none⟩) (fun i=>if (l.drop i).any (fun n=>decide (n<1) || decide (n > 4096)) then some (.ret,⟨[.any,.any,.pv (.int .i64 2),.any,.any,.any,.any,.any,.any,.any,.any,.any,.any,.any,.any,.any,.any,.any,.any,.any,.any,.any,.any,.any,.any,.any,.any,.any,.any,.any],[],[],none⟩) else some (.normal,⟨[.any,.any,.any,.any,.any,.any,.any,.any,.any,.any,.any,.any,.any,.any,.any,.any,.any,.any,.any,.any,.any,.any,.any,.any,.any,.any,.any,.any,.any,.any],[],[],none⟩)) h (fun _=>rfl) (fun _=>rfl) ?_ ?_]
 ·first|rfl|simp only [List.drop_zero,List.take_zero,List.map_nil,Nat.zero_add,List.nil_append,List.foldl_nil]
 ·intro i rb hi ih
  have hi1:=i64_next hi hl;have F1:((i:Int)<(l.length:Int))=True:=eq_true (by omega)
  simp only [fn104_b0,eI,F1,index_nat hi,List.getElem?_map,List.getElem?_eq_getElem hi,memAll,vAll,reduceCtorEq,Nat.reduceEqDiff,Nat.reduceAdd,Nat.reduceLT,Nat.reduceLeDiff,Nat.beq]
  rw [List.drop_eq_getElem_cons hi]
  repeat' ((try simp only [bcase_bind,bcase_map,tail_bcase]);refine bcase_split (fun hb=>?_) (fun hb=>?_)<;>try simp only [hb,eI,index_nat hi,List.getElem?_map,List.getElem?_eq_getElem hi,memAll,vAll,reduceCtorEq,Nat.reduceEqDiff,Nat.reduceAdd,Nat.reduceLT,Nat.reduceLeDiff,Nat.beq])
  ·rfl
  ·rfl
  ·rw [ih _ (by simp only [hi1];rfl)]
 ·intro rb
  simp only [fn104_b0,Int.lt_irrefl,eI,memAll,vAll,reduceCtorEq,Nat.reduceEqDiff,Nat.reduceAdd,Nat.reduceLT,Nat.reduceLeDiff,Nat.beq]
  rw [List.drop_length]
  rfl
theorem cal104 {l:List Int} (hl:l.length≤lim):cal env 104 [.list 1 (l.map eI)]=some [(.int .i64 (sizesErr l),false)]:=by
 rw [cal_code env104 rfl];simp only [fn104];simp only [start,z_map_cons,z_map_nil,z_len_cons,z_len_nil,z_repl_zero,z_repl_succ,z_cons_app,z_nil_app,Nat.reduceAdd,Nat.reduceSub]
 simp only [eI,memAll,vAll,reduceCtorEq,Nat.reduceEqDiff,Nat.reduceAdd,Nat.reduceLT,Nat.reduceLeDiff,Nat.beq]
 repeat' ((try simp only [bcase_bind,bcase_map,tail_bcase]);refine bcase_split (fun hb=>?_) (fun hb=>?_)<;>try simp only [hb,eI,memAll,vAll,reduceCtorEq,Nat.reduceEqDiff,Nat.reduceAdd,Nat.reduceLT,Nat.reduceLeDiff,Nat.beq])
 ·grind [sizesErr]
 ·grind [sizesErr]
 ·rw [loop104 hl]
  rotate_left
  ·rfl
  ·by_cases h:l.any (fun n=>decide (n<1) || decide (n > 4096))=true
   ·simp only [h,vAll,reduceCtorEq,Nat.reduceEqDiff,Nat.reduceAdd,Nat.reduceLT,Nat.reduceLeDiff,Nat.beq]
    grind [sizesErr]
   ·simp only [h,vAll,reduceCtorEq,Nat.reduceEqDiff,Nat.reduceAdd,Nat.reduceLT,Nat.reduceLeDiff,Nat.beq]
    grind [sizesErr]
theorem loop59 {im:Img} (hl:im.length≤lim) {st:St} (h:st.head [0,3,4,18] st.boxes.length=some ⟨[.pv (.list 1 (im.map eSecs)),.any,.any,.row 1 ((im.take (0:Nat)).map fun v=>eI (v.length:Int)),.pv (.int .i64 (0:Nat)),.any,.any,.any,.any,.any,.any,.any,.any,.any,.any,.any,.any,.any,.any,.any],[],[],none⟩) :
  den env fn59_l1 st=some (.normal,⟨[.any,.any,.any,.row 1 (im.map fun v=>eI (v.length:Int)),.any,.any,.any,.any,.any,.any,.any,.any,.any,.any,.any,.any,.any,.any,.any,.any],[],[],none⟩):=by
 unfold fn59_l1
 refine clean_up (env:=env) (im.length) (fun i=>⟨[.pv (.list 1 (im.map eSecs)),.any,.any,.row 1 ((im.take i).map fun v=>eI (v.length:Int)),.pv (.int .i64 i),.any,.any,.any,.any,.any,.any,.any,.any,.any,.any,.any,.any,.any,.any,.any],[],[],none⟩) (fun i=>some (.normal,⟨[.any,.any,.any,.row 1 (im.map fun v=>eI (v.length:Int)),.any,.any,.any,.any,.any,.any,.any,.any,.any,.any,.any,.any,.any,.any,.any,.any],[],[],none⟩)) h (fun _=>rfl) (fun _=>rfl) ?_ ?_
 ·intro i rb hi ih
  have hi1:=i64_next hi hl
  have F1:((i:Int)<(im.length:Int))=True:=eq_true (by omega)
  have F2:((im.take i).length+1≤lim)=True:=eq_true (by rw [List.length_take];omega)
  simp only [fn59_b0,F1,F2,eSecs,index_nat hi,List.getElem?_map,List.getElem?_eq_getElem hi,memAll,vAll,reduceCtorEq,Nat.reduceEqDiff,Nat.reduceAdd,Nat.reduceLT,Nat.reduceLeDiff,Nat.beq]
  rw [ih _ (by simp only [hi1];rw [← take_map_succ _ hi];rfl)]
 ·intro rb
  simp only [fn59_b0,Int.lt_irrefl, memAll,vAll,reduceCtorEq,Nat.reduceEqDiff,Nat.reduceAdd,Nat.reduceLT,Nat.reduceLeDiff,Nat.beq]
  try rw [List.take_length]
  rfl
theorem cal59 {im:Img} (hl:im.length≤lim):cal env 59 [.list 1 (im.map eSecs)]=some [(.list 1 ((imSizes im).map eI),true)]:=by
 rw [cal_code env59 rfl];simp only [fn59];simp only [start,z_map_cons,z_map_nil,z_len_cons,z_len_nil,z_repl_zero,z_repl_succ,z_cons_app,z_nil_app,Nat.reduceAdd,Nat.reduceSub]
 simp only [ memAll,vAll,reduceCtorEq,Nat.reduceEqDiff,Nat.reduceAdd,Nat.reduceLT,Nat.reduceLeDiff,Nat.beq]
 rw [loop59 hl]
 rotate_left
 ·rfl
 ·simp only [ memAll,vAll,reduceCtorEq,Nat.reduceEqDiff,Nat.reduceAdd,Nat.reduceLT,Nat.reduceLeDiff,Nat.beq]
  simp [imSizes]
theorem cal101 {im:Img} (hl:im.length≤lim):cal env 101 [.list 1 (im.map eSecs)]=some [(.int .i64 (imCheck im),false)]:=by
 have h2:(imSizes im).length≤lim:=by simpa [imSizes] using hl
 have e1:=cal59 hl
 have e2:=cal104 h2
 rw [cal_code env101 rfl];simp only [fn101];simp only [start,z_map_cons,z_map_nil,z_len_cons,z_len_nil,z_repl_zero,z_repl_succ,z_cons_app,z_nil_app,Nat.reduceAdd,Nat.reduceSub]
 simp only [e1,e2,memAll,vAll,reduceCtorEq,Nat.reduceEqDiff,Nat.reduceAdd,Nat.reduceLT,Nat.reduceLeDiff,Nat.beq]
 rfl
def few7 (im:Img):Bool:=decide (im.length≤9)&&im.all fun v=>decide (v.length≤24)
theorem loop42 {im:Img} (hl:im.length≤lim) {st:St} (h:st.head [0,3] st.boxes.length=some ⟨[.pv (.list 1 (im.map eSecs)),.any,.any,.pv (.int .i64 (0:Nat)),.any,.any,.any,.any,.any,.any,.any,.any,.any,.any,.any,.any,.any,.any,.any],[],[],none⟩) :
  den env fn42_l1 st=if im.all (fun v=>decide (v.length≤24)) then some (.normal,⟨[.any,.any,.any,.any,.any,.any,.any,.any,.any,.any,.any,.any,.any,.any,.any,.any,.any,.any,.any],[],[],none⟩) else some (.ret,⟨[.any,.any,.pv (.bool false),.any,.any,.any,.any,.any,.any,.any,.any,.any,.any,.any,.any,.any,.any,.any,.any],[],[],none⟩):=by
 unfold fn42_l1
 rw [ clean_up (env:=env) (im.length) (fun i=>⟨[.pv (.list 1 (im.map eSecs)),.any,.any,.pv (.int .i64 i),.any,.any,.any,.any,.any,.any,.any,.any,.any,.any,.any,.any,.any,.any,.any],[],[],none⟩) (fun i=>if (im.drop i).all (fun v=>decide (v.length≤24)) then some (.normal,⟨[.any,.any,.any,.any,.any,.any,.any,.any,.any,.any,.any,.any,.any,.any,.any,.any,.any,.any,.any],[],[],none⟩) else some (.ret,⟨[.any,.any,.pv (.bool false),.any,.any,.any,.any,.any,.any,.any,.any,.any,.any,.any,.any,.any,.any,.any,.any],[],[],none⟩)) h (fun _=>rfl) (fun _=>rfl) ?_ ?_]
 ·first|rfl|simp only [List.drop_zero,List.take_zero,List.map_nil,Nat.zero_add,List.nil_append,List.foldl_nil]
 ·intro i rb hi ih
  have hi1:=i64_next hi hl
  have F1:((i:Int)<(im.length:Int))=True:=eq_true (by omega)
  simp only [fn42_b0,F1,eSecs,index_nat hi,List.getElem?_map,List.getElem?_eq_getElem hi,memAll,vAll,reduceCtorEq,Nat.reduceEqDiff,Nat.reduceAdd,Nat.reduceLT,Nat.reduceLeDiff,Nat.beq]
  rw [List.drop_eq_getElem_cons hi,List.all_cons]
  (try simp only [bcase_bind,bcase_map,tail_bcase]);refine bcase_split (fun hb=>?_) (fun hb=>?_)<;>try simp only [hb, memAll,vAll,reduceCtorEq,Nat.reduceEqDiff,Nat.reduceAdd,Nat.reduceLT,Nat.reduceLeDiff,Nat.beq]
  ·rw [decide_eq_false (by simp at hb;omega)];rfl
  ·rw [ih _ (by simp only [hi1];rfl),decide_eq_true (show im[i].length≤24 by simp at hb;omega),Bool.true_and]
 ·intro rb
  simp only [fn42_b0,Int.lt_irrefl, memAll,vAll,reduceCtorEq,Nat.reduceEqDiff,Nat.reduceAdd,Nat.reduceLT,Nat.reduceLeDiff,Nat.beq]
  rw [List.drop_length]
  rfl
theorem cal42 {im:Img}:cal env 42 [.list 1 (im.map eSecs)]=some [(.bool (few7 im),false)]:=by
 rw [cal_code env42 rfl];simp only [fn42];simp only [start,z_map_cons,z_map_nil,z_len_cons,z_len_nil,z_repl_zero,z_repl_succ,z_cons_app,z_nil_app,Nat.reduceAdd,Nat.reduceSub]
 simp only [ memAll,vAll,reduceCtorEq,Nat.reduceEqDiff,Nat.reduceAdd,Nat.reduceLT,Nat.reduceLeDiff,Nat.beq]
 (try simp only [bcase_bind,bcase_map,tail_bcase]);refine bcase_split (fun hb=>?_) (fun hb=>?_)<;>try simp only [hb, memAll,vAll,reduceCtorEq,Nat.reduceEqDiff,Nat.reduceAdd,Nat.reduceLT,Nat.reduceLeDiff,Nat.beq]
 ·simp at hb
  rw [few7,decide_eq_false (by omega)];rfl
 ·have hl:im.length≤9:=by simp at hb;omega
  rw [loop42 (im:=im) (by unfold lim;omega)]
  rotate_left
  ·rfl
  ·rw [few7,decide_eq_true hl,Bool.true_and]
   cases im.all (fun v=>decide (v.length≤24))<;>simp only [vAll,reduceCtorEq,Nat.reduceEqDiff,Nat.reduceAdd,Nat.reduceLT,Nat.reduceLeDiff,Nat.beq]
theorem getD_get {α:Type} {l:List α} {i:Nat} {d:α} (h:i<l.length):l.getD i d=l[i]:=by simp [List.getD_eq_getElem?_getD,List.getElem?_eq_getElem h]
theorem cal89 {im:Img} {w:Wrt} (hl:im.length≤lim) (hr:∀ v∈im,v.length≤lim) (hd:w.data.length≤lim):cal env 89 [.list 1 (im.map eSecs),eWr w]=some [(.int .i64 (fitsErr im w),false)]:=by
 obtain ⟨v,s,d⟩:=w
 simp only [eWr] at *
 by_cases h0:0≤v∧v<im.length
 ·have h1:=index_int (k:=.i64) h0.1 h0.2
  have h2:v.toNat<im.length:=by omega
  have h3:=List.getElem?_eq_getElem h2
  have h4:im[v.toNat].length≤lim:=hr _ (List.getElem_mem h2)
  have h5:IntKind.i64.wrap ((im[v.toNat].length:Int) - d.length)=im[v.toNat].length - d.length:=i64_fits (by unfold lim at *;omega)
  rw [cal_code env89 rfl];simp only [fn89];simp only [start,z_map_cons,z_map_nil,z_len_cons,z_len_nil,z_repl_zero,z_repl_succ,z_cons_app,z_nil_app,Nat.reduceAdd,Nat.reduceSub]
  simp only [h1,h3,h5,eSecs,List.getElem?_map,memAll,vAll,reduceCtorEq,Nat.reduceEqDiff,Nat.reduceAdd,Nat.reduceLT,Nat.reduceLeDiff,Nat.beq]
  repeat' ((try simp only [bcase_bind,bcase_map,tail_bcase]);refine bcase_split (fun hb=>?_) (fun hb=>?_)<;>try simp only [hb,h1,h3,h5,eSecs,List.getElem?_map,memAll,vAll,reduceCtorEq,Nat.reduceEqDiff,Nat.reduceAdd,Nat.reduceLT,Nat.reduceLeDiff,Nat.beq])
  all_goals clear h1 h3 h5
  all_goals simp only [fitsErr,getD_get h2,decide_eq_true_eq,decide_eq_false_iff_not,beq_iff_eq,beq_eq_false_iff_ne,ne_eq,ge_iff_le,gt_iff_lt,Bool.and_eq_true,Bool.or_eq_true,Bool.not_eq_true',Bool.not_eq_false'] at *
  all_goals ((repeat' split)<;>first|rfl|(exfalso;omega))
 ·rw [cal_code env89 rfl];simp only [fn89];simp only [start,z_map_cons,z_map_nil,z_len_cons,z_len_nil,z_repl_zero,z_repl_succ,z_cons_app,z_nil_app,Nat.reduceAdd,Nat.reduceSub]
  simp only [eSecs,List.getElem?_map,index_b,memAll,vAll,reduceCtorEq,Nat.reduceEqDiff,Nat.reduceAdd,Nat.reduceLT,Nat.reduceLeDiff,Nat.beq]
  repeat' ((try simp only [bcase_bind,bcase_map,tail_bcase]);refine bcase_split (fun hb=>?_) (fun hb=>?_)<;>try simp only [hb,eSecs,List.getElem?_map,index_b,memAll,vAll,reduceCtorEq,Nat.reduceEqDiff,Nat.reduceAdd,Nat.reduceLT,Nat.reduceLeDiff,Nat.beq])
  all_goals simp only [fitsErr,decide_eq_true_eq,decide_eq_false_iff_not,beq_iff_eq,beq_eq_false_iff_ne,ne_eq,ge_iff_le,gt_iff_lt,Bool.and_eq_true,Bool.or_eq_true,Bool.not_eq_true',Bool.not_eq_false'] at *
  all_goals ((repeat' split)<;>first|rfl|(exfalso;omega))
theorem cal134 {im:Img} {w:Wrt} (hl:im.length≤lim) (hr:∀ v∈im,v.length≤lim) (hd:w.data.length≤lim):cal env 134 [.list 1 ((imSizes im).map eI),eWr w]=some [(.int .i64 (fitsErr im w),false)]:=by
 obtain ⟨v,s,d⟩:=w
 simp only [eWr,imSizes,List.map_map] at *
 by_cases h0:0≤v∧v<im.length
 ·have h1:=index_int (k:=.i64) h0.1 h0.2
  have h2:v.toNat<im.length:=by omega
  have h3:=List.getElem?_eq_getElem h2
  have h4:im[v.toNat].length≤lim:=hr _ (List.getElem_mem h2)
  by_cases h6:0≤s∧s<im[v.toNat].length
  ·have h5:IntKind.i64.wrap ((im[v.toNat].length:Int) - s)=im[v.toNat].length - s:=i64_fits (by unfold lim at *;omega)
   rw [cal_code env134 rfl];simp only [fn134];simp only [start,z_map_cons,z_map_nil,z_len_cons,z_len_nil,z_repl_zero,z_repl_succ,z_cons_app,z_nil_app,Nat.reduceAdd,Nat.reduceSub]
   simp only [h1,h3,h5,eI,List.getElem?_map,Function.comp_apply,memAll,vAll,reduceCtorEq,Nat.reduceEqDiff,Nat.reduceAdd,Nat.reduceLT,Nat.reduceLeDiff,Nat.beq]
   repeat' ((try simp only [bcase_bind,bcase_map,tail_bcase]);refine bcase_split (fun hb=>?_) (fun hb=>?_)<;>try simp only [hb,h1,h3,h5,eI,List.getElem?_map,Function.comp_apply,memAll,vAll,reduceCtorEq,Nat.reduceEqDiff,Nat.reduceAdd,Nat.reduceLT,Nat.reduceLeDiff,Nat.beq])
   all_goals clear h1 h3 h5
   all_goals simp only [fitsErr,getD_get h2,decide_eq_true_eq,decide_eq_false_iff_not,beq_iff_eq,beq_eq_false_iff_ne,ne_eq,ge_iff_le,gt_iff_lt,Bool.and_eq_true,Bool.or_eq_true,Bool.not_eq_true',Bool.not_eq_false'] at *
   all_goals ((repeat' split)<;>first|rfl|(exfalso;omega))
  ·--
   rw [cal_code env134 rfl];simp only [fn134];simp only [start,z_map_cons,z_map_nil,z_len_cons,z_len_nil,z_repl_zero,z_repl_succ,z_cons_app,z_nil_app,Nat.reduceAdd,Nat.reduceSub]
   simp only [h1,h3,eI,List.getElem?_map,Function.comp_apply,memAll,vAll,reduceCtorEq,Nat.reduceEqDiff,Nat.reduceAdd,Nat.reduceLT,Nat.reduceLeDiff,Nat.beq]
   repeat' ((try simp only [bcase_bind,bcase_map,tail_bcase]);refine bcase_split (fun hb=>?_) (fun hb=>?_)<;>try simp only [hb,h1,h3,eI,List.getElem?_map,Function.comp_apply,memAll,vAll,reduceCtorEq,Nat.reduceEqDiff,Nat.reduceAdd,Nat.reduceLT,Nat.reduceLeDiff,Nat.beq])
   all_goals clear h1 h3
   all_goals simp only [fitsErr,getD_get h2,decide_eq_true_eq,decide_eq_false_iff_not,beq_iff_eq,beq_eq_false_iff_ne,ne_eq,ge_iff_le,gt_iff_lt,Bool.and_eq_true,Bool.or_eq_true,Bool.not_eq_true',Bool.not_eq_false'] at *
   all_goals first|(exfalso;omega)|((repeat' split)<;>first|rfl|(exfalso;omega))
 ·rw [cal_code env134 rfl];simp only [fn134];simp only [start,z_map_cons,z_map_nil,z_len_cons,z_len_nil,z_repl_zero,z_repl_succ,z_cons_app,z_nil_app,Nat.reduceAdd,Nat.reduceSub]
  simp only [eI,List.getElem?_map,index_b,Function.comp_apply,memAll,vAll,reduceCtorEq,Nat.reduceEqDiff,Nat.reduceAdd,Nat.reduceLT,Nat.reduceLeDiff,Nat.beq]
  repeat' ((try simp only [bcase_bind,bcase_map,tail_bcase]);refine bcase_split (fun hb=>?_) (fun hb=>?_)<;>try simp only [hb,eI,List.getElem?_map,index_b,Function.comp_apply,memAll,vAll,reduceCtorEq,Nat.reduceEqDiff,Nat.reduceAdd,Nat.reduceLT,Nat.reduceLeDiff,Nat.beq])
  all_goals simp only [fitsErr,decide_eq_true_eq,decide_eq_false_iff_not,beq_iff_eq,beq_eq_false_iff_ne,ne_eq,ge_iff_le,gt_iff_lt,Bool.and_eq_true,Bool.or_eq_true,Bool.not_eq_true',Bool.not_eq_false'] at *
  all_goals first|(exfalso;omega)|((repeat' split)<;>first|rfl|(exfalso;omega))
theorem cal133 {im:Img} {w:Wrt} (hl:im.length≤lim) (hr:∀ v∈im,v.length≤lim) (hd:w.data.length≤lim):cal env 133 [.list 1 (im.map eSecs),eWr w]=some [(.int .i64 (imFits im w),false)]:=by
 have e1:=cal85 hl
 have e2:=cal89 (w:=w) hl hr hd
 simp only [eWr] at *
 rw [cal_code env133 rfl];simp only [fn133];simp only [start,z_map_cons,z_map_nil,z_len_cons,z_len_nil,z_repl_zero,z_repl_succ,z_cons_app,z_nil_app,Nat.reduceAdd,Nat.reduceSub]
 simp only [e1,e2,memAll,vAll,reduceCtorEq,Nat.reduceEqDiff,Nat.reduceAdd,Nat.reduceLT,Nat.reduceLeDiff,Nat.beq]
 repeat' ((try simp only [bcase_bind,bcase_map,tail_bcase]);refine bcase_split (fun hb=>?_) (fun hb=>?_)<;>try simp only [hb,e1,e2,memAll,vAll,reduceCtorEq,Nat.reduceEqDiff,Nat.reduceAdd,Nat.reduceLT,Nat.reduceLeDiff,Nat.beq])
 all_goals simp only [imFits,decide_eq_true_eq,decide_eq_false_iff_not,beq_iff_eq,beq_eq_false_iff_ne,ne_eq,ge_iff_le,gt_iff_lt,Bool.and_eq_true,Bool.or_eq_true,Bool.not_eq_true',Bool.not_eq_false'] at *
 all_goals ((repeat' split)<;>first|rfl|(exfalso;omega))
end Go.Proofs.YtioijcfcehhmdaaGreatDoor.V
