/-
  Part 6 of the texts that the statement stands on.
-/
import Derived.Test.YtioijcfcehhmdaaGreatDoorZ5
import Derived.Test.YtioijcfcehhmdaaGreatDoorProg
import Derived.Shelf.SlSortCmp.WholeK
import Derived.Shelf.SlSortCmp.NoneTotal
import Derived.Shelf.SlicesG.Cmp
import Derived.Shelf.Small.Bits
import Derived.Ground.SlsfProg
import Derived.Ground.SlgcProg
import Derived.Ground.NamesProg
set_option linter.all false
namespace Go.Proofs.YtioijcfcehhmdaaGreatDoor.V
theorem aw0:cal env 43 [(.int .i64 0),(.int .u8 1)]=some [((.agg [(.int .i64 0),(.int .i64 0),(.list 8 [(.agg [(.int .u8 1),(.int .u8 0),(.int .u8 0),(.int .u8 0),(.int .u8 0),(.int .u8 0),(.int .u8 0),(.int .u8 0)])])]),false)]:=cal_of_vmCall (n:=400) (by kernel_rfl)
theorem aw1:cal env 39 [(.list 1 [(.int .i64 3)]),(.list 3 [(.agg [(.int .i64 0),(.int .i64 0),(.list 8 [(.agg [(.int .u8 1),(.int .u8 0),(.int .u8 0),(.int .u8 0),(.int .u8 0),(.int .u8 0),(.int .u8 0),(.int .u8 0)])])])])]=some [((.list 2 [(.agg [(.int .i64 3),(.list 1 [(.int .u64 1)])])]),true),((.bool true),false)]:=cal_of_vmCall (n:=400) (by kernel_rfl)
theorem aw2:cal env 43 [(.int .i64 2),(.int .u8 2)]=some [((.agg [(.int .i64 0),(.int .i64 2),(.list 8 [(.agg [(.int .u8 2),(.int .u8 0),(.int .u8 0),(.int .u8 0),(.int .u8 0),(.int .u8 0),(.int .u8 0),(.int .u8 0)])])]),false)]:=cal_of_vmCall (n:=400) (by kernel_rfl)
theorem aw3:cal env 39 [(.list 1 [(.int .i64 3)]),(.list 3 [(.agg [(.int .i64 0),(.int .i64 2),(.list 8 [(.agg [(.int .u8 2),(.int .u8 0),(.int .u8 0),(.int .u8 0),(.int .u8 0),(.int .u8 0),(.int .u8 0),(.int .u8 0)])])])])]=some [((.list 2 [(.agg [(.int .i64 3),(.list 1 [(.int .u64 4)])])]),true),((.bool true),false)]:=cal_of_vmCall (n:=400) (by kernel_rfl)
theorem aw4:cal env 39 [(.list 1 [(.int .i64 3)]),(.list 3 [(.agg [(.int .i64 0),(.int .i64 0),(.list 8 [(.agg [(.int .u8 1),(.int .u8 0),(.int .u8 0),(.int .u8 0),(.int .u8 0),(.int .u8 0),(.int .u8 0),(.int .u8 0)])])]),(.agg [(.int .i64 0),(.int .i64 2),(.list 8 [(.agg [(.int .u8 2),(.int .u8 0),(.int .u8 0),(.int .u8 0),(.int .u8 0),(.int .u8 0),(.int .u8 0),(.int .u8 0)])])])])]=some [((.list 2 [(.agg [(.int .i64 3),(.list 1 [(.int .u64 5)])])]),true),((.bool true),false)]:=cal_of_vmCall (n:=400) (by kernel_rfl)
theorem aw5:cal env 43 [(.int .i64 1),(.int .u8 3)]=some [((.agg [(.int .i64 0),(.int .i64 1),(.list 8 [(.agg [(.int .u8 3),(.int .u8 0),(.int .u8 0),(.int .u8 0),(.int .u8 0),(.int .u8 0),(.int .u8 0),(.int .u8 0)])])]),false)]:=cal_of_vmCall (n:=400) (by kernel_rfl)
theorem aw6:cal env 39 [(.list 1 [(.int .i64 3)]),(.list 3 [(.agg [(.int .i64 0),(.int .i64 1),(.list 8 [(.agg [(.int .u8 3),(.int .u8 0),(.int .u8 0),(.int .u8 0),(.int .u8 0),(.int .u8 0),(.int .u8 0),(.int .u8 0)])])])])]=some [((.list 2 [(.agg [(.int .i64 3),(.list 1 [(.int .u64 2)])])]),true),((.bool true),false)]:=cal_of_vmCall (n:=400) (by kernel_rfl)
theorem aw7:cal env 44 [(.list 1 [(.list 8 [(.agg [(.int .u8 1),(.int .u8 0),(.int .u8 0),(.int .u8 0),(.int .u8 0),(.int .u8 0),(.int .u8 0),(.int .u8 0)]),(.agg [(.int .u8 0),(.int .u8 0),(.int .u8 0),(.int .u8 0),(.int .u8 0),(.int .u8 0),(.int .u8 0),(.int .u8 0)]),(.agg [(.int .u8 0),(.int .u8 0),(.int .u8 0),(.int .u8 0),(.int .u8 0),(.int .u8 0),(.int .u8 0),(.int .u8 0)])])]),(.list 2 [(.agg [(.int .i64 3),(.list 1 [(.int .u64 1)])])])]=some [((.agg [(.int .i64 0),(.list 3 [(.agg [(.int .i64 1),(.int .i64 1),(.int .i64 7)])]),(.list 2 [(.agg [(.int .i64 3),(.list 1 [(.int .u64 1)])])]),(.list 1 [(.list 8 [(.agg [(.int .u8 1),(.int .u8 0),(.int .u8 0),(.int .u8 0),(.int .u8 0),(.int .u8 0),(.int .u8 0),(.int .u8 0)]),(.agg [(.int .u8 0),(.int .u8 0),(.int .u8 0),(.int .u8 0),(.int .u8 0),(.int .u8 0),(.int .u8 0),(.int .u8 0)]),(.agg [(.int .u8 0),(.int .u8 0),(.int .u8 0),(.int .u8 0),(.int .u8 0),(.int .u8 0),(.int .u8 0),(.int .u8 0)])])])]),false)]:=cal_of_vmCall (n:=400) (by kernel_rfl)
theorem aw8:cal env 45 [(.list 1 [(.list 8 [(.agg [(.int .u8 0),(.int .u8 0),(.int .u8 0),(.int .u8 0),(.int .u8 0),(.int .u8 0),(.int .u8 0),(.int .u8 0)]),(.agg [(.int .u8 0),(.int .u8 0),(.int .u8 0),(.int .u8 0),(.int .u8 0),(.int .u8 0),(.int .u8 0),(.int .u8 0)]),(.agg [(.int .u8 2),(.int .u8 0),(.int .u8 0),(.int .u8 0),(.int .u8 0),(.int .u8 0),(.int .u8 0),(.int .u8 0)])])]),(.list 2 [(.agg [(.int .i64 3),(.list 1 [(.int .u64 4)])])])]=some [((.agg [(.int .i64 1),(.list 3 [(.agg [(.int .i64 1),(.int .i64 1),(.int .i64 5)]),(.agg [(.int .i64 2),(.int .i64 6),(.int .i64 9)])]),(.list 2 [(.agg [(.int .i64 3),(.list 1 [(.int .u64 4)])])]),(.list 1 [(.list 8 [(.agg [(.int .u8 0),(.int .u8 0),(.int .u8 0),(.int .u8 0),(.int .u8 0),(.int .u8 0),(.int .u8 0),(.int .u8 0)]),(.agg [(.int .u8 0),(.int .u8 0),(.int .u8 0),(.int .u8 0),(.int .u8 0),(.int .u8 0),(.int .u8 0),(.int .u8 0)]),(.agg [(.int .u8 2),(.int .u8 0),(.int .u8 0),(.int .u8 0),(.int .u8 0),(.int .u8 0),(.int .u8 0),(.int .u8 0)])])])]),false)]:=cal_of_vmCall (n:=400) (by kernel_rfl)
theorem aw9:cal env 24 [(.agg [(.int .i64 0),(.list 3 [(.agg [(.int .i64 1),(.int .i64 1),(.int .i64 7)])]),(.list 2 [(.agg [(.int .i64 3),(.list 1 [(.int .u64 1)])])]),(.list 1 [(.list 8 [(.agg [(.int .u8 1),(.int .u8 0),(.int .u8 0),(.int .u8 0),(.int .u8 0),(.int .u8 0),(.int .u8 0),(.int .u8 0)]),(.agg [(.int .u8 0),(.int .u8 0),(.int .u8 0),(.int .u8 0),(.int .u8 0),(.int .u8 0),(.int .u8 0),(.int .u8 0)]),(.agg [(.int .u8 0),(.int .u8 0),(.int .u8 0),(.int .u8 0),(.int .u8 0),(.int .u8 0),(.int .u8 0),(.int .u8 0)])])])]),(.agg [(.int .i64 1),(.list 3 [(.agg [(.int .i64 1),(.int .i64 1),(.int .i64 5)]),(.agg [(.int .i64 2),(.int .i64 6),(.int .i64 9)])]),(.list 2 [(.agg [(.int .i64 3),(.list 1 [(.int .u64 4)])])]),(.list 1 [(.list 8 [(.agg [(.int .u8 0),(.int .u8 0),(.int .u8 0),(.int .u8 0),(.int .u8 0),(.int .u8 0),(.int .u8 0),(.int .u8 0)]),(.agg [(.int .u8 0),(.int .u8 0),(.int .u8 0),(.int .u8 0),(.int .u8 0),(.int .u8 0),(.int .u8 0),(.int .u8 0)]),(.agg [(.int .u8 2),(.int .u8 0),(.int .u8 0),(.int .u8 0),(.int .u8 0),(.int .u8 0),(.int .u8 0),(.int .u8 0)])])])]),(.int .i64 3)]=some [((.agg [(.int .i64 3),(.int .i64 1),(.int .i64 0),(.int .i64 0),(.int .i64 3),(.int .i64 5),(.bool false),(.bool false)]),false),((.list 1 [(.list 2 [(.agg [(.int .i64 0),(.int .i64 1)]),(.agg [(.int .i64 2),(.int .i64 1)])])]),false),((.int .i64 0),false)]:=cal_of_vmCall (n:=400) (by kernel_rfl)
theorem aw10:cal env 27 [(.list 1 [(.list 2 [(.agg [(.int .i64 0),(.int .i64 1)]),(.agg [(.int .i64 2),(.int .i64 1)])])]),(.list 1 [(.list 2 [(.agg [(.int .i64 0),(.int .i64 1)]),(.agg [(.int .i64 2),(.int .i64 1)])])])]=some [((.bool true),false)]:=cal_of_vmCall (n:=400) (by kernel_rfl)
theorem aw11:cal env 45 [(.list 1 [(.list 8 [(.agg [(.int .u8 0),(.int .u8 0),(.int .u8 0),(.int .u8 0),(.int .u8 0),(.int .u8 0),(.int .u8 0),(.int .u8 0)]),(.agg [(.int .u8 0),(.int .u8 0),(.int .u8 0),(.int .u8 0),(.int .u8 0),(.int .u8 0),(.int .u8 0),(.int .u8 0)]),(.agg [(.int .u8 2),(.int .u8 0),(.int .u8 0),(.int .u8 0),(.int .u8 0),(.int .u8 0),(.int .u8 0),(.int .u8 0)])])]),(.list 2 [(.agg [(.int .i64 3),(.list 1 [(.int .u64 5)])])])]=some [((.agg [(.int .i64 1),(.list 3 [(.agg [(.int .i64 1),(.int .i64 1),(.int .i64 5)]),(.agg [(.int .i64 2),(.int .i64 6),(.int .i64 9)])]),(.list 2 [(.agg [(.int .i64 3),(.list 1 [(.int .u64 5)])])]),(.list 1 [(.list 8 [(.agg [(.int .u8 0),(.int .u8 0),(.int .u8 0),(.int .u8 0),(.int .u8 0),(.int .u8 0),(.int .u8 0),(.int .u8 0)]),(.agg [(.int .u8 0),(.int .u8 0),(.int .u8 0),(.int .u8 0),(.int .u8 0),(.int .u8 0),(.int .u8 0),(.int .u8 0)]),(.agg [(.int .u8 2),(.int .u8 0),(.int .u8 0),(.int .u8 0),(.int .u8 0),(.int .u8 0),(.int .u8 0),(.int .u8 0)])])])]),false)]:=cal_of_vmCall (n:=400) (by kernel_rfl)
theorem aw12:cal env 12 [(.agg [(.int .i64 3),(.int .i64 1),(.int .i64 0),(.int .i64 0),(.int .i64 3),(.int .i64 5),(.bool false),(.bool false)]),(.agg [(.int .i64 1),(.list 3 [(.agg [(.int .i64 1),(.int .i64 1),(.int .i64 5)]),(.agg [(.int .i64 2),(.int .i64 6),(.int .i64 9)])]),(.list 2 [(.agg [(.int .i64 3),(.list 1 [(.int .u64 5)])])]),(.list 1 [(.list 8 [(.agg [(.int .u8 0),(.int .u8 0),(.int .u8 0),(.int .u8 0),(.int .u8 0),(.int .u8 0),(.int .u8 0),(.int .u8 0)]),(.agg [(.int .u8 0),(.int .u8 0),(.int .u8 0),(.int .u8 0),(.int .u8 0),(.int .u8 0),(.int .u8 0),(.int .u8 0)]),(.agg [(.int .u8 2),(.int .u8 0),(.int .u8 0),(.int .u8 0),(.int .u8 0),(.int .u8 0),(.int .u8 0),(.int .u8 0)])])])]),(.int .i64 10),(.int .i64 0)]=some [((.agg [(.int .i64 3),(.int .i64 1),(.int .i64 0),(.int .i64 1),(.int .i64 3),(.int .i64 10),(.bool false),(.bool false)]),false),((.agg [(.int .i64 5),(.int .i64 10),(.int .i64 0),(.list 1 []),(.list 3 [(.agg [(.int .i64 0),(.int .i64 0),(.list 8 [(.agg [(.int .u8 0),(.int .u8 0),(.int .u8 0),(.int .u8 0),(.int .u8 0),(.int .u8 0),(.int .u8 0),(.int .u8 0)])])]),(.agg [(.int .i64 0),(.int .i64 2),(.list 8 [(.agg [(.int .u8 2),(.int .u8 0),(.int .u8 0),(.int .u8 0),(.int .u8 0),(.int .u8 0),(.int .u8 0),(.int .u8 0)])])])])]),false),((.int .i64 0),false)]:=cal_of_vmCall (n:=400) (by kernel_rfl)
theorem aw13:cal env 36 [(.list 1 [(.list 8 [(.agg [(.int .u8 1),(.int .u8 0),(.int .u8 0),(.int .u8 0),(.int .u8 0),(.int .u8 0),(.int .u8 0),(.int .u8 0)]),(.agg [(.int .u8 0),(.int .u8 0),(.int .u8 0),(.int .u8 0),(.int .u8 0),(.int .u8 0),(.int .u8 0),(.int .u8 0)]),(.agg [(.int .u8 0),(.int .u8 0),(.int .u8 0),(.int .u8 0),(.int .u8 0),(.int .u8 0),(.int .u8 0),(.int .u8 0)])])]),(.agg [(.int .i64 5),(.int .i64 10),(.int .i64 0),(.list 1 []),(.list 3 [(.agg [(.int .i64 0),(.int .i64 0),(.list 8 [(.agg [(.int .u8 0),(.int .u8 0),(.int .u8 0),(.int .u8 0),(.int .u8 0),(.int .u8 0),(.int .u8 0),(.int .u8 0)])])]),(.agg [(.int .i64 0),(.int .i64 2),(.list 8 [(.agg [(.int .u8 2),(.int .u8 0),(.int .u8 0),(.int .u8 0),(.int .u8 0),(.int .u8 0),(.int .u8 0),(.int .u8 0)])])])])])]=some [((.list 1 [(.list 8 [(.agg [(.int .u8 0),(.int .u8 0),(.int .u8 0),(.int .u8 0),(.int .u8 0),(.int .u8 0),(.int .u8 0),(.int .u8 0)]),(.agg [(.int .u8 0),(.int .u8 0),(.int .u8 0),(.int .u8 0),(.int .u8 0),(.int .u8 0),(.int .u8 0),(.int .u8 0)]),(.agg [(.int .u8 2),(.int .u8 0),(.int .u8 0),(.int .u8 0),(.int .u8 0),(.int .u8 0),(.int .u8 0),(.int .u8 0)])])]),false),((.int .i64 0),false)]:=cal_of_vmCall (n:=400) (by kernel_rfl)
theorem aw14:cal env 44 [(.list 1 [(.list 8 [(.agg [(.int .u8 0),(.int .u8 0),(.int .u8 0),(.int .u8 0),(.int .u8 0),(.int .u8 0),(.int .u8 0),(.int .u8 0)]),(.agg [(.int .u8 0),(.int .u8 0),(.int .u8 0),(.int .u8 0),(.int .u8 0),(.int .u8 0),(.int .u8 0),(.int .u8 0)]),(.agg [(.int .u8 2),(.int .u8 0),(.int .u8 0),(.int .u8 0),(.int .u8 0),(.int .u8 0),(.int .u8 0),(.int .u8 0)])])]),(.list 2 [(.agg [(.int .i64 3),(.list 1 [(.int .u64 1)])])])]=some [((.agg [(.int .i64 0),(.list 3 [(.agg [(.int .i64 1),(.int .i64 1),(.int .i64 7)])]),(.list 2 [(.agg [(.int .i64 3),(.list 1 [(.int .u64 1)])])]),(.list 1 [(.list 8 [(.agg [(.int .u8 0),(.int .u8 0),(.int .u8 0),(.int .u8 0),(.int .u8 0),(.int .u8 0),(.int .u8 0),(.int .u8 0)]),(.agg [(.int .u8 0),(.int .u8 0),(.int .u8 0),(.int .u8 0),(.int .u8 0),(.int .u8 0),(.int .u8 0),(.int .u8 0)]),(.agg [(.int .u8 2),(.int .u8 0),(.int .u8 0),(.int .u8 0),(.int .u8 0),(.int .u8 0),(.int .u8 0),(.int .u8 0)])])])]),false)]:=cal_of_vmCall (n:=400) (by kernel_rfl)
theorem aw15:cal env 45 [(.list 1 [(.list 8 [(.agg [(.int .u8 0),(.int .u8 0),(.int .u8 0),(.int .u8 0),(.int .u8 0),(.int .u8 0),(.int .u8 0),(.int .u8 0)]),(.agg [(.int .u8 3),(.int .u8 0),(.int .u8 0),(.int .u8 0),(.int .u8 0),(.int .u8 0),(.int .u8 0),(.int .u8 0)]),(.agg [(.int .u8 2),(.int .u8 0),(.int .u8 0),(.int .u8 0),(.int .u8 0),(.int .u8 0),(.int .u8 0),(.int .u8 0)])])]),(.list 2 [(.agg [(.int .i64 3),(.list 1 [(.int .u64 2)])])])]=some [((.agg [(.int .i64 1),(.list 3 [(.agg [(.int .i64 1),(.int .i64 1),(.int .i64 5)]),(.agg [(.int .i64 2),(.int .i64 6),(.int .i64 9)])]),(.list 2 [(.agg [(.int .i64 3),(.list 1 [(.int .u64 2)])])]),(.list 1 [(.list 8 [(.agg [(.int .u8 0),(.int .u8 0),(.int .u8 0),(.int .u8 0),(.int .u8 0),(.int .u8 0),(.int .u8 0),(.int .u8 0)]),(.agg [(.int .u8 3),(.int .u8 0),(.int .u8 0),(.int .u8 0),(.int .u8 0),(.int .u8 0),(.int .u8 0),(.int .u8 0)]),(.agg [(.int .u8 2),(.int .u8 0),(.int .u8 0),(.int .u8 0),(.int .u8 0),(.int .u8 0),(.int .u8 0),(.int .u8 0)])])])]),false)]:=cal_of_vmCall (n:=400) (by kernel_rfl)
theorem aw16:cal env 15 [(.agg [(.int .i64 3),(.int .i64 1),(.int .i64 0),(.int .i64 1),(.int .i64 3),(.int .i64 10),(.bool false),(.bool false)]),(.agg [(.int .i64 0),(.list 3 [(.agg [(.int .i64 1),(.int .i64 1),(.int .i64 7)])]),(.list 2 [(.agg [(.int .i64 3),(.list 1 [(.int .u64 1)])])]),(.list 1 [(.list 8 [(.agg [(.int .u8 0),(.int .u8 0),(.int .u8 0),(.int .u8 0),(.int .u8 0),(.int .u8 0),(.int .u8 0),(.int .u8 0)]),(.agg [(.int .u8 0),(.int .u8 0),(.int .u8 0),(.int .u8 0),(.int .u8 0),(.int .u8 0),(.int .u8 0),(.int .u8 0)]),(.agg [(.int .u8 2),(.int .u8 0),(.int .u8 0),(.int .u8 0),(.int .u8 0),(.int .u8 0),(.int .u8 0),(.int .u8 0)])])])]),(.agg [(.int .i64 1),(.list 3 [(.agg [(.int .i64 1),(.int .i64 1),(.int .i64 5)]),(.agg [(.int .i64 2),(.int .i64 6),(.int .i64 9)])]),(.list 2 [(.agg [(.int .i64 3),(.list 1 [(.int .u64 2)])])]),(.list 1 [(.list 8 [(.agg [(.int .u8 0),(.int .u8 0),(.int .u8 0),(.int .u8 0),(.int .u8 0),(.int .u8 0),(.int .u8 0),(.int .u8 0)]),(.agg [(.int .u8 3),(.int .u8 0),(.int .u8 0),(.int .u8 0),(.int .u8 0),(.int .u8 0),(.int .u8 0),(.int .u8 0)]),(.agg [(.int .u8 2),(.int .u8 0),(.int .u8 0),(.int .u8 0),(.int .u8 0),(.int .u8 0),(.int .u8 0),(.int .u8 0)])])])])]=some [((.agg [(.int .i64 0),(.int .i64 0),(.int .i64 0),(.int .i64 0),(.int .i64 0),(.int .i64 0),(.bool false),(.bool false)]),false),((.int .i64 22),false)]:=cal_of_vmCall (n:=400) (by kernel_rfl)
theorem aw17:cal env 12 [(.agg [(.int .i64 3),(.int .i64 1),(.int .i64 0),(.int .i64 1),(.int .i64 3),(.int .i64 10),(.bool false),(.bool false)]),(.agg [(.int .i64 1),(.list 3 [(.agg [(.int .i64 1),(.int .i64 1),(.int .i64 5)]),(.agg [(.int .i64 2),(.int .i64 6),(.int .i64 9)])]),(.list 2 [(.agg [(.int .i64 3),(.list 1 [(.int .u64 2)])])]),(.list 1 [(.list 8 [(.agg [(.int .u8 0),(.int .u8 0),(.int .u8 0),(.int .u8 0),(.int .u8 0),(.int .u8 0),(.int .u8 0),(.int .u8 0)]),(.agg [(.int .u8 3),(.int .u8 0),(.int .u8 0),(.int .u8 0),(.int .u8 0),(.int .u8 0),(.int .u8 0),(.int .u8 0)]),(.agg [(.int .u8 2),(.int .u8 0),(.int .u8 0),(.int .u8 0),(.int .u8 0),(.int .u8 0),(.int .u8 0),(.int .u8 0)])])])]),(.int .i64 11),(.int .i64 0)]=some [((.agg [(.int .i64 3),(.int .i64 1),(.int .i64 0),(.int .i64 2),(.int .i64 3),(.int .i64 11),(.bool false),(.bool false)]),false),((.agg [(.int .i64 10),(.int .i64 11),(.int .i64 0),(.list 1 []),(.list 3 [(.agg [(.int .i64 0),(.int .i64 1),(.list 8 [(.agg [(.int .u8 3),(.int .u8 0),(.int .u8 0),(.int .u8 0),(.int .u8 0),(.int .u8 0),(.int .u8 0),(.int .u8 0)])])])])]),false),((.int .i64 0),false)]:=cal_of_vmCall (n:=400) (by kernel_rfl)
theorem aw18:cal env 36 [(.list 1 [(.list 8 [(.agg [(.int .u8 0),(.int .u8 0),(.int .u8 0),(.int .u8 0),(.int .u8 0),(.int .u8 0),(.int .u8 0),(.int .u8 0)]),(.agg [(.int .u8 0),(.int .u8 0),(.int .u8 0),(.int .u8 0),(.int .u8 0),(.int .u8 0),(.int .u8 0),(.int .u8 0)]),(.agg [(.int .u8 2),(.int .u8 0),(.int .u8 0),(.int .u8 0),(.int .u8 0),(.int .u8 0),(.int .u8 0),(.int .u8 0)])])]),(.agg [(.int .i64 10),(.int .i64 11),(.int .i64 0),(.list 1 []),(.list 3 [(.agg [(.int .i64 0),(.int .i64 1),(.list 8 [(.agg [(.int .u8 3),(.int .u8 0),(.int .u8 0),(.int .u8 0),(.int .u8 0),(.int .u8 0),(.int .u8 0),(.int .u8 0)])])])])])]=some [((.list 1 [(.list 8 [(.agg [(.int .u8 0),(.int .u8 0),(.int .u8 0),(.int .u8 0),(.int .u8 0),(.int .u8 0),(.int .u8 0),(.int .u8 0)]),(.agg [(.int .u8 3),(.int .u8 0),(.int .u8 0),(.int .u8 0),(.int .u8 0),(.int .u8 0),(.int .u8 0),(.int .u8 0)]),(.agg [(.int .u8 2),(.int .u8 0),(.int .u8 0),(.int .u8 0),(.int .u8 0),(.int .u8 0),(.int .u8 0),(.int .u8 0)])])]),false),((.int .i64 0),false)]:=cal_of_vmCall (n:=400) (by kernel_rfl)
theorem aw19:cal env 44 [(.list 1 [(.list 8 [(.agg [(.int .u8 0),(.int .u8 0),(.int .u8 0),(.int .u8 0),(.int .u8 0),(.int .u8 0),(.int .u8 0),(.int .u8 0)]),(.agg [(.int .u8 3),(.int .u8 0),(.int .u8 0),(.int .u8 0),(.int .u8 0),(.int .u8 0),(.int .u8 0),(.int .u8 0)]),(.agg [(.int .u8 2),(.int .u8 0),(.int .u8 0),(.int .u8 0),(.int .u8 0),(.int .u8 0),(.int .u8 0),(.int .u8 0)])])]),(.list 2 [(.agg [(.int .i64 3),(.list 1 [(.int .u64 1)])])])]=some [((.agg [(.int .i64 0),(.list 3 [(.agg [(.int .i64 1),(.int .i64 1),(.int .i64 7)])]),(.list 2 [(.agg [(.int .i64 3),(.list 1 [(.int .u64 1)])])]),(.list 1 [(.list 8 [(.agg [(.int .u8 0),(.int .u8 0),(.int .u8 0),(.int .u8 0),(.int .u8 0),(.int .u8 0),(.int .u8 0),(.int .u8 0)]),(.agg [(.int .u8 3),(.int .u8 0),(.int .u8 0),(.int .u8 0),(.int .u8 0),(.int .u8 0),(.int .u8 0),(.int .u8 0)]),(.agg [(.int .u8 2),(.int .u8 0),(.int .u8 0),(.int .u8 0),(.int .u8 0),(.int .u8 0),(.int .u8 0),(.int .u8 0)])])])]),false)]:=cal_of_vmCall (n:=400) (by kernel_rfl)
theorem aw20:cal env 15 [(.agg [(.int .i64 3),(.int .i64 1),(.int .i64 0),(.int .i64 2),(.int .i64 3),(.int .i64 11),(.bool false),(.bool false)]),(.agg [(.int .i64 0),(.list 3 [(.agg [(.int .i64 1),(.int .i64 1),(.int .i64 7)])]),(.list 2 [(.agg [(.int .i64 3),(.list 1 [(.int .u64 1)])])]),(.list 1 [(.list 8 [(.agg [(.int .u8 0),(.int .u8 0),(.int .u8 0),(.int .u8 0),(.int .u8 0),(.int .u8 0),(.int .u8 0),(.int .u8 0)]),(.agg [(.int .u8 3),(.int .u8 0),(.int .u8 0),(.int .u8 0),(.int .u8 0),(.int .u8 0),(.int .u8 0),(.int .u8 0)]),(.agg [(.int .u8 2),(.int .u8 0),(.int .u8 0),(.int .u8 0),(.int .u8 0),(.int .u8 0),(.int .u8 0),(.int .u8 0)])])])]),(.agg [(.int .i64 1),(.list 3 [(.agg [(.int .i64 1),(.int .i64 1),(.int .i64 5)]),(.agg [(.int .i64 2),(.int .i64 6),(.int .i64 9)])]),(.list 2 [(.agg [(.int .i64 3),(.list 1 [(.int .u64 2)])])]),(.list 1 [(.list 8 [(.agg [(.int .u8 0),(.int .u8 0),(.int .u8 0),(.int .u8 0),(.int .u8 0),(.int .u8 0),(.int .u8 0),(.int .u8 0)]),(.agg [(.int .u8 3),(.int .u8 0),(.int .u8 0),(.int .u8 0),(.int .u8 0),(.int .u8 0),(.int .u8 0),(.int .u8 0)]),(.agg [(.int .u8 2),(.int .u8 0),(.int .u8 0),(.int .u8 0),(.int .u8 0),(.int .u8 0),(.int .u8 0),(.int .u8 0)])])])])]=some [((.agg [(.int .i64 3),(.int .i64 1),(.int .i64 0),(.int .i64 2),(.int .i64 3),(.int .i64 11),(.bool true),(.bool false)]),false),((.int .i64 0),false)]:=cal_of_vmCall (n:=400) (by kernel_rfl)
theorem aw21:cal env 17 [(.list 1 [(.list 8 [(.agg [(.int .u8 1),(.int .u8 0),(.int .u8 0),(.int .u8 0),(.int .u8 0),(.int .u8 0),(.int .u8 0),(.int .u8 0)]),(.agg [(.int .u8 0),(.int .u8 0),(.int .u8 0),(.int .u8 0),(.int .u8 0),(.int .u8 0),(.int .u8 0),(.int .u8 0)]),(.agg [(.int .u8 0),(.int .u8 0),(.int .u8 0),(.int .u8 0),(.int .u8 0),(.int .u8 0),(.int .u8 0),(.int .u8 0)])])]),(.list 1 [(.list 8 [(.agg [(.int .u8 0),(.int .u8 0),(.int .u8 0),(.int .u8 0),(.int .u8 0),(.int .u8 0),(.int .u8 0),(.int .u8 0)]),(.agg [(.int .u8 0),(.int .u8 0),(.int .u8 0),(.int .u8 0),(.int .u8 0),(.int .u8 0),(.int .u8 0),(.int .u8 0)]),(.agg [(.int .u8 2),(.int .u8 0),(.int .u8 0),(.int .u8 0),(.int .u8 0),(.int .u8 0),(.int .u8 0),(.int .u8 0)])])])]=some [((.int .i64 2),false),((.int .i64 0),false)]:=cal_of_vmCall (n:=400) (by kernel_rfl)
theorem aw22:cal env 37 [(.list 1 [(.list 8 [(.agg [(.int .u8 0),(.int .u8 0),(.int .u8 0),(.int .u8 0),(.int .u8 0),(.int .u8 0),(.int .u8 0),(.int .u8 0)]),(.agg [(.int .u8 3),(.int .u8 0),(.int .u8 0),(.int .u8 0),(.int .u8 0),(.int .u8 0),(.int .u8 0),(.int .u8 0)]),(.agg [(.int .u8 2),(.int .u8 0),(.int .u8 0),(.int .u8 0),(.int .u8 0),(.int .u8 0),(.int .u8 0),(.int .u8 0)])])]),(.list 1 [(.list 8 [(.agg [(.int .u8 0),(.int .u8 0),(.int .u8 0),(.int .u8 0),(.int .u8 0),(.int .u8 0),(.int .u8 0),(.int .u8 0)]),(.agg [(.int .u8 3),(.int .u8 0),(.int .u8 0),(.int .u8 0),(.int .u8 0),(.int .u8 0),(.int .u8 0),(.int .u8 0)]),(.agg [(.int .u8 2),(.int .u8 0),(.int .u8 0),(.int .u8 0),(.int .u8 0),(.int .u8 0),(.int .u8 0),(.int .u8 0)])])])]=some [((.bool true),false)]:=cal_of_vmCall (n:=400) (by kernel_rfl)
theorem aw23:cal env 20 [(.list 5 [(.agg [(.int .i64 5),(.int .i64 10),(.int .i64 0),(.list 1 []),(.list 3 [(.agg [(.int .i64 0),(.int .i64 0),(.list 8 [(.agg [(.int .u8 0),(.int .u8 0),(.int .u8 0),(.int .u8 0),(.int .u8 0),(.int .u8 0),(.int .u8 0),(.int .u8 0)])])]),(.agg [(.int .i64 0),(.int .i64 2),(.list 8 [(.agg [(.int .u8 2),(.int .u8 0),(.int .u8 0),(.int .u8 0),(.int .u8 0),(.int .u8 0),(.int .u8 0),(.int .u8 0)])])])])]),(.agg [(.int .i64 10),(.int .i64 11),(.int .i64 0),(.list 1 []),(.list 3 [(.agg [(.int .i64 0),(.int .i64 1),(.list 8 [(.agg [(.int .u8 3),(.int .u8 0),(.int .u8 0),(.int .u8 0),(.int .u8 0),(.int .u8 0),(.int .u8 0),(.int .u8 0)])])])])])])]=some [((.int .i64 3),false)]:=cal_of_vmCall (n:=400) (by kernel_rfl)
theorem scP (k s1 s2 s3 a l1 l2 l3):(PV.agg [.int k a,.list s1 l1,.list s2 l2,.list s3 l3]).scalar=false:=rfl
theorem scW (k k2 s1 a b l1):(PV.agg [.int k a,.int k2 b,.list s1 l1]).scalar=false:=rfl
theorem scB (k s1 a l1):(PV.agg [.int k a,.list s1 l1]).scalar=false:=rfl
theorem scC (k1 k2 k3 s1 s2 a b c l1 l2):(PV.agg [.int k1 a,.int k2 b,.int k3 c,.list s1 l1,.list s2 l2]).scalar=false:=rfl
theorem scQ (k1 k2 k3 k4 k5 k6 a b c d e f x y):(PV.agg [.int k1 a,.int k2 b,.int k3 c,.int k4 d,.int k5 e,.int k6 f,.bool x,.bool y]).scalar=true:=rfl
theorem w00:IntKind.i64.wrap 0=0:=by decide
set_option maxRecDepth 20000 in
theorem calAwake:cal env 11 []=some [(.bool true,false)]:=by
 rw [cal_code env11 rfl];simp only [fn11,slAll,Nat.reduceBEq,Nat.reduceLeDiff,Nat.reduceAdd,List.length_cons,List.length_nil]
 simp only [aw0,aw1,aw2,aw3,aw4,aw5,aw6,aw7,aw8,aw9,aw10,aw11,aw12,aw13,aw14,aw15,aw16,aw17,aw18,aw19,aw20,aw21,aw22,aw23,scP,scW,scB,scC,scQ,w00,Int.add_zero,slAll,slsAll,Nat.reduceMul,Nat.reduceBEq,Nat.reduceLT,Nat.reduceLeDiff,memAll,vAll,reduceCtorEq,Nat.reduceEqDiff,Nat.reduceAdd,Nat.reduceLT,Nat.reduceLeDiff,Nat.beq]
end Go.Proofs.YtioijcfcehhmdaaGreatDoor.V

namespace Go.Proofs.YtioijcfcehhmdaaGreatDoor.V
def eImg (im:Img):PV:=.list 1 (im.map eSecs)
def pairErr (a b:Img):Int:=if imCheck a≠0 then imCheck a else if imCheck b≠0 then imCheck b else if imSizes a=imSizes b then 0 else 22
def differ (a b:Img):List (List Exn):=(a.zip b).map fun q=>volDiff q.1 q.2
def differOut (a b:Img):List (List Exn):=if pairErr a b=0 then differ a b else []
theorem sizes_inj {a b:Img} (h:imSizes a=imSizes b):a.length=b.length∧∀ i (h1:i<a.length) (h2:i<b.length),a[i].length=b[i].length:=by
 have hl:a.length=b.length:=by simpa [imSizes] using congrArg List.length h
 refine ⟨hl,fun i h1 h2=>?_⟩
 have:=congrArg (fun l=>l[i]?) h
 simp only [imSizes,List.getElem?_map,List.getElem?_eq_getElem h1,List.getElem?_eq_getElem h2,Option.map_some,Option.some.injEq] at this
 omega
theorem loop76 {A B:PV} {l:List Img} (hl:l.length≤lim) (hi0:∀ im∈l,im.length≤lim) {st:St} (h:st.head [0,1,10,11,12] st.boxes.length=some ⟨[.pv A,.pv B,.any,.any,.any,.any,.any,.any,.any,.any,.row 1 (l.map eImg),.pv (.int .i64 l.length),.pv (.int .i64 (0:Nat)),.any,.any,.any,.any,.any,.any,.any,.any,.any,.any,.any,.any,.any,.any,.any],[],[],none⟩) :
  den env fn76_l1 st=match l.find? (fun im=>decide (imCheck im≠0)) with|some im=>some (.ret,⟨[.pv A,.pv B,.any,.any,.pv (.int .i64 (imCheck im)),.any,.any,.any,.any,.any,.any,.any,.any,.any,.any,.any,.any,.any,.any,.any,.any,.any,.any,.any,.any,.any,.any,.any],[],[],none⟩)|none=>some (.normal,⟨[.pv A,.pv B,.any,.any,.any,.any,.any,.any,.any,.any,.any,.any,.any,.any,.any,.any,.any,.any,.any,.any,.any,.any,.any,.any,.any,.any,.any,.any],[],[],none⟩):=by
 unfold fn76_l1
 rw [ clean_up (env:=env) (l.length) (fun i=>⟨[.pv A,.pv B,.any,.any,.any,.any,.any,.any,.any,.any,.row 1 (l.map eImg),.pv (.int .i64 l.length),.pv (.int .i64 i),.any,.any,.any,.any,.any,.any,.any,.any,.any,.any,.any,.any,.any,.any,.any],[],[],none⟩) (fun i=>match (l.drop i).find? (fun im=>decide (imCheck im≠0)) with|some im=>some (.ret,⟨[.pv A,.pv B,.any,.any,.pv (.int .i64 (imCheck im)),.any,.any,.any,.any,.any,.any,.any,.any,.any,.any,.any,.any,.any,.any,.any,.any,.any,.any,.any,.any,.any,.any,.any],[],[],none⟩)|none=>some (.normal,⟨[.pv A,.pv B,.any,.any,.any,.any,.any,.any,.any,.any,.any,.any,.any,.any,.any,.any,.any,.any,.any,.any,.any,.any,.any,.any,.any,.any,.any,.any],[],[],none⟩)) h (fun _=>rfl) (fun _=>rfl) ?_ ?_]
 ·first|rfl|simp only [List.drop_zero,List.take_zero,List.map_nil,Nat.zero_add,List.nil_append,List.foldl_nil]
 ·intro i rb hi ih
  have hi1:=i64_next hi hl
  have F1:((i:Int)<(l.length:Int))=True:=eq_true (by omega)
  have e1:=cal85 (hi0 _ (List.getElem_mem hi))
  rw [List.drop_eq_getElem_cons hi,List.find?_cons]
  by_cases hc:imCheck l[i]=0
  ·have F2:(imCheck l[i] != 0)=false:=by simp [hc]
   simp only [fn76_b0,F1,F2,e1,eImg,index_nat hi,List.getElem?_map,List.getElem?_eq_getElem hi,memAll,vAll,reduceCtorEq,Nat.reduceEqDiff,Nat.reduceAdd,Nat.reduceLT,Nat.reduceLeDiff,Nat.beq]
   rw [ih _ (by simp only [hi1];rfl)]
   simp only [hc,ne_eq,not_true,decide_false]
  ·have F2:(imCheck l[i] != 0)=true:=by simp [hc]
   simp only [fn76_b0,F1,F2,e1,eImg,index_nat hi,List.getElem?_map,List.getElem?_eq_getElem hi,memAll,vAll,reduceCtorEq,Nat.reduceEqDiff,Nat.reduceAdd,Nat.reduceLT,Nat.reduceLeDiff,Nat.beq]
   simp only [hc,ne_eq,not_false_eq_true,decide_true]
   rfl
 ·intro rb
  simp only [fn76_b0,Int.lt_irrefl, memAll,vAll,reduceCtorEq,Nat.reduceEqDiff,Nat.reduceAdd,Nat.reduceLT,Nat.reduceLeDiff,Nat.beq]
  rw [List.drop_length]
  rfl
theorem cal76 {a b:Img} (ha:a.length≤lim) (hb:b.length≤lim):cal env 76 [.list 1 (a.map eSecs),.list 1 (b.map eSecs)]=some [(.int .i64 (pairErr a b),false)]:=by
 have h2:∀ im∈[a,b],im.length≤lim:=by simp;exact ⟨ha,hb⟩
 have e1:=cal116 ha
 have e2:=cal116 hb
 have e3:=cal115 (l:=imSizes a) (m:=imSizes b) (by simpa [imSizes] using ha)
 rw [cal_code env76 rfl];simp only [fn76];simp only [start,z_map_cons,z_map_nil,z_len_cons,z_len_nil,z_repl_zero,z_repl_succ,z_cons_app,z_nil_app,Nat.reduceAdd,Nat.reduceSub]
 simp only [e1,e2,e3,memAll,vAll,reduceCtorEq,Nat.reduceEqDiff,Nat.reduceAdd,Nat.reduceLT,Nat.reduceLeDiff,Nat.beq]
 rw [loop76 (l:=[a,b]) (by simp [lim]) h2]
 rotate_left
 ·rfl
 ·simp only [List.find?_cons,List.find?_nil,pairErr]
  by_cases c1:imCheck a=0
  ·by_cases c2:imCheck b=0
   ·by_cases c4:imSizes a=imSizes b
    ·have hd:=decide_eq_true c4
     simp only [c1,c2,hd,ne_eq,not_true,decide_false,e1,e2,e3,memAll,vAll,reduceCtorEq,Nat.reduceEqDiff,Nat.reduceAdd,Nat.reduceLT,Nat.reduceLeDiff,Nat.beq]
     rw [if_pos c4]
    ·have hd:=decide_eq_false c4
     simp only [c1,c2,hd,ne_eq,not_true,decide_false,e1,e2,e3,memAll,vAll,reduceCtorEq,Nat.reduceEqDiff,Nat.reduceAdd,Nat.reduceLT,Nat.reduceLeDiff,Nat.beq]
     rw [if_neg c4]
   ·simp only [c1,c2,ne_eq,not_true,not_false_eq_true,decide_false,decide_true,if_false,if_true,e1,e2,e3,memAll,vAll,reduceCtorEq,Nat.reduceEqDiff,Nat.reduceAdd,Nat.reduceLT,Nat.reduceLeDiff,Nat.beq]
  ·simp only [c1,ne_eq,not_true,not_false_eq_true,decide_false,decide_true,if_false,if_true,e1,e2,e3,memAll,vAll,reduceCtorEq,Nat.reduceEqDiff,Nat.reduceAdd,Nat.reduceLT,Nat.reduceLeDiff,Nat.beq]
theorem loop30 {a b:Img} (hl:a.length≤lim) (hr:∀ v∈a,v.length≤lim) (hab:a.length=b.length) (hs:∀ i (h1:i<a.length) (h2:i<b.length),a[i].length=b[i].length)
  {st:St} (h:st.head [0,1,7,16,17,31] st.boxes.length=some ⟨[.pv (.list 1 (a.map eSecs)),.pv (.list 1 (b.map eSecs)),.any,.any,.any,.any,.any,.row 1 [],.any,.any,.any,.any,.any,.any,.any,.any,.pv (.int .i64 a.length),.pv (.int .i64 (0:Nat)),.any,.any,.any,.any,.any,.any,.any,.any,.any,.any,.any,.any,.any,.any,.any,.any],[],[],none⟩) :
  den env fn30_l1 st=some (.normal,⟨[.any,.any,.any,.any,.any,.any,.any,.row 1 ((differ a b).map eExts),.any,.any,.any,.any,.any,.any,.any,.any,.any,.any,.any,.any,.any,.any,.any,.any,.any,.any,.any,.any,.any,.any,.any,.any,.any,.any],[],[],none⟩):=by
 unfold fn30_l1
 have hz:(a.zip b).length=a.length:=by simp;omega
 refine clean_up (env:=env) a.length (fun i=>⟨[.pv (.list 1 (a.map eSecs)),.pv (.list 1 (b.map eSecs)),.any,.any,.any,.any,.any,.row 1 (((a.zip b).take i).map fun q=>eExts (volDiff q.1 q.2)),.any,.any,.any,.any,.any,.any,.any,.any,.pv (.int .i64 a.length),.pv (.int .i64 i),.any,.any,.any,.any,.any,.any,.any,.any,.any,.any,.any,.any,.any,.any,.any,.any],[],[],none⟩) (fun i=>some (.normal,⟨[.any,.any,.any,.any,.any,.any,.any,.row 1 ((differ a b).map eExts),.any,.any,.any,.any,.any,.any,.any,.any,.any,.any,.any,.any,.any,.any,.any,.any,.any,.any,.any,.any,.any,.any,.any,.any,.any,.any],[],[],none⟩)) h (fun _=>rfl) (fun _=>rfl) ?_ ?_
 ·intro i rb hi ih
  have hi1:=i64_next hi hl
  have hj:i<b.length:=by omega
  have hiz:i<(a.zip b).length:=by omega
  have F1:((i:Int)<(a.length:Int))=True:=eq_true (by omega)
  have F2:(((a.zip b).take i).length+1≤lim)=True:=eq_true (by rw [List.length_take];omega)
  have e1:=cal77 (hr _ (List.getElem_mem hi)) (hs i hi hj)
  simp only [fn30_b0,F1,F2,e1,eSecs,index_nat hi,index_nat hj,List.getElem?_map,List.getElem?_eq_getElem hi,List.getElem?_eq_getElem hj,memAll,vAll,reduceCtorEq,Nat.reduceEqDiff,Nat.reduceAdd,Nat.reduceLT,Nat.reduceLeDiff,Nat.beq]
  rw [ih _ (by simp only [hi1];rw [← take_map_succ _ hiz,List.getElem_zip];rfl)]
 ·intro rb
  simp only [fn30_b0,Int.lt_irrefl,memAll,vAll,reduceCtorEq,Nat.reduceEqDiff,Nat.reduceAdd,Nat.reduceLT,Nat.reduceLeDiff,Nat.beq]
  rw [← hz,List.take_length]
  simp only [differ,List.map_map]
  rfl
theorem cal30 {a b:Img} (ha:a.length≤lim) (hb':b.length≤lim) (hr:∀ v∈a,v.length≤lim):cal env 30 [.list 1 (a.map eSecs),.list 1 (b.map eSecs)]=some [(.list 1 ((differOut a b).map eExts),true),(.int .i64 (pairErr a b),false)]:=by
 have e1:=cal76 ha hb'
 unfold differOut
 by_cases c:pairErr a b=0
 ·have hs:imSizes a=imSizes b:=by
   unfold pairErr at c
   split at c
   ·omega
   ·split at c
    ·omega
    ·split at c
     ·assumption
     ·omega
  have G1:(pairErr a b != 0)=false:=by simp [c]
  rw [cal_code env30 rfl];simp only [fn30];simp only [start,z_map_cons,z_map_nil,z_len_cons,z_len_nil,z_repl_zero,z_repl_succ,z_cons_app,z_nil_app,Nat.reduceAdd,Nat.reduceSub]
  simp only [G1,e1,memAll,vAll,reduceCtorEq,Nat.reduceEqDiff,Nat.reduceAdd,Nat.reduceLT,Nat.reduceLeDiff,Nat.beq]
  rw [loop30 ha hr (sizes_inj hs).1 (sizes_inj hs).2]
  rotate_left
  ·rfl
  ·simp only [c,memAll,vAll,reduceCtorEq,Nat.reduceEqDiff,Nat.reduceAdd,Nat.reduceLT,Nat.reduceLeDiff,Nat.beq]
 ·have G1:(pairErr a b != 0)=true:=by simp [c]
  rw [cal_code env30 rfl];simp only [fn30];simp only [start,z_map_cons,z_map_nil,z_len_cons,z_len_nil,z_repl_zero,z_repl_succ,z_cons_app,z_nil_app,Nat.reduceAdd,Nat.reduceSub]
  simp only [G1,e1,memAll,vAll,reduceCtorEq,Nat.reduceEqDiff,Nat.reduceAdd,Nat.reduceLT,Nat.reduceLeDiff,Nat.beq]
  simp only [c,if_false]
  rfl
--+
end Go.Proofs.YtioijcfcehhmdaaGreatDoor.V

namespace Go.Proofs.YtioijcfcehhmdaaGreatDoor.V
theorem take_snoc1 {α:Type} {l:List α} {i:Nat} (h:i<l.length):l.take (i+1)=l.take i++[l[i]]:=by rw [List.take_succ_eq_append_getElem h]
def okE (x:Exn):Prop:=(-9223372036854775808≤x.start∧x.start≤9223372036854775807)∧(-9223372036854775808≤x.count∧x.count≤9223372036854775807)
def okEs (l:List Exn):Prop:=∀ x∈l,okE x
def wFrom (e:Exn):Int:=max e.start 0
def wTo (e:Exn):Int:=if e.start<0∨e.count<4096 - e.start then min (e.start+e.count) 4096 else 4096
def wX (e:Exn):Int × Int × Bool:=if e.count≤0 then (0,0,false) else (wFrom e,wTo e,decide (wFrom e<wTo e))
def inE (e:Exn) (s:Nat):Bool:=decide (0<e.count)&&(decide (e.start≤(s:Int))&&decide ((s:Int)<e.start+e.count))
theorem wX_true {e:Exn} (h:(wX e).2.2=true):∃ n m:Nat,wX e=((n:Int),(m:Int),true)∧n<m∧m≤4096∧∀ s:Nat,s<4096→(inE e s=true ↔ n≤s∧s<m):=by
 unfold wX at h ⊢
 by_cases c:e.count≤0
 ·rw [if_pos c] at h;cases h
 ·rw [if_neg c] at h ⊢
  have h2:wFrom e<wTo e:=by simpa using h
  have h3:0≤wFrom e:=by unfold wFrom;omega
  have h4:wTo e≤4096:=by unfold wTo;split<;>omega
  refine ⟨(wFrom e).toNat,(wTo e).toNat,?_,by omega,by omega,fun s hs=>?_⟩
  ·rw [Int.toNat_of_nonneg h3,Int.toNat_of_nonneg (by omega),decide_eq_true h2]
  ·unfold inE
   simp only [Bool.and_eq_true,decide_eq_true_eq]
   have e1:(wFrom e).toNat≤s ↔ wFrom e≤(s:Int):=by omega
   have e2:s<(wTo e).toNat ↔ (s:Int)<wTo e:=by omega
   rw [e1,e2]
   unfold wFrom wTo
   split<;>omega
theorem wX_false {e:Exn} (h:(wX e).2.2=false) {s:Nat} (hs:s<4096):inE e s=false:=by
 unfold wX at h
 by_cases c:e.count≤0
 ·unfold inE
  rw [decide_eq_false (by omega),Bool.false_and]
 ·rw [if_neg c] at h
  have h2:¬ wFrom e<wTo e:=by simpa using h
  unfold inE
  cases hq:(decide (0<e.count)&&(decide (e.start≤(s:Int))&&decide ((s:Int)<e.start+e.count))) with
  |false=>rfl
  |true =>
   exfalso
   simp only [Bool.and_eq_true,decide_eq_true_eq] at hq
   apply h2
   unfold wFrom wTo
   split<;>omega
theorem cal141 {e:Exn} (ho:okE e):cal env 141 [eExt e]=some [(.int .i64 (wX e).1,false),(.int .i64 (wX e).2.1,false),(.bool (wX e).2.2,false)]:=by
 obtain ⟨⟨o1,o2⟩,o3,o4⟩:=ho
 unfold wX
 simp only [eExt]
 by_cases c:e.count≤0
 ·rw [if_pos c]
  rw [cal_code env141 rfl];simp only [fn141,slAll,Nat.reduceBEq,Nat.reduceLeDiff,Nat.reduceAdd,List.length_cons,List.length_nil]
  simp only [c,slAll,slsAll,Nat.reduceMul,Nat.reduceBEq,Nat.reduceLT,Nat.reduceLeDiff,memAll,vAll,reduceCtorEq,Nat.reduceEqDiff,Nat.reduceAdd,Nat.reduceLT,Nat.reduceLeDiff,Nat.beq]
 ·rw [if_neg c]
  unfold wFrom wTo
  have hmin:min (e.start+e.count) 4096=if 4096<e.start+e.count then 4096 else e.start+e.count:=by split<;>omega
  by_cases c1:e.start<0
  ·have hmax:max e.start 0=0:=by omega
   rw [hmin,hmax]
   have W1:IntKind.i64.wrap (e.start+e.count)=e.start+e.count:=i64_fits (by omega)
   rw [if_pos (.inl c1)]
   rw [cal_code env141 rfl];simp only [fn141,slAll,Nat.reduceBEq,Nat.reduceLeDiff,Nat.reduceAdd,List.length_cons,List.length_nil]
   simp only [c,c1,W1,slAll,slsAll,Nat.reduceMul,Nat.reduceBEq,Nat.reduceLT,Nat.reduceLeDiff,memAll,vAll,reduceCtorEq,Nat.reduceEqDiff,Nat.reduceAdd,Nat.reduceLT,Nat.reduceLeDiff,Nat.beq]
  ·have hmax:max e.start 0=e.start:=by omega
   rw [hmin,hmax]
   have W2:IntKind.i64.wrap (4096 - e.start)=4096 - e.start:=i64_fits (by omega)
   by_cases c2:e.count<4096 - e.start
   ·have W1:IntKind.i64.wrap (e.start+e.count)=e.start+e.count:=i64_fits (by omega)
    rw [if_pos (.inr c2)]
    rw [cal_code env141 rfl];simp only [fn141,slAll,Nat.reduceBEq,Nat.reduceLeDiff,Nat.reduceAdd,List.length_cons,List.length_nil]
    simp only [c,c1,c2,W1,W2,slAll,slsAll,Nat.reduceMul,Nat.reduceBEq,Nat.reduceLT,Nat.reduceLeDiff,memAll,vAll,reduceCtorEq,Nat.reduceEqDiff,Nat.reduceAdd,Nat.reduceLT,Nat.reduceLeDiff,Nat.beq]
   ·rw [if_neg (by omega)]
    rw [cal_code env141 rfl];simp only [fn141,slAll,Nat.reduceBEq,Nat.reduceLeDiff,Nat.reduceAdd,List.length_cons,List.length_nil]
    simp only [c,c1,c2,W2,slAll,slsAll,Nat.reduceMul,Nat.reduceBEq,Nat.reduceLT,Nat.reduceLeDiff,memAll,vAll,reduceCtorEq,Nat.reduceEqDiff,Nat.reduceAdd,Nat.reduceLT,Nat.reduceLeDiff,Nat.beq]
def rawOf (i:Nat) (l:List Exn):List End:=l.flatMap fun e=>if (wX e).2.2 then [⟨(wX e).1.toNat,i,1⟩,⟨(wX e).2.1.toNat,i,-1⟩] else []
theorem rawOf_snoc (i:Nat) (l:List Exn) (e:Exn):rawOf i (l++[e])=rawOf i l++(if (wX e).2.2 then [⟨(wX e).1.toNat,i,1⟩,⟨(wX e).2.1.toNat,i,-1⟩] else []):=by simp [rawOf]
theorem rawOf_len (i:Nat):∀ l:List Exn,(rawOf i l).length≤2 * l.length
 |[]=>Nat.le_refl _
 |e :: l=>by
  have:=rawOf_len i l
  have h:rawOf i (e :: l)=(if (wX e).2.2 then [⟨(wX e).1.toNat,i,1⟩,⟨(wX e).2.1.toNat,i,-1⟩] else [])++rawOf i l:=by simp [rawOf]
  rw [h,List.length_append,List.length_cons]
  split<;>simp<;>omega
def rawFrom:Nat→List (List Exn)→List End
 |_,[]=>[]
 |i,l :: ls=>rawOf i l++rawFrom (i+1) ls
theorem rawFrom_snoc:∀ (ls:List (List Exn)) (i:Nat) (l:List Exn),rawFrom i (ls++[l])=rawFrom i ls++rawOf (i+ls.length) l
 |[],i,l=>by simp [rawFrom]
 |m :: ls,i,l=>by
  simp only [List.cons_append,rawFrom,rawFrom_snoc ls (i+1) l,List.length_cons,List.append_assoc]
  rw [show i+1+ls.length=i+(ls.length+1) by omega]
theorem rawFrom_len {n:Nat}:∀ (ls:List (List Exn)) (i:Nat),(∀ l∈ls,l.length≤n)→(rawFrom i ls).length≤2 * n * ls.length
 |[],i,_=>Nat.zero_le _
 |l :: ls,i,h=>by
  have h1:=rawFrom_len ls (i+1) fun x hx=>h x (by simp [hx])
  have h2:=rawOf_len i l
  have h3:=h l (by simp)
  simp only [rawFrom,List.length_append,List.length_cons]
  rw [Nat.mul_add]
  omega
set_option maxRecDepth 20000 in
theorem loop120 {D:PV} {l:List Exn} {pre:List End} {v n:Nat} {q17:AV} (hq:q17=.pv (.list 2 (l.map eExt))) (ho:okEs l) (hl:l.length≤100000) (hpre:pre.length≤10000000) {st:St} (h:st.head [0,3,4,5,11,12,13,17,18,19,20,39] st.boxes.length=some ⟨sl 45 [(0,.pv D),(3,.row 3 ((pre++rawOf v (l.take ((0:Nat)))).map eEnd)),(4,.pv (.int .i64 v)),(5,.pv (.list 2 (l.map eExt))),(11,.pv D),(12,.pv (.int .i64 n)),(13,.pv (.int .i64 v)),(17,.pv (.list 2 (l.map eExt))),(18,.pv (.list 2 (l.map eExt))),(19,.pv (.int .i64 l.length)),(20,.pv (.int .i64 (0:Nat))),(39,.any)],[],[],none⟩) :
  den env fn120_l1 st=some (.normal,⟨sl 45 [(0,.pv D),(2,.any),(3,.row 3 ((pre++rawOf v l).map eEnd)),(11,.pv D),(12,.pv (.int .i64 n)),(13,.pv (.int .i64 v)),(39,.any)],[],[],none⟩):=by
 unfold fn120_l1
 refine clean_up (env:=env) (l.length) (fun i=>⟨sl 45 [(0,.pv D),(3,.row 3 ((pre++rawOf v (l.take (i))).map eEnd)),(4,.pv (.int .i64 v)),(5,.pv (.list 2 (l.map eExt))),(11,.pv D),(12,.pv (.int .i64 n)),(13,.pv (.int .i64 v)),(17,.pv (.list 2 (l.map eExt))),(18,.pv (.list 2 (l.map eExt))),(19,.pv (.int .i64 l.length)),(20,.pv (.int .i64 i)),(39,.any)],[],[],none⟩) (fun i=>some (.normal,⟨sl 45 [(0,.pv D),(2,.any),(3,.row 3 ((pre++rawOf v l).map eEnd)),(11,.pv D),(12,.pv (.int .i64 n)),(13,.pv (.int .i64 v)),(39,.any)],[],[],none⟩)) h (fun _=>rfl) (fun _=>by simp only [slAll,slsAll,Nat.reduceMul,Nat.reduceBEq,Nat.reduceLT,Nat.reduceLeDiff,Nat.reduceAdd,decide_true,Bool.and_self,Bool.true_and]) ?_ ?_
 ·intro i rb hi ih
  have hlim:lim=1073741824:=rfl
  have hi1:=i64_next hi (by omega)
  have F1:((i:Int)<(l.length:Int))=True:=eq_true (by omega)
  have hx:l[i]?=some l[i]:=List.getElem?_eq_getElem hi
  have ht:=take_snoc1 hi
  have hox:=ho _ (List.getElem_mem hi)
  generalize l[i]=x at *
  have e1:=cal141 hox
  have hrl:=rawOf_len v (l.take i)
  rw [List.length_take] at hrl
  have P2:part [PV.int .i64 x.start,.int .i64 x.count] 0 (some 2)=some (.agg [.int .i64 x.start,.int .i64 x.count]):=rfl
  simp only [eExt] at e1
  cases hw:(wX x).2.2 with
  |false =>
   rw [hw] at e1
   have hs:rawOf v (l.take (i+1))=rawOf v (l.take i):=by rw [ht,rawOf_snoc,hw];simp
   simp only [fn120_b0,F1,hx,e1,eExt,P2,index_nat hi,List.getElem?_map,Option.map_some,List.length_map,List.length_cons,List.length_nil,slAll,slsAll,Nat.reduceMul,Nat.reduceBEq,Nat.reduceLT,Nat.reduceLeDiff,memAll,vAll,reduceCtorEq,Nat.reduceEqDiff,Nat.reduceAdd,Nat.reduceLT,Nat.reduceLeDiff,Nat.beq]
   rw [ih _ (by simp only [hi1,hs,slAll,slsAll,Nat.reduceMul,Nat.reduceBEq,Nat.reduceLT,Nat.reduceLeDiff,memAll,vAll,reduceCtorEq,Nat.reduceEqDiff,Nat.reduceAdd,Nat.reduceLT,Nat.reduceLeDiff,Nat.beq]<;>rfl)]
  |true =>
   obtain ⟨a,b,hab,-,-,-⟩:=wX_true hw
   have hs:rawOf v (l.take (i+1))=rawOf v (l.take i)++[⟨a,v,1⟩,⟨b,v,-1⟩]:=by rw [ht,rawOf_snoc,hab];simp
   rw [hab] at e1
   have F2:((pre++rawOf v (l.take i)).length+1+1≤lim)=True:=eq_true (by rw [List.length_append];omega)
   have F3:((pre++rawOf v (l.take i)).length+2≤lim)=True:=eq_true (by rw [List.length_append];omega)
   simp only [fn120_b0,F1,F2,F3,hx,e1,eExt,P2,index_nat hi,List.getElem?_map,Option.map_some,List.length_map,List.length_cons,List.length_nil,slAll,slsAll,Nat.reduceMul,Nat.reduceBEq,Nat.reduceLT,Nat.reduceLeDiff,memAll,vAll,reduceCtorEq,Nat.reduceEqDiff,Nat.reduceAdd,Nat.reduceLT,Nat.reduceLeDiff,Nat.beq]
   rw [ih _ (by simp only [hi1,hs,← List.append_assoc,List.map_append,List.map_cons,List.map_nil,eEnd,slAll,slsAll,Nat.reduceMul,Nat.reduceBEq,Nat.reduceLT,Nat.reduceLeDiff,memAll,vAll,reduceCtorEq,Nat.reduceEqDiff,Nat.reduceAdd,Nat.reduceLT,Nat.reduceLeDiff,Nat.beq]<;>rfl)]
 ·intro rb
  simp only [fn120_b0,Int.lt_irrefl,List.length_map,List.take_length,slAll,slsAll,Nat.reduceMul,Nat.reduceBEq,Nat.reduceLT,Nat.reduceLeDiff,memAll,vAll,reduceCtorEq,Nat.reduceEqDiff,Nat.reduceAdd,Nat.reduceLT,Nat.reduceLeDiff,Nat.beq]
set_option maxRecDepth 20000 in
theorem loop120l3 {ls:List (List Exn)} (ho:∀ l∈ls,okEs l) (hr:∀ l∈ls,l.length≤100000) (hl:ls.length≤10) {st:St} (h:st.head [0,3,11,12,13,39] st.boxes.length=some ⟨sl 45 [(0,.pv (.list 1 (ls.map eExts))),(3,.row 3 ((rawFrom 0 (ls.take ((0:Nat)))).map eEnd)),(11,.pv (.list 1 (ls.map eExts))),(12,.pv (.int .i64 ls.length)),(13,.pv (.int .i64 (0:Nat))),(39,.any)],[],[],none⟩) :
  den env fn120_l3 st=some (.normal,⟨sl 45 [(2,.any),(3,.row 3 ((rawFrom 0 ls).map eEnd))],[],[],none⟩):=by
 unfold fn120_l3
 refine clean_up (env:=env) (ls.length) (fun i=>⟨sl 45 [(0,.pv (.list 1 (ls.map eExts))),(3,.row 3 ((rawFrom 0 (ls.take (i))).map eEnd)),(11,.pv (.list 1 (ls.map eExts))),(12,.pv (.int .i64 ls.length)),(13,.pv (.int .i64 i)),(39,.any)],[],[],none⟩) (fun i=>some (.normal,⟨sl 45 [(2,.any),(3,.row 3 ((rawFrom 0 ls).map eEnd))],[],[],none⟩)) h (fun _=>rfl) (fun _=>by simp only [slAll,slsAll,Nat.reduceMul,Nat.reduceBEq,Nat.reduceLT,Nat.reduceLeDiff,Nat.reduceAdd,decide_true,Bool.and_self,Bool.true_and]) ?_ ?_
 ·intro i rb hi ih
  have hlim:lim=1073741824:=rfl
  have hi1:=i64_next hi (by omega)
  have F1:((i:Int)<(ls.length:Int))=True:=eq_true (by omega)
  have hx:ls[i]?=some ls[i]:=List.getElem?_eq_getElem hi
  have ht:=take_snoc1 hi
  have hox:=ho _ (List.getElem_mem hi)
  have hrx:=hr _ (List.getElem_mem hi)
  have hli:(ls.take i).length=i:=by rw [List.length_take];omega
  have hp:=rawFrom_len (n:=100000) (ls.take i) 0 fun l hl=>hr l (List.mem_of_mem_take hl)
  rw [hli] at hp
  generalize ls[i]=l at *
  have hs:rawFrom 0 (ls.take (i+1))=rawFrom 0 (ls.take i)++rawOf i l:=by rw [ht,rawFrom_snoc,hli,Nat.zero_add]
  have hr0:rawOf i ([]:List Exn)=[]:=rfl
  simp only [fn120_b2,F1,hx,eExts,index_nat hi,List.getElem?_map,Option.map_some,List.length_map,slAll,slsAll,Nat.reduceMul,Nat.reduceBEq,Nat.reduceLT,Nat.reduceLeDiff,memAll,vAll,reduceCtorEq,Nat.reduceEqDiff,Nat.reduceAdd,Nat.reduceLT,Nat.reduceLeDiff,Nat.beq]
  rw [loop120 (l:=l) (pre:=rawFrom 0 (ls.take i)) (v:=i) (q17:=.pv (.list 2 (l.map eExt))) rfl hox hrx (by omega)]
  rotate_left
  ·simp only [z_take_zero,hr0,List.append_nil,eExts,slAll,slsAll,Nat.reduceMul,Nat.reduceBEq,Nat.reduceLT,Nat.reduceLeDiff,memAll,vAll,reduceCtorEq,Nat.reduceEqDiff,Nat.reduceAdd,Nat.reduceLT,Nat.reduceLeDiff,Nat.beq]<;>rfl
  simp only [slAll,slsAll,Nat.reduceMul,Nat.reduceBEq,Nat.reduceLT,Nat.reduceLeDiff,memAll,vAll,reduceCtorEq,Nat.reduceEqDiff,Nat.reduceAdd,Nat.reduceLT,Nat.reduceLeDiff,Nat.beq]
  rw [ih _ (by simp only [hi1,hs,eExts,slAll,slsAll,Nat.reduceMul,Nat.reduceBEq,Nat.reduceLT,Nat.reduceLeDiff,memAll,vAll,reduceCtorEq,Nat.reduceEqDiff,Nat.reduceAdd,Nat.reduceLT,Nat.reduceLeDiff,Nat.beq]<;>rfl)]
 ·intro rb
  simp only [fn120_b2,Int.lt_irrefl,List.length_map,List.take_length,slAll,slsAll,Nat.reduceMul,Nat.reduceBEq,Nat.reduceLT,Nat.reduceLeDiff,memAll,vAll,reduceCtorEq,Nat.reduceEqDiff,Nat.reduceAdd,Nat.reduceLT,Nat.reduceLeDiff,Nat.beq]
def endsOf (ls:List (List Exn)):List End:=sortE (rawFrom 0 ls)
theorem cal120 {ls:List (List Exn)} (ho:∀ l∈ls,okEs l) (hr:∀ l∈ls,l.length≤10000) (hl:ls.length≤2) (hsl:(endsOf ls).length=(rawFrom 0 ls).length):cal env 120 [.list 1 (ls.map eExts)]=some [(.list 3 ((endsOf ls).map eEnd),true)]:=by
 have hp:=rawFrom_len (n:=10000) ls 0 hr
 have hp2:(rawFrom 0 ls).length≤1000000:=by
  have:2 * 10000 * ls.length≤2 * 10000 * 2:=Nat.mul_le_mul_left _ hl
  omega
 have h1:=sortEndsX_enc (g:=143) (l:=rawFrom 0 ls) hp2
 have h2:((sortE (rawFrom 0 ls)).map eEnd).length=((rawFrom 0 ls).map eEnd).length:=by
  rw [List.length_map,List.length_map];exact hsl
 unfold endsOf
 have hcond:(0=0∧(rawFrom 0 ls).length=((rawFrom 0 ls).map eEnd).length∧((sortE (rawFrom 0 ls)).map eEnd).length=((rawFrom 0 ls).map eEnd).length)=True:=eq_true ⟨rfl,by simp,h2⟩
 rw [cal_code env120 rfl];simp only [fn120,slAll,Nat.reduceBEq,Nat.reduceLeDiff,Nat.reduceAdd,List.length_cons,List.length_nil]
 simp only [List.length_map,env142,h1,hsl,slAll,slsAll,Nat.reduceMul,Nat.reduceBEq,Nat.reduceLT,Nat.reduceLeDiff,memAll,vAll,reduceCtorEq,Nat.reduceEqDiff,Nat.reduceAdd,Nat.reduceLT,Nat.reduceLeDiff,Nat.beq]
 rw [loop120l3 ho (fun l h=>by have:=hr l h;omega) (by omega) (by simp only [z_take_zero,rawFrom,List.map_nil,slAll,slsAll,Nat.reduceMul,Nat.reduceBEq,Nat.reduceLT,Nat.reduceLeDiff,memAll,vAll,reduceCtorEq,Nat.reduceEqDiff,Nat.reduceAdd,Nat.reduceLT,Nat.reduceLeDiff,Nat.beq]<;>rfl)]
 simp only [h2,List.length_map,env142,h1,hsl,slAll,slsAll,Nat.reduceMul,Nat.reduceBEq,Nat.reduceLT,Nat.reduceLeDiff,memAll,vAll,reduceCtorEq,Nat.reduceEqDiff,Nat.reduceAdd,Nat.reduceLT,Nat.reduceLeDiff,Nat.beq]
 rw [← hsl]
 unfold endsOf
 rw [take_map_all]
end Go.Proofs.YtioijcfcehhmdaaGreatDoor.V

namespace Go.Proofs
open Go.Shelf
def Tryz.sortEnd_ren:Go.Shelf.Ren:=⟨fun|6=>142|15=>156|14=>155|28=>166|29=>167|20=>158|21=>159|22=>160|23=>161|24=>162|25=>163|26=>164|27=>165|46=>168|47=>169|48=>170|49=>171|50=>172|57=>173|n=>n,fun|22=>170|24=>173|25=>196|3=>3|39=>180|0=>0|53=>214|55=>144|4=>4|46=>207|45=>206|50=>211|5=>5|9=>9|66=>215|70=>219|76=>221|77=>50|n=>n,fun|n=>n⟩
theorem Tryz.sortEnd:Go.Proofs.SlLaysF0.n6 Tryz.prog Tryz.sortEnd_ren:={
 mixed:=by kernel_rfl
 f6:=⟨Tryz.f142.name,by decide,Tryz.func142.trans (congrArg some (by kernel_rfl))⟩
 f14:=⟨Tryz.f155.name,by decide,Tryz.func155.trans (congrArg some (by kernel_rfl))⟩
 f15:=Tryz.func156.trans (congrArg some (by kernel_rfl))
 f20:=⟨Tryz.f158.name,by decide,Tryz.func158.trans (congrArg some (by kernel_rfl))⟩
 f21:=⟨Tryz.f159.name,by decide,Tryz.func159.trans (congrArg some (by kernel_rfl))⟩
 f22:=⟨Tryz.f160.name,by decide,Tryz.func160.trans (congrArg some (by kernel_rfl))⟩
 f23:=⟨Tryz.f161.name,by decide,Tryz.func161.trans (congrArg some (by kernel_rfl))⟩
 f24:=⟨Tryz.f162.name,by decide,Tryz.func162.trans (congrArg some (by kernel_rfl))⟩
 f25:=⟨Tryz.f163.name,by decide,Tryz.func163.trans (congrArg some (by kernel_rfl))⟩
 f26:=⟨Tryz.f164.name,by decide,Tryz.func164.trans (congrArg some (by kernel_rfl))⟩
 f27:=⟨Tryz.f165.name,by decide,Tryz.func165.trans (congrArg some (by kernel_rfl))⟩
 f28:=Tryz.func166.trans (congrArg some (by kernel_rfl))
 f29:=Tryz.func167.trans (congrArg some (by kernel_rfl))
 f46:=⟨Tryz.f168.name,by decide,Tryz.func168.trans (congrArg some (by kernel_rfl))⟩
 f47:=Tryz.func169.trans (congrArg some (by kernel_rfl))
 f48:=Tryz.func170.trans (congrArg some (by kernel_rfl))
 f49:=⟨Tryz.f171.name,by decide,Tryz.func171.trans (congrArg some (by kernel_rfl))⟩
 f50:=⟨Tryz.f172.name,by decide,Tryz.func172.trans (congrArg some (by kernel_rfl))⟩
 f57:=⟨Tryz.f173.name,by decide,Tryz.func173.trans (congrArg some (by kernel_rfl))⟩
 t0:=Tryz.underlying0
 a0:=Tryz.isAgg0
 z0:=Tryz.sizeOf0
 v0:=Tryz.zeroValue0
 t3:=Tryz.underlying3
 a3:=Tryz.isAgg3
 z3:=Tryz.sizeOf3
 v3:=Tryz.zeroValue3
 t4:=Tryz.underlying4
 a4:=Tryz.isAgg4
 z4:=Tryz.sizeOf4
 v4:=Tryz.zeroValue4
 t5:=Tryz.underlying5
 a5:=Tryz.isAgg5
 z5:=Tryz.sizeOf5
 v5:=Tryz.zeroValue5
 t9:=Tryz.underlying9
 a9:=Tryz.isAgg9
 z9:=Tryz.sizeOf9
 v9:=Tryz.zeroValue9
 t22:=Tryz.underlying170
 a22:=Tryz.isAgg170
 z22:=Tryz.sizeOf170
 v22:=Tryz.zeroValue170
 t25:=Tryz.underlying196
 a25:=Tryz.isAgg196
 z25:=Tryz.sizeOf196
 v25:=Tryz.zeroValue196
 t39:=Tryz.underlying180
 a39:=Tryz.isAgg180
 z39:=Tryz.sizeOf180
 v39:=Tryz.zeroValue180
 t45:=Tryz.underlying206
 a45:=Tryz.isAgg206
 z45:=Tryz.sizeOf206
 v45:=Tryz.zeroValue206
 t46:=Tryz.underlying207
 a46:=Tryz.isAgg207
 z46:=Tryz.sizeOf207
 v46:=Tryz.zeroValue207
 t50:=Tryz.underlying211
 a50:=Tryz.isAgg211
 z50:=Tryz.sizeOf211
 v50:=Tryz.zeroValue211
 t53:=Tryz.underlying214
 a53:=Tryz.isAgg214
 z53:=Tryz.sizeOf214
 v53:=Tryz.zeroValue214
 t55:=Tryz.underlying144
 a55:=Tryz.isAgg144
 z55:=Tryz.sizeOf144
 v55:=Tryz.zeroValue144
 t66:=Tryz.underlying215
 a66:=Tryz.isAgg215
 z66:=Tryz.sizeOf215
 v66:=Tryz.zeroValue215
 t70:=Tryz.underlying219
 a70:=Tryz.isAgg219
 z70:=Tryz.sizeOf219
 v70:=Tryz.zeroValue219
 t76:=Tryz.underlying221
 a76:=Tryz.isAgg221
 z76:=Tryz.sizeOf221
 v76:=Tryz.zeroValue221
 t77:=Tryz.underlying50
 a77:=Tryz.isAgg50
 z77:=Tryz.sizeOf50
 v77:=Tryz.zeroValue50 }
def Tryz.cmpInt_ren:Go.Shelf.Ren:=⟨fun|5=>144|7=>157|n=>n,fun|22=>3|3=>3|4=>4|n=>n,fun|n=>n⟩
theorem Tryz.cmpInt:Go.Proofs.SlLaysC2.n5 Tryz.prog Tryz.cmpInt_ren:={
 mixed:=by kernel_rfl
 f5:=⟨Tryz.f144.name,by decide,Tryz.func144.trans (congrArg some (by kernel_rfl))⟩
 f7:=⟨Tryz.f157.name,by decide,Tryz.func157.trans (congrArg some (by kernel_rfl))⟩
 t3:=Tryz.underlying3
 a3:=Tryz.isAgg3
 z3:=Tryz.sizeOf3
 v3:=Tryz.zeroValue3
 t4:=Tryz.underlying4
 a4:=Tryz.isAgg4
 z4:=Tryz.sizeOf4
 v4:=Tryz.zeroValue4
 t22:=Tryz.underlying3
 a22:=Tryz.isAgg3
 z22:=Tryz.sizeOf3
 v22:=Tryz.zeroValue3 }
end Go.Proofs
