/-
  Part 8 of the texts that the statement stands on.
-/
import Derived.Test.YtioijcfcehhmdaaGreatDoorZ7
set_option linter.all false
namespace Go.Proofs.YtioijcfcehhmdaaGreatDoor.V
theorem aw0:cal env 43 [(.int .i64 0),(.int .u8 1)]=some [((.agg [(.int .i64 0),(.int .i64 0),(.list 8 [(.agg [(.int .u8 1),(.int .u8 0),(.int .u8 0),(.int .u8 0),(.int .u8 0),(.int .u8 0),(.int .u8 0),(.int .u8 0)])])]),false)]:=bf (n:=400) (by kernel_rfl)
theorem aw1:cal env 39 [(.list 1 [(.int .i64 3)]),(.list 3 [(.agg [(.int .i64 0),(.int .i64 0),(.list 8 [(.agg [(.int .u8 1),(.int .u8 0),(.int .u8 0),(.int .u8 0),(.int .u8 0),(.int .u8 0),(.int .u8 0),(.int .u8 0)])])])])]=some [((.list 2 [(.agg [(.int .i64 3),(.list 1 [(.int .u64 1)])])]),true),((.bool true),false)]:=bf (n:=400) (by kernel_rfl)
theorem aw2:cal env 43 [(.int .i64 2),(.int .u8 2)]=some [((.agg [(.int .i64 0),(.int .i64 2),(.list 8 [(.agg [(.int .u8 2),(.int .u8 0),(.int .u8 0),(.int .u8 0),(.int .u8 0),(.int .u8 0),(.int .u8 0),(.int .u8 0)])])]),false)]:=bf (n:=400) (by kernel_rfl)
theorem aw3:cal env 39 [(.list 1 [(.int .i64 3)]),(.list 3 [(.agg [(.int .i64 0),(.int .i64 2),(.list 8 [(.agg [(.int .u8 2),(.int .u8 0),(.int .u8 0),(.int .u8 0),(.int .u8 0),(.int .u8 0),(.int .u8 0),(.int .u8 0)])])])])]=some [((.list 2 [(.agg [(.int .i64 3),(.list 1 [(.int .u64 4)])])]),true),((.bool true),false)]:=bf (n:=400) (by kernel_rfl)
theorem aw4:cal env 39 [(.list 1 [(.int .i64 3)]),(.list 3 [(.agg [(.int .i64 0),(.int .i64 0),(.list 8 [(.agg [(.int .u8 1),(.int .u8 0),(.int .u8 0),(.int .u8 0),(.int .u8 0),(.int .u8 0),(.int .u8 0),(.int .u8 0)])])]),(.agg [(.int .i64 0),(.int .i64 2),(.list 8 [(.agg [(.int .u8 2),(.int .u8 0),(.int .u8 0),(.int .u8 0),(.int .u8 0),(.int .u8 0),(.int .u8 0),(.int .u8 0)])])])])]=some [((.list 2 [(.agg [(.int .i64 3),(.list 1 [(.int .u64 5)])])]),true),((.bool true),false)]:=bf (n:=400) (by kernel_rfl)
theorem aw5:cal env 43 [(.int .i64 1),(.int .u8 3)]=some [((.agg [(.int .i64 0),(.int .i64 1),(.list 8 [(.agg [(.int .u8 3),(.int .u8 0),(.int .u8 0),(.int .u8 0),(.int .u8 0),(.int .u8 0),(.int .u8 0),(.int .u8 0)])])]),false)]:=bf (n:=400) (by kernel_rfl)
theorem aw6:cal env 39 [(.list 1 [(.int .i64 3)]),(.list 3 [(.agg [(.int .i64 0),(.int .i64 1),(.list 8 [(.agg [(.int .u8 3),(.int .u8 0),(.int .u8 0),(.int .u8 0),(.int .u8 0),(.int .u8 0),(.int .u8 0),(.int .u8 0)])])])])]=some [((.list 2 [(.agg [(.int .i64 3),(.list 1 [(.int .u64 2)])])]),true),((.bool true),false)]:=bf (n:=400) (by kernel_rfl)
theorem aw7:cal env 44 [(.list 1 [(.list 8 [(.agg [(.int .u8 1),(.int .u8 0),(.int .u8 0),(.int .u8 0),(.int .u8 0),(.int .u8 0),(.int .u8 0),(.int .u8 0)]),(.agg [(.int .u8 0),(.int .u8 0),(.int .u8 0),(.int .u8 0),(.int .u8 0),(.int .u8 0),(.int .u8 0),(.int .u8 0)]),(.agg [(.int .u8 0),(.int .u8 0),(.int .u8 0),(.int .u8 0),(.int .u8 0),(.int .u8 0),(.int .u8 0),(.int .u8 0)])])]),(.list 2 [(.agg [(.int .i64 3),(.list 1 [(.int .u64 1)])])])]=some [((.agg [(.int .i64 0),(.list 3 [(.agg [(.int .i64 1),(.int .i64 1),(.int .i64 7)])]),(.list 2 [(.agg [(.int .i64 3),(.list 1 [(.int .u64 1)])])]),(.list 1 [(.list 8 [(.agg [(.int .u8 1),(.int .u8 0),(.int .u8 0),(.int .u8 0),(.int .u8 0),(.int .u8 0),(.int .u8 0),(.int .u8 0)]),(.agg [(.int .u8 0),(.int .u8 0),(.int .u8 0),(.int .u8 0),(.int .u8 0),(.int .u8 0),(.int .u8 0),(.int .u8 0)]),(.agg [(.int .u8 0),(.int .u8 0),(.int .u8 0),(.int .u8 0),(.int .u8 0),(.int .u8 0),(.int .u8 0),(.int .u8 0)])])])]),false)]:=bf (n:=400) (by kernel_rfl)
theorem aw8:cal env 45 [(.list 1 [(.list 8 [(.agg [(.int .u8 0),(.int .u8 0),(.int .u8 0),(.int .u8 0),(.int .u8 0),(.int .u8 0),(.int .u8 0),(.int .u8 0)]),(.agg [(.int .u8 0),(.int .u8 0),(.int .u8 0),(.int .u8 0),(.int .u8 0),(.int .u8 0),(.int .u8 0),(.int .u8 0)]),(.agg [(.int .u8 2),(.int .u8 0),(.int .u8 0),(.int .u8 0),(.int .u8 0),(.int .u8 0),(.int .u8 0),(.int .u8 0)])])]),(.list 2 [(.agg [(.int .i64 3),(.list 1 [(.int .u64 4)])])])]=some [((.agg [(.int .i64 1),(.list 3 [(.agg [(.int .i64 1),(.int .i64 1),(.int .i64 5)]),(.agg [(.int .i64 2),(.int .i64 6),(.int .i64 9)])]),(.list 2 [(.agg [(.int .i64 3),(.list 1 [(.int .u64 4)])])]),(.list 1 [(.list 8 [(.agg [(.int .u8 0),(.int .u8 0),(.int .u8 0),(.int .u8 0),(.int .u8 0),(.int .u8 0),(.int .u8 0),(.int .u8 0)]),(.agg [(.int .u8 0),(.int .u8 0),(.int .u8 0),(.int .u8 0),(.int .u8 0),(.int .u8 0),(.int .u8 0),(.int .u8 0)]),(.agg [(.int .u8 2),(.int .u8 0),(.int .u8 0),(.int .u8 0),(.int .u8 0),(.int .u8 0),(.int .u8 0),(.int .u8 0)])])])]),false)]:=bf (n:=400) (by kernel_rfl)
theorem aw9:cal env 24 [(.agg [(.int .i64 0),(.list 3 [(.agg [(.int .i64 1),(.int .i64 1),(.int .i64 7)])]),(.list 2 [(.agg [(.int .i64 3),(.list 1 [(.int .u64 1)])])]),(.list 1 [(.list 8 [(.agg [(.int .u8 1),(.int .u8 0),(.int .u8 0),(.int .u8 0),(.int .u8 0),(.int .u8 0),(.int .u8 0),(.int .u8 0)]),(.agg [(.int .u8 0),(.int .u8 0),(.int .u8 0),(.int .u8 0),(.int .u8 0),(.int .u8 0),(.int .u8 0),(.int .u8 0)]),(.agg [(.int .u8 0),(.int .u8 0),(.int .u8 0),(.int .u8 0),(.int .u8 0),(.int .u8 0),(.int .u8 0),(.int .u8 0)])])])]),(.agg [(.int .i64 1),(.list 3 [(.agg [(.int .i64 1),(.int .i64 1),(.int .i64 5)]),(.agg [(.int .i64 2),(.int .i64 6),(.int .i64 9)])]),(.list 2 [(.agg [(.int .i64 3),(.list 1 [(.int .u64 4)])])]),(.list 1 [(.list 8 [(.agg [(.int .u8 0),(.int .u8 0),(.int .u8 0),(.int .u8 0),(.int .u8 0),(.int .u8 0),(.int .u8 0),(.int .u8 0)]),(.agg [(.int .u8 0),(.int .u8 0),(.int .u8 0),(.int .u8 0),(.int .u8 0),(.int .u8 0),(.int .u8 0),(.int .u8 0)]),(.agg [(.int .u8 2),(.int .u8 0),(.int .u8 0),(.int .u8 0),(.int .u8 0),(.int .u8 0),(.int .u8 0),(.int .u8 0)])])])]),(.int .i64 3)]=some [((.agg [(.int .i64 3),(.int .i64 1),(.int .i64 0),(.int .i64 0),(.int .i64 3),(.int .i64 5),(.bool false),(.bool false)]),false),((.list 1 [(.list 2 [(.agg [(.int .i64 0),(.int .i64 1)]),(.agg [(.int .i64 2),(.int .i64 1)])])]),false),((.int .i64 0),false)]:=bf (n:=400) (by kernel_rfl)
theorem anP:cal env 27 [(.list 1 [(.list 2 [(.agg [(.int .i64 0),(.int .i64 1)]),(.agg [(.int .i64 2),(.int .i64 1)])])]),(.list 1 [(.list 2 [(.agg [(.int .i64 0),(.int .i64 1)]),(.agg [(.int .i64 2),(.int .i64 1)])])])]=some [((.bool true),false)]:=bf (n:=400) (by kernel_rfl)
theorem anQ:cal env 45 [(.list 1 [(.list 8 [(.agg [(.int .u8 0),(.int .u8 0),(.int .u8 0),(.int .u8 0),(.int .u8 0),(.int .u8 0),(.int .u8 0),(.int .u8 0)]),(.agg [(.int .u8 0),(.int .u8 0),(.int .u8 0),(.int .u8 0),(.int .u8 0),(.int .u8 0),(.int .u8 0),(.int .u8 0)]),(.agg [(.int .u8 2),(.int .u8 0),(.int .u8 0),(.int .u8 0),(.int .u8 0),(.int .u8 0),(.int .u8 0),(.int .u8 0)])])]),(.list 2 [(.agg [(.int .i64 3),(.list 1 [(.int .u64 5)])])])]=some [((.agg [(.int .i64 1),(.list 3 [(.agg [(.int .i64 1),(.int .i64 1),(.int .i64 5)]),(.agg [(.int .i64 2),(.int .i64 6),(.int .i64 9)])]),(.list 2 [(.agg [(.int .i64 3),(.list 1 [(.int .u64 5)])])]),(.list 1 [(.list 8 [(.agg [(.int .u8 0),(.int .u8 0),(.int .u8 0),(.int .u8 0),(.int .u8 0),(.int .u8 0),(.int .u8 0),(.int .u8 0)]),(.agg [(.int .u8 0),(.int .u8 0),(.int .u8 0),(.int .u8 0),(.int .u8 0),(.int .u8 0),(.int .u8 0),(.int .u8 0)]),(.agg [(.int .u8 2),(.int .u8 0),(.int .u8 0),(.int .u8 0),(.int .u8 0),(.int .u8 0),(.int .u8 0),(.int .u8 0)])])])]),false)]:=bf (n:=400) (by kernel_rfl)
theorem anR:cal env 12 [(.agg [(.int .i64 3),(.int .i64 1),(.int .i64 0),(.int .i64 0),(.int .i64 3),(.int .i64 5),(.bool false),(.bool false)]),(.agg [(.int .i64 1),(.list 3 [(.agg [(.int .i64 1),(.int .i64 1),(.int .i64 5)]),(.agg [(.int .i64 2),(.int .i64 6),(.int .i64 9)])]),(.list 2 [(.agg [(.int .i64 3),(.list 1 [(.int .u64 5)])])]),(.list 1 [(.list 8 [(.agg [(.int .u8 0),(.int .u8 0),(.int .u8 0),(.int .u8 0),(.int .u8 0),(.int .u8 0),(.int .u8 0),(.int .u8 0)]),(.agg [(.int .u8 0),(.int .u8 0),(.int .u8 0),(.int .u8 0),(.int .u8 0),(.int .u8 0),(.int .u8 0),(.int .u8 0)]),(.agg [(.int .u8 2),(.int .u8 0),(.int .u8 0),(.int .u8 0),(.int .u8 0),(.int .u8 0),(.int .u8 0),(.int .u8 0)])])])]),(.int .i64 10),(.int .i64 0)]=some [((.agg [(.int .i64 3),(.int .i64 1),(.int .i64 0),(.int .i64 1),(.int .i64 3),(.int .i64 10),(.bool false),(.bool false)]),false),((.agg [(.int .i64 5),(.int .i64 10),(.int .i64 0),(.list 1 []),(.list 3 [(.agg [(.int .i64 0),(.int .i64 0),(.list 8 [(.agg [(.int .u8 0),(.int .u8 0),(.int .u8 0),(.int .u8 0),(.int .u8 0),(.int .u8 0),(.int .u8 0),(.int .u8 0)])])]),(.agg [(.int .i64 0),(.int .i64 2),(.list 8 [(.agg [(.int .u8 2),(.int .u8 0),(.int .u8 0),(.int .u8 0),(.int .u8 0),(.int .u8 0),(.int .u8 0),(.int .u8 0)])])])])]),false),((.int .i64 0),false)]:=bf (n:=400) (by kernel_rfl)
theorem anS:cal env 36 [(.list 1 [(.list 8 [(.agg [(.int .u8 1),(.int .u8 0),(.int .u8 0),(.int .u8 0),(.int .u8 0),(.int .u8 0),(.int .u8 0),(.int .u8 0)]),(.agg [(.int .u8 0),(.int .u8 0),(.int .u8 0),(.int .u8 0),(.int .u8 0),(.int .u8 0),(.int .u8 0),(.int .u8 0)]),(.agg [(.int .u8 0),(.int .u8 0),(.int .u8 0),(.int .u8 0),(.int .u8 0),(.int .u8 0),(.int .u8 0),(.int .u8 0)])])]),(.agg [(.int .i64 5),(.int .i64 10),(.int .i64 0),(.list 1 []),(.list 3 [(.agg [(.int .i64 0),(.int .i64 0),(.list 8 [(.agg [(.int .u8 0),(.int .u8 0),(.int .u8 0),(.int .u8 0),(.int .u8 0),(.int .u8 0),(.int .u8 0),(.int .u8 0)])])]),(.agg [(.int .i64 0),(.int .i64 2),(.list 8 [(.agg [(.int .u8 2),(.int .u8 0),(.int .u8 0),(.int .u8 0),(.int .u8 0),(.int .u8 0),(.int .u8 0),(.int .u8 0)])])])])])]=some [((.list 1 [(.list 8 [(.agg [(.int .u8 0),(.int .u8 0),(.int .u8 0),(.int .u8 0),(.int .u8 0),(.int .u8 0),(.int .u8 0),(.int .u8 0)]),(.agg [(.int .u8 0),(.int .u8 0),(.int .u8 0),(.int .u8 0),(.int .u8 0),(.int .u8 0),(.int .u8 0),(.int .u8 0)]),(.agg [(.int .u8 2),(.int .u8 0),(.int .u8 0),(.int .u8 0),(.int .u8 0),(.int .u8 0),(.int .u8 0),(.int .u8 0)])])]),false),((.int .i64 0),false)]:=bf (n:=400) (by kernel_rfl)
theorem anT:cal env 44 [(.list 1 [(.list 8 [(.agg [(.int .u8 0),(.int .u8 0),(.int .u8 0),(.int .u8 0),(.int .u8 0),(.int .u8 0),(.int .u8 0),(.int .u8 0)]),(.agg [(.int .u8 0),(.int .u8 0),(.int .u8 0),(.int .u8 0),(.int .u8 0),(.int .u8 0),(.int .u8 0),(.int .u8 0)]),(.agg [(.int .u8 2),(.int .u8 0),(.int .u8 0),(.int .u8 0),(.int .u8 0),(.int .u8 0),(.int .u8 0),(.int .u8 0)])])]),(.list 2 [(.agg [(.int .i64 3),(.list 1 [(.int .u64 1)])])])]=some [((.agg [(.int .i64 0),(.list 3 [(.agg [(.int .i64 1),(.int .i64 1),(.int .i64 7)])]),(.list 2 [(.agg [(.int .i64 3),(.list 1 [(.int .u64 1)])])]),(.list 1 [(.list 8 [(.agg [(.int .u8 0),(.int .u8 0),(.int .u8 0),(.int .u8 0),(.int .u8 0),(.int .u8 0),(.int .u8 0),(.int .u8 0)]),(.agg [(.int .u8 0),(.int .u8 0),(.int .u8 0),(.int .u8 0),(.int .u8 0),(.int .u8 0),(.int .u8 0),(.int .u8 0)]),(.agg [(.int .u8 2),(.int .u8 0),(.int .u8 0),(.int .u8 0),(.int .u8 0),(.int .u8 0),(.int .u8 0),(.int .u8 0)])])])]),false)]:=bf (n:=400) (by kernel_rfl)
theorem anU:cal env 45 [(.list 1 [(.list 8 [(.agg [(.int .u8 0),(.int .u8 0),(.int .u8 0),(.int .u8 0),(.int .u8 0),(.int .u8 0),(.int .u8 0),(.int .u8 0)]),(.agg [(.int .u8 3),(.int .u8 0),(.int .u8 0),(.int .u8 0),(.int .u8 0),(.int .u8 0),(.int .u8 0),(.int .u8 0)]),(.agg [(.int .u8 2),(.int .u8 0),(.int .u8 0),(.int .u8 0),(.int .u8 0),(.int .u8 0),(.int .u8 0),(.int .u8 0)])])]),(.list 2 [(.agg [(.int .i64 3),(.list 1 [(.int .u64 2)])])])]=some [((.agg [(.int .i64 1),(.list 3 [(.agg [(.int .i64 1),(.int .i64 1),(.int .i64 5)]),(.agg [(.int .i64 2),(.int .i64 6),(.int .i64 9)])]),(.list 2 [(.agg [(.int .i64 3),(.list 1 [(.int .u64 2)])])]),(.list 1 [(.list 8 [(.agg [(.int .u8 0),(.int .u8 0),(.int .u8 0),(.int .u8 0),(.int .u8 0),(.int .u8 0),(.int .u8 0),(.int .u8 0)]),(.agg [(.int .u8 3),(.int .u8 0),(.int .u8 0),(.int .u8 0),(.int .u8 0),(.int .u8 0),(.int .u8 0),(.int .u8 0)]),(.agg [(.int .u8 2),(.int .u8 0),(.int .u8 0),(.int .u8 0),(.int .u8 0),(.int .u8 0),(.int .u8 0),(.int .u8 0)])])])]),false)]:=bf (n:=400) (by kernel_rfl)
theorem anV:cal env 15 [(.agg [(.int .i64 3),(.int .i64 1),(.int .i64 0),(.int .i64 1),(.int .i64 3),(.int .i64 10),(.bool false),(.bool false)]),(.agg [(.int .i64 0),(.list 3 [(.agg [(.int .i64 1),(.int .i64 1),(.int .i64 7)])]),(.list 2 [(.agg [(.int .i64 3),(.list 1 [(.int .u64 1)])])]),(.list 1 [(.list 8 [(.agg [(.int .u8 0),(.int .u8 0),(.int .u8 0),(.int .u8 0),(.int .u8 0),(.int .u8 0),(.int .u8 0),(.int .u8 0)]),(.agg [(.int .u8 0),(.int .u8 0),(.int .u8 0),(.int .u8 0),(.int .u8 0),(.int .u8 0),(.int .u8 0),(.int .u8 0)]),(.agg [(.int .u8 2),(.int .u8 0),(.int .u8 0),(.int .u8 0),(.int .u8 0),(.int .u8 0),(.int .u8 0),(.int .u8 0)])])])]),(.agg [(.int .i64 1),(.list 3 [(.agg [(.int .i64 1),(.int .i64 1),(.int .i64 5)]),(.agg [(.int .i64 2),(.int .i64 6),(.int .i64 9)])]),(.list 2 [(.agg [(.int .i64 3),(.list 1 [(.int .u64 2)])])]),(.list 1 [(.list 8 [(.agg [(.int .u8 0),(.int .u8 0),(.int .u8 0),(.int .u8 0),(.int .u8 0),(.int .u8 0),(.int .u8 0),(.int .u8 0)]),(.agg [(.int .u8 3),(.int .u8 0),(.int .u8 0),(.int .u8 0),(.int .u8 0),(.int .u8 0),(.int .u8 0),(.int .u8 0)]),(.agg [(.int .u8 2),(.int .u8 0),(.int .u8 0),(.int .u8 0),(.int .u8 0),(.int .u8 0),(.int .u8 0),(.int .u8 0)])])])])]=some [((.agg [(.int .i64 0),(.int .i64 0),(.int .i64 0),(.int .i64 0),(.int .i64 0),(.int .i64 0),(.bool false),(.bool false)]),false),((.int .i64 22),false)]:=bf (n:=400) (by kernel_rfl)
theorem anW:cal env 12 [(.agg [(.int .i64 3),(.int .i64 1),(.int .i64 0),(.int .i64 1),(.int .i64 3),(.int .i64 10),(.bool false),(.bool false)]),(.agg [(.int .i64 1),(.list 3 [(.agg [(.int .i64 1),(.int .i64 1),(.int .i64 5)]),(.agg [(.int .i64 2),(.int .i64 6),(.int .i64 9)])]),(.list 2 [(.agg [(.int .i64 3),(.list 1 [(.int .u64 2)])])]),(.list 1 [(.list 8 [(.agg [(.int .u8 0),(.int .u8 0),(.int .u8 0),(.int .u8 0),(.int .u8 0),(.int .u8 0),(.int .u8 0),(.int .u8 0)]),(.agg [(.int .u8 3),(.int .u8 0),(.int .u8 0),(.int .u8 0),(.int .u8 0),(.int .u8 0),(.int .u8 0),(.int .u8 0)]),(.agg [(.int .u8 2),(.int .u8 0),(.int .u8 0),(.int .u8 0),(.int .u8 0),(.int .u8 0),(.int .u8 0),(.int .u8 0)])])])]),(.int .i64 11),(.int .i64 0)]=some [((.agg [(.int .i64 3),(.int .i64 1),(.int .i64 0),(.int .i64 2),(.int .i64 3),(.int .i64 11),(.bool false),(.bool false)]),false),((.agg [(.int .i64 10),(.int .i64 11),(.int .i64 0),(.list 1 []),(.list 3 [(.agg [(.int .i64 0),(.int .i64 1),(.list 8 [(.agg [(.int .u8 3),(.int .u8 0),(.int .u8 0),(.int .u8 0),(.int .u8 0),(.int .u8 0),(.int .u8 0),(.int .u8 0)])])])])]),false),((.int .i64 0),false)]:=bf (n:=400) (by kernel_rfl)
theorem anX:cal env 36 [(.list 1 [(.list 8 [(.agg [(.int .u8 0),(.int .u8 0),(.int .u8 0),(.int .u8 0),(.int .u8 0),(.int .u8 0),(.int .u8 0),(.int .u8 0)]),(.agg [(.int .u8 0),(.int .u8 0),(.int .u8 0),(.int .u8 0),(.int .u8 0),(.int .u8 0),(.int .u8 0),(.int .u8 0)]),(.agg [(.int .u8 2),(.int .u8 0),(.int .u8 0),(.int .u8 0),(.int .u8 0),(.int .u8 0),(.int .u8 0),(.int .u8 0)])])]),(.agg [(.int .i64 10),(.int .i64 11),(.int .i64 0),(.list 1 []),(.list 3 [(.agg [(.int .i64 0),(.int .i64 1),(.list 8 [(.agg [(.int .u8 3),(.int .u8 0),(.int .u8 0),(.int .u8 0),(.int .u8 0),(.int .u8 0),(.int .u8 0),(.int .u8 0)])])])])])]=some [((.list 1 [(.list 8 [(.agg [(.int .u8 0),(.int .u8 0),(.int .u8 0),(.int .u8 0),(.int .u8 0),(.int .u8 0),(.int .u8 0),(.int .u8 0)]),(.agg [(.int .u8 3),(.int .u8 0),(.int .u8 0),(.int .u8 0),(.int .u8 0),(.int .u8 0),(.int .u8 0),(.int .u8 0)]),(.agg [(.int .u8 2),(.int .u8 0),(.int .u8 0),(.int .u8 0),(.int .u8 0),(.int .u8 0),(.int .u8 0),(.int .u8 0)])])]),false),((.int .i64 0),false)]:=bf (n:=400) (by kernel_rfl)
theorem anY:cal env 44 [(.list 1 [(.list 8 [(.agg [(.int .u8 0),(.int .u8 0),(.int .u8 0),(.int .u8 0),(.int .u8 0),(.int .u8 0),(.int .u8 0),(.int .u8 0)]),(.agg [(.int .u8 3),(.int .u8 0),(.int .u8 0),(.int .u8 0),(.int .u8 0),(.int .u8 0),(.int .u8 0),(.int .u8 0)]),(.agg [(.int .u8 2),(.int .u8 0),(.int .u8 0),(.int .u8 0),(.int .u8 0),(.int .u8 0),(.int .u8 0),(.int .u8 0)])])]),(.list 2 [(.agg [(.int .i64 3),(.list 1 [(.int .u64 1)])])])]=some [((.agg [(.int .i64 0),(.list 3 [(.agg [(.int .i64 1),(.int .i64 1),(.int .i64 7)])]),(.list 2 [(.agg [(.int .i64 3),(.list 1 [(.int .u64 1)])])]),(.list 1 [(.list 8 [(.agg [(.int .u8 0),(.int .u8 0),(.int .u8 0),(.int .u8 0),(.int .u8 0),(.int .u8 0),(.int .u8 0),(.int .u8 0)]),(.agg [(.int .u8 3),(.int .u8 0),(.int .u8 0),(.int .u8 0),(.int .u8 0),(.int .u8 0),(.int .u8 0),(.int .u8 0)]),(.agg [(.int .u8 2),(.int .u8 0),(.int .u8 0),(.int .u8 0),(.int .u8 0),(.int .u8 0),(.int .u8 0),(.int .u8 0)])])])]),false)]:=bf (n:=400) (by kernel_rfl)
theorem anZ:cal env 15 [(.agg [(.int .i64 3),(.int .i64 1),(.int .i64 0),(.int .i64 2),(.int .i64 3),(.int .i64 11),(.bool false),(.bool false)]),(.agg [(.int .i64 0),(.list 3 [(.agg [(.int .i64 1),(.int .i64 1),(.int .i64 7)])]),(.list 2 [(.agg [(.int .i64 3),(.list 1 [(.int .u64 1)])])]),(.list 1 [(.list 8 [(.agg [(.int .u8 0),(.int .u8 0),(.int .u8 0),(.int .u8 0),(.int .u8 0),(.int .u8 0),(.int .u8 0),(.int .u8 0)]),(.agg [(.int .u8 3),(.int .u8 0),(.int .u8 0),(.int .u8 0),(.int .u8 0),(.int .u8 0),(.int .u8 0),(.int .u8 0)]),(.agg [(.int .u8 2),(.int .u8 0),(.int .u8 0),(.int .u8 0),(.int .u8 0),(.int .u8 0),(.int .u8 0),(.int .u8 0)])])])]),(.agg [(.int .i64 1),(.list 3 [(.agg [(.int .i64 1),(.int .i64 1),(.int .i64 5)]),(.agg [(.int .i64 2),(.int .i64 6),(.int .i64 9)])]),(.list 2 [(.agg [(.int .i64 3),(.list 1 [(.int .u64 2)])])]),(.list 1 [(.list 8 [(.agg [(.int .u8 0),(.int .u8 0),(.int .u8 0),(.int .u8 0),(.int .u8 0),(.int .u8 0),(.int .u8 0),(.int .u8 0)]),(.agg [(.int .u8 3),(.int .u8 0),(.int .u8 0),(.int .u8 0),(.int .u8 0),(.int .u8 0),(.int .u8 0),(.int .u8 0)]),(.agg [(.int .u8 2),(.int .u8 0),(.int .u8 0),(.int .u8 0),(.int .u8 0),(.int .u8 0),(.int .u8 0),(.int .u8 0)])])])])]=some [((.agg [(.int .i64 3),(.int .i64 1),(.int .i64 0),(.int .i64 2),(.int .i64 3),(.int .i64 11),(.bool true),(.bool false)]),false),((.int .i64 0),false)]:=bf (n:=400) (by kernel_rfl)
theorem an0:cal env 17 [(.list 1 [(.list 8 [(.agg [(.int .u8 1),(.int .u8 0),(.int .u8 0),(.int .u8 0),(.int .u8 0),(.int .u8 0),(.int .u8 0),(.int .u8 0)]),(.agg [(.int .u8 0),(.int .u8 0),(.int .u8 0),(.int .u8 0),(.int .u8 0),(.int .u8 0),(.int .u8 0),(.int .u8 0)]),(.agg [(.int .u8 0),(.int .u8 0),(.int .u8 0),(.int .u8 0),(.int .u8 0),(.int .u8 0),(.int .u8 0),(.int .u8 0)])])]),(.list 1 [(.list 8 [(.agg [(.int .u8 0),(.int .u8 0),(.int .u8 0),(.int .u8 0),(.int .u8 0),(.int .u8 0),(.int .u8 0),(.int .u8 0)]),(.agg [(.int .u8 0),(.int .u8 0),(.int .u8 0),(.int .u8 0),(.int .u8 0),(.int .u8 0),(.int .u8 0),(.int .u8 0)]),(.agg [(.int .u8 2),(.int .u8 0),(.int .u8 0),(.int .u8 0),(.int .u8 0),(.int .u8 0),(.int .u8 0),(.int .u8 0)])])])]=some [((.int .i64 2),false),((.int .i64 0),false)]:=bf (n:=400) (by kernel_rfl)
theorem an4:cal env 37 [(.list 1 [(.list 8 [(.agg [(.int .u8 0),(.int .u8 0),(.int .u8 0),(.int .u8 0),(.int .u8 0),(.int .u8 0),(.int .u8 0),(.int .u8 0)]),(.agg [(.int .u8 3),(.int .u8 0),(.int .u8 0),(.int .u8 0),(.int .u8 0),(.int .u8 0),(.int .u8 0),(.int .u8 0)]),(.agg [(.int .u8 2),(.int .u8 0),(.int .u8 0),(.int .u8 0),(.int .u8 0),(.int .u8 0),(.int .u8 0),(.int .u8 0)])])]),(.list 1 [(.list 8 [(.agg [(.int .u8 0),(.int .u8 0),(.int .u8 0),(.int .u8 0),(.int .u8 0),(.int .u8 0),(.int .u8 0),(.int .u8 0)]),(.agg [(.int .u8 3),(.int .u8 0),(.int .u8 0),(.int .u8 0),(.int .u8 0),(.int .u8 0),(.int .u8 0),(.int .u8 0)]),(.agg [(.int .u8 2),(.int .u8 0),(.int .u8 0),(.int .u8 0),(.int .u8 0),(.int .u8 0),(.int .u8 0),(.int .u8 0)])])])]=some [((.bool true),false)]:=bf (n:=400) (by kernel_rfl)
theorem an5:cal env 20 [(.list 5 [(.agg [(.int .i64 5),(.int .i64 10),(.int .i64 0),(.list 1 []),(.list 3 [(.agg [(.int .i64 0),(.int .i64 0),(.list 8 [(.agg [(.int .u8 0),(.int .u8 0),(.int .u8 0),(.int .u8 0),(.int .u8 0),(.int .u8 0),(.int .u8 0),(.int .u8 0)])])]),(.agg [(.int .i64 0),(.int .i64 2),(.list 8 [(.agg [(.int .u8 2),(.int .u8 0),(.int .u8 0),(.int .u8 0),(.int .u8 0),(.int .u8 0),(.int .u8 0),(.int .u8 0)])])])])]),(.agg [(.int .i64 10),(.int .i64 11),(.int .i64 0),(.list 1 []),(.list 3 [(.agg [(.int .i64 0),(.int .i64 1),(.list 8 [(.agg [(.int .u8 3),(.int .u8 0),(.int .u8 0),(.int .u8 0),(.int .u8 0),(.int .u8 0),(.int .u8 0),(.int .u8 0)])])])])])])]=some [((.int .i64 3),false)]:=bf (n:=400) (by kernel_rfl)
theorem scP (k s1 s2 s3 a l1 l2 l3):(PV.agg [.int k a,.list s1 l1,.list s2 l2,.list s3 l3]).scalar=false:=rfl
theorem scW (k k2 s1 a b l1):(PV.agg [.int k a,.int k2 b,.list s1 l1]).scalar=false:=rfl
theorem scB (k s1 a l1):(PV.agg [.int k a,.list s1 l1]).scalar=false:=rfl
theorem scC (k1 k2 k3 s1 s2 a b c l1 l2):(PV.agg [.int k1 a,.int k2 b,.int k3 c,.list s1 l1,.list s2 l2]).scalar=false:=rfl
theorem scQ (k1 k2 k3 k4 k5 k6 a b c d e f x y):(PV.agg [.int k1 a,.int k2 b,.int k3 c,.int k4 d,.int k5 e,.int k6 f,.bool x,.bool y]).scalar=true:=rfl
theorem w00:IntKind.i64.wrap 0=0:=by decide
set_option maxRecDepth 20000 in
theorem ac5:cal env 11 []=some [(.bool true,false)]:=by
 rw [ah akI rfl];simp only [aaZ,aK,Nat.reduceBEq,Nat.reduceLeDiff,Nat.reduceAdd,List.length_cons,List.length_nil]
 simp only [aw0,aw1,aw2,aw3,aw4,aw5,aw6,aw7,aw8,aw9,anP,anQ,anR,anS,anT,anU,anV,anW,anX,anY,anZ,an0,an4,an5,scP,scW,scB,scC,scQ,w00,Int.add_zero,aN,Nat.reduceMul,Nat.reduceBEq,Nat.reduceLT,Nat.reduceLeDiff,reduceCtorEq,Nat.reduceEqDiff,Nat.reduceAdd,Nat.beq]
end Go.Proofs.YtioijcfcehhmdaaGreatDoor.V

namespace Go.Proofs.YtioijcfcehhmdaaGreatDoor.V
structure Cye where
 base:Int
 num:Int
 time:Int
 pos:List Int
 ws:List iM
def ajm (c:Cye):PV:=.agg [.int .i64 c.base,.int .i64 c.num,.int .i64 c.time,.list 1 (c.pos.map eI),.list 3 (c.ws.map jL)]
theorem pI (c:Cye):ajm c=.agg [.int .i64 c.base,.int .i64 c.num,.int .i64 c.time,.list 1 (c.pos.map eI),.list 3 (c.ws.map jL)]:=rfl
end Go.Proofs.YtioijcfcehhmdaaGreatDoor.V

namespace Go.Proofs.YtioijcfcehhmdaaGreatDoor.V
end Go.Proofs.YtioijcfcehhmdaaGreatDoor.V

namespace Go.Proofs.YtioijcfcehhmdaaGreatDoor.V
def uX:Cye:=⟨0,0,0,[],[]⟩
def oI (p:Au) (a:Pt) (n t:Int):Int:=(if jS p=0 then (if iJ a=0 then (if a.site=p.pF then (if p.done=false then (if p.step<4096 then (if p.oH<n then (if (jD a.lin).to≤n then (if UH p.oH n t []=0 then 0 else UH p.oH n t []) else 2) else 2) else 11) else 12) else 1) else iJ a) else jS p)
def qB (p:Au) (a:Pt) (n t:Int):Au:=if oI p a n t=0 then { p with step:=p.step+1,oH:=n } else fH
def mX (p:Au) (a:Pt) (n t:Int):Cye:=if oI p a n t=0 then ⟨p.oH,n,t,[],mkW a⟩ else uX
theorem YI {p:Au} (h:jS p=0):p.step≤4096:=by
 unfold jS at h
 by_cases c:p.step≤4096
 ·exact c
 ·exfalso
  repeat' (split at h)
  all_goals first|omega|exact absurd h (by decide)
theorem ac6 (b n t:Int) (w:List iM):ajf b n t [] w=.agg [.int .i64 b,.int .i64 n,.int .i64 t,.list 1 [],.list 3 (w.map jL)]:=rfl
theorem MO:([]:List Int).map eI=[]:=rfl
theorem MP:([]:List iM).map jL=[]:=rfl
theorem MQ {im:iR} {i:Nat} (h:i<im.length):((au im).take (i+1)).map eI=((au im).take i).map eI++[.int .i64 (im[i].length:Int)]:=by
 have hi:i<(au im).length:=by simpa [au] using h
 rw [List.take_succ_eq_append_getElem hi,List.map_append]
 simp [au,eI]
theorem ac7 {a:Pt} {n:Int} {d0 d1 d2 d3 d4 d5:List BV} (hi0:a.img.length≤lim) {st:St} (h:st.head [2,8,9,10,11,14,68,69,70,78] st.boxes.length=some ⟨sl 96 [(2,.pv (.int .i64 n)),(8,.aV 2 0),(9,.aV 3 0),(10,.aV 4 0),(11,.aV 5 0),(14,.row 1 (((au a.img).take ((0:Nat))).map eI)),(68,.pv (.list 1 (a.img.map bF))),(69,.pv (.int .i64 a.img.length)),(70,.pv (.int .i64 (0:Nat))),(78,.any)],[⟨false,d0⟩,⟨false,d1⟩,⟨false,d2⟩,⟨false,d3⟩,⟨false,d4⟩,⟨false,d5⟩],[],none⟩) :
  den env KZ st=some (.normal,⟨sl 96 [(2,.pv (.int .i64 n)),(8,.aV 2 0),(9,.aV 3 0),(10,.aV 4 0),(11,.aV 5 0),(14,.row 1 ((au a.img).map eI))],[⟨false,d0⟩,⟨false,d1⟩,⟨false,d2⟩,⟨false,d3⟩,⟨false,d4⟩,⟨false,d5⟩],[],none⟩):=by
 unfold KZ
 refine dG (env:=env) (nb:=6) (a.img.length) (fun i=>⟨sl 96 [(2,.pv (.int .i64 n)),(8,.aV 2 0),(9,.aV 3 0),(10,.aV 4 0),(11,.aV 5 0),(14,.row 1 (((au a.img).take (i)).map eI)),(68,.pv (.list 1 (a.img.map bF))),(69,.pv (.int .i64 a.img.length)),(70,.pv (.int .i64 i)),(78,.any)],[⟨false,d0⟩,⟨false,d1⟩,⟨false,d2⟩,⟨false,d3⟩,⟨false,d4⟩,⟨false,d5⟩],[],none⟩) (fun i=>some (.normal,⟨sl 96 [(2,.pv (.int .i64 n)),(8,.aV 2 0),(9,.aV 3 0),(10,.aV 4 0),(11,.aV 5 0),(14,.row 1 ((au a.img).map eI))],[⟨false,d0⟩,⟨false,d1⟩,⟨false,d2⟩,⟨false,d3⟩,⟨false,d4⟩,⟨false,d5⟩],[],none⟩)) h (fun _=>rfl) (fun _=>by simp only [aK,dB,Nat.reduceMul,Nat.reduceBEq,Nat.reduceLT,Nat.reduceLeDiff,Nat.reduceAdd,decide_true,Bool.and_self,Bool.true_and]) ?_ ?_
 ·intro i rb hi ih
  have hi1:=cZ hi hi0
  have F1:((i:Int)<(a.img.length:Int))=True:=eq_true (by omega)
  have hy:=VN hi
  have e5:=MQ hi
  have F2:(((au a.img).take i).map eI).length+1≤lim:=by simp [au];omega
  have F2:=eq_true F2
  rw [List.length_map] at F2
  simp only [KY,F1,F2,hy,ay hi,List.length_map,aN,Nat.reduceMul,Nat.reduceBEq,Nat.reduceLT,Nat.reduceLeDiff,reduceCtorEq,Nat.reduceEqDiff,Nat.reduceAdd,Nat.beq]
  rw [ih _ (by simp only [hi1];rw [e5];simp only [aN,Nat.reduceMul,Nat.reduceBEq,Nat.reduceLT,Nat.reduceLeDiff,reduceCtorEq,Nat.reduceEqDiff,Nat.reduceAdd,Nat.beq]<;>rfl)]
  all_goals rfl
 ·intro rb
  have e9:(au a.img).take a.img.length=au a.img:=List.take_of_length_le (by simp [au])
  rw [e9]
  simp only [KY,Int.lt_irrefl,List.length_map,aN,Nat.reduceMul,Nat.reduceBEq,Nat.reduceLT,Nat.reduceLeDiff,reduceCtorEq,Nat.reduceEqDiff,Nat.reduceAdd,Nat.beq]
theorem alC {p:Au} {a:Pt} {n t:Int} (ha:BD a) (hl9:a.img.length≤9) (hv24:∀ v∈a.img,v.length≤24):cal env 12 [Ij p,CZ a,.int .i64 n,.int .i64 t]=some [(Ij (qB p a n t),false),(ajm (mX p a n t),false),(.int .i64 (oI p a n t),false)]:=by
 have d1:=alk (p:=p)
 rw [dw] at d1
 have g1:=acv (p:=a) ha
 rw [fC] at g1
 have h1:=acH (l:=a.lin) ha.1
 have k1:=acF
 have k2:=acG
 have q1:=yQ
 have q2:=Gl
 have q3:=BF
 rw [dw,fC,KR akJ rfl]
 by_cases c0:jS p=0
 rotate_left
 ·rw [if_neg c0] at d1
  have Z:(jS p=0)=False:=eq_false c0
  have hE:oI p a n t=jS p:=by unfold oI;rw [if_neg c0]
  have hO:qB p a n t=fH:=by unfold qB;rw [hE,if_neg c0]
  have hC:mX p a n t=uX:=by unfold mX;rw [hE,if_neg c0]
  rw [hE,hO,hC,dw,pI]
  simp only [Bq,aK,Nat.reduceBEq,Nat.reduceLeDiff,Nat.reduceAdd,List.length_cons,List.length_nil]
  simp only [h1,d1,Z,q1,q2,q3,fH,uX,MO,MP,aY,bH,aQ,nC.begun,fG,varOf,dS,dP,fF,jd,St.setVar,St.bK,St.eG,PV.gu,List.all_cons,List.all_nil,List.head?_cons,List.tail_cons,and_true,true_and,List.nodup_cons,List.mem_cons,List.not_mem_nil,or_false,not_false_eq_true,List.nodup_nil,Option.some.injEq,Nat.reduceEqDiff,Int.reduceEq,if_true,if_false,aN,Nat.reduceMul,Nat.reduceBEq,Nat.reduceLT,Nat.reduceLeDiff,reduceCtorEq,Nat.reduceAdd,Nat.beq]
 rw [if_pos c0] at d1
 have d2:=ahb (p:=p) c0
 rw [dw] at d2
 have hs1:=acI c0
 have hs2:=YI c0
 by_cases c1:iJ a=0
 rotate_left
 ·have k3:=VE c1
  have Z:(iJ a=0)=False:=eq_false c1
  have hE:oI p a n t=iJ a:=by unfold oI;rw [if_pos c0,if_neg c1]
  have hO:qB p a n t=fH:=by unfold qB;rw [hE,if_neg c1]
  have hC:mX p a n t=uX:=by unfold mX;rw [hE,if_neg c1]
  rw [hE,hO,hC,dw,pI]
  simp only [Bq,aK,Nat.reduceBEq,Nat.reduceLeDiff,Nat.reduceAdd,List.length_cons,List.length_nil]
  simp only [h1,d1,d2,g1,k3,Z,q1,q2,q3,fH,uX,MO,MP,aY,bH,aQ,nC.begun,fG,varOf,dS,dP,fF,jd,St.setVar,St.bK,St.eG,PV.gu,List.all_cons,List.all_nil,List.head?_cons,List.tail_cons,and_true,true_and,List.nodup_cons,List.mem_cons,List.not_mem_nil,or_false,not_false_eq_true,List.nodup_nil,Option.some.injEq,Nat.reduceEqDiff,Int.reduceEq,if_true,if_false,aN,Nat.reduceMul,Nat.reduceBEq,Nat.reduceLT,Nat.reduceLeDiff,reduceCtorEq,Nat.reduceAdd,Nat.beq]
 rw [c1] at g1
 have hM:=aly c1 hl9 hv24
 have mk:=alz hM ha.2.1
 rw [fC] at mk
 by_cases c2:a.site=p.pF
 rotate_left
 ·have F2:(a.site==p.pF)=false:=by simpa using c2
  have hE:oI p a n t=1:=by unfold oI;rw [if_pos c0,if_pos c1,if_neg c2]
  have hO:qB p a n t=fH:=by unfold qB;rw [hE,if_neg (by decide)]
  have hC:mX p a n t=uX:=by unfold mX;rw [hE,if_neg (by decide)]
  rw [hE,hO,hC,dw,pI]
  simp only [Bq,aK,Nat.reduceBEq,Nat.reduceLeDiff,Nat.reduceAdd,List.length_cons,List.length_nil]
  simp only [h1,d1,d2,g1,k1,k2,F2,q1,q2,q3,fH,uX,MO,MP,aY,bH,aQ,nC.begun,fG,varOf,dS,dP,fF,jd,St.setVar,St.bK,St.eG,PV.gu,List.all_cons,List.all_nil,List.head?_cons,List.tail_cons,and_true,true_and,List.nodup_cons,List.mem_cons,List.not_mem_nil,or_false,not_false_eq_true,List.nodup_nil,Option.some.injEq,Nat.reduceEqDiff,Int.reduceEq,if_true,if_false,aN,Nat.reduceMul,Nat.reduceBEq,Nat.reduceLT,Nat.reduceLeDiff,reduceCtorEq,Nat.reduceAdd,Nat.beq]
 have F2:(a.site==p.pF)=true:=by simpa using c2
 by_cases c3:p.done=false
 rotate_left
 ·have F3:p.done=true:=by simpa using c3
  rw [F3] at d1 d2
  have hE:oI p a n t=12:=by unfold oI;rw [if_pos c0,if_pos c1,if_pos c2,if_neg c3]
  have hO:qB p a n t=fH:=by unfold qB;rw [hE,if_neg (by decide)]
  have hC:mX p a n t=uX:=by unfold mX;rw [hE,if_neg (by decide)]
  rw [hE,hO,hC,dw,pI]
  simp only [Bq,aK,Nat.reduceBEq,Nat.reduceLeDiff,Nat.reduceAdd,List.length_cons,List.length_nil]
  simp only [h1,d1,d2,g1,k1,k2,F2,F3,q1,q2,q3,fH,uX,MO,MP,aY,bH,aQ,nC.begun,fG,varOf,dS,dP,fF,jd,St.setVar,St.bK,St.eG,PV.gu,List.all_cons,List.all_nil,List.head?_cons,List.tail_cons,and_true,true_and,List.nodup_cons,List.mem_cons,List.not_mem_nil,or_false,not_false_eq_true,List.nodup_nil,Option.some.injEq,Nat.reduceEqDiff,Int.reduceEq,if_true,if_false,aN,Nat.reduceMul,Nat.reduceBEq,Nat.reduceLT,Nat.reduceLeDiff,reduceCtorEq,Nat.reduceAdd,Nat.beq]
 have F3:p.done=false:=by simpa using c3
 rw [F3] at d1 d2
 by_cases c4:p.step<4096
 rotate_left
 ·have F4:(p.step<4096)=False:=eq_false c4
  have hE:oI p a n t=11:=by unfold oI;rw [if_pos c0,if_pos c1,if_pos c2,if_pos c3,if_neg c4]
  have hO:qB p a n t=fH:=by unfold qB;rw [hE,if_neg (by decide)]
  have hC:mX p a n t=uX:=by unfold mX;rw [hE,if_neg (by decide)]
  rw [hE,hO,hC,dw,pI]
  simp only [Bq,aK,Nat.reduceBEq,Nat.reduceLeDiff,Nat.reduceAdd,List.length_cons,List.length_nil]
  simp only [h1,d1,d2,g1,k1,k2,F2,F3,F4,q1,q2,q3,fH,uX,MO,MP,aY,bH,aQ,nC.begun,fG,varOf,dS,dP,fF,jd,St.setVar,St.bK,St.eG,PV.gu,List.all_cons,List.all_nil,List.head?_cons,List.tail_cons,and_true,true_and,List.nodup_cons,List.mem_cons,List.not_mem_nil,or_false,not_false_eq_true,List.nodup_nil,Option.some.injEq,Nat.reduceEqDiff,Int.reduceEq,if_true,if_false,aN,Nat.reduceMul,Nat.reduceBEq,Nat.reduceLT,Nat.reduceLeDiff,reduceCtorEq,Nat.reduceAdd,Nat.beq]
 have F4:(p.step<4096)=True:=eq_true c4
 by_cases c5:p.oH<n
 rotate_left
 ·have F5:(n > p.oH)=False:=eq_false c5
  have hE:oI p a n t=2:=by unfold oI;rw [if_pos c0,if_pos c1,if_pos c2,if_pos c3,if_pos c4,if_neg c5]
  have hO:qB p a n t=fH:=by unfold qB;rw [hE,if_neg (by decide)]
  have hC:mX p a n t=uX:=by unfold mX;rw [hE,if_neg (by decide)]
  rw [hE,hO,hC,dw,pI]
  simp only [Bq,aK,Nat.reduceBEq,Nat.reduceLeDiff,Nat.reduceAdd,List.length_cons,List.length_nil]
  simp only [h1,d1,d2,g1,k1,k2,F2,F3,F4,F5,q1,q2,q3,fH,uX,MO,MP,aY,bH,aQ,nC.begun,fG,varOf,dS,dP,fF,jd,St.setVar,St.bK,St.eG,PV.gu,List.all_cons,List.all_nil,List.head?_cons,List.tail_cons,and_true,true_and,List.nodup_cons,List.mem_cons,List.not_mem_nil,or_false,not_false_eq_true,List.nodup_nil,Option.some.injEq,Nat.reduceEqDiff,Int.reduceEq,if_true,if_false,aN,Nat.reduceMul,Nat.reduceBEq,Nat.reduceLT,Nat.reduceLeDiff,reduceCtorEq,Nat.reduceAdd,Nat.beq]
 have F5:(n > p.oH)=True:=eq_true c5
 by_cases c6:(jD a.lin).to≤n
 rotate_left
 ·have F6:(n ≥ (jD a.lin).to)=False:=eq_false c6
  have hE:oI p a n t=2:=by unfold oI;rw [if_pos c0,if_pos c1,if_pos c2,if_pos c3,if_pos c4,if_pos c5,if_neg c6]
  have hO:qB p a n t=fH:=by unfold qB;rw [hE,if_neg (by decide)]
  have hC:mX p a n t=uX:=by unfold mX;rw [hE,if_neg (by decide)]
  rw [hE,hO,hC,dw,pI]
  simp only [Bq,aK,Nat.reduceBEq,Nat.reduceLeDiff,Nat.reduceAdd,List.length_cons,List.length_nil]
  simp only [h1,d1,d2,g1,k1,k2,F2,F3,F4,F5,F6,q1,q2,q3,fH,uX,MO,MP,aY,bH,aQ,nC.begun,fG,varOf,dS,dP,fF,jd,St.setVar,St.bK,St.eG,PV.gu,List.all_cons,List.all_nil,List.head?_cons,List.tail_cons,and_true,true_and,List.nodup_cons,List.mem_cons,List.not_mem_nil,or_false,not_false_eq_true,List.nodup_nil,Option.some.injEq,Nat.reduceEqDiff,Int.reduceEq,if_true,if_false,aN,Nat.reduceMul,Nat.reduceBEq,Nat.reduceLT,Nat.reduceLeDiff,reduceCtorEq,Nat.reduceAdd,Nat.beq]
 have F6:(n ≥ (jD a.lin).to)=True:=eq_true c6
 have cy:=alv (im:=a.img) (b:=p.oH) (n:=n) (t:=t) (p:=[]) (w:=mkW a) (agp hM.1) (pz c1).2.1 hM.2.1 hM.2.2.1 (Nat.le_trans hM.2.2.2.2 (by decide)) (by decide)
 rw [ac6] at cy
 have W1:IntKind.i64.wrap (p.step+1)=p.step+1:=bZ (by omega)
 by_cases c7:UH p.oH n t []=0
 rotate_left
 ·have k3:=VE c7
  have Z:(UH p.oH n t []=0)=False:=eq_false c7
  have hE:oI p a n t=UH p.oH n t []:=by unfold oI;rw [if_pos c0,if_pos c1,if_pos c2,if_pos c3,if_pos c4,if_pos c5,if_pos c6,if_neg c7]
  have hO:qB p a n t=fH:=by unfold qB;rw [hE,if_neg c7]
  have hC:mX p a n t=uX:=by unfold mX;rw [hE,if_neg c7]
  rw [hE,hO,hC,dw,pI]
  simp only [Bq,aK,Nat.reduceBEq,Nat.reduceLeDiff,Nat.reduceAdd,List.length_cons,List.length_nil]
  simp only [h1,d1,d2,g1,k1,k2,F2,F3,F4,F5,F6,mk,q1,q2,aY,bH,aQ,nC.begun,aN,Nat.reduceMul,Nat.reduceBEq,Nat.reduceLT,Nat.reduceLeDiff,reduceCtorEq,Nat.reduceEqDiff,Nat.reduceAdd,Nat.beq]
  rw [ac7 (a:=a) (n:=n) (Nat.le_trans hl9 (by decide)) (by simp only [List.take_zero,List.map_nil];simp only [aK,dB,Nat.reduceMul,Nat.reduceBEq,Nat.reduceLT,Nat.reduceLeDiff,Nat.reduceAdd,decide_true,Bool.and_self,Bool.true_and]<;>rfl)]
  simp only [h1,d1,d2,g1,k1,k2,F2,F3,F4,F5,F6,cy,k3,Z,mk,W1,q1,q2,q3,fH,uX,MO,MP,aY,bH,aQ,nC.begun,fG,varOf,dS,dP,fF,jd,St.setVar,St.bK,St.eG,PV.gu,List.all_cons,List.all_nil,List.head?_cons,List.tail_cons,and_true,true_and,List.nodup_cons,List.mem_cons,List.not_mem_nil,or_false,not_false_eq_true,List.nodup_nil,Option.some.injEq,Nat.reduceEqDiff,Int.reduceEq,if_true,if_false,aN,Nat.reduceMul,Nat.reduceBEq,Nat.reduceLT,Nat.reduceLeDiff,reduceCtorEq,Nat.reduceAdd,Nat.beq]
 rw [c7] at cy
 have hE:oI p a n t=0:=by unfold oI;rw [if_pos c0,if_pos c1,if_pos c2,if_pos c3,if_pos c4,if_pos c5,if_pos c6,if_pos c7]
 have hO:qB p a n t={ p with step:=p.step+1,oH:=n }:=by unfold qB;rw [hE,if_pos rfl]
 have hC:mX p a n t=⟨p.oH,n,t,[],mkW a⟩:=by unfold mX;rw [hE,if_pos rfl]
 rw [hE,hO,hC,dw,pI]
 simp only [Bq,aK,Nat.reduceBEq,Nat.reduceLeDiff,Nat.reduceAdd,List.length_cons,List.length_nil]
 simp only [h1,d1,d2,g1,k1,k2,F2,F3,F4,F5,F6,mk,q1,q2,aY,bH,aQ,nC.begun,aN,Nat.reduceMul,Nat.reduceBEq,Nat.reduceLT,Nat.reduceLeDiff,reduceCtorEq,Nat.reduceEqDiff,Nat.reduceAdd,Nat.beq]
 rw [ac7 (a:=a) (n:=n) (Nat.le_trans hl9 (by decide)) (by simp only [List.take_zero,List.map_nil];simp only [aK,dB,Nat.reduceMul,Nat.reduceBEq,Nat.reduceLT,Nat.reduceLeDiff,Nat.reduceAdd,decide_true,Bool.and_self,Bool.true_and]<;>rfl)]
 simp only [h1,d1,d2,g1,k1,k2,F2,F3,F4,F5,F6,cy,mk,W1,q1,q2,q3,fH,uX,MO,MP,aY,bH,aQ,nC.begun,fG,varOf,dS,dP,fF,jd,St.setVar,St.bK,St.eG,PV.gu,List.all_cons,List.all_nil,List.head?_cons,List.tail_cons,and_true,true_and,List.nodup_cons,List.mem_cons,List.not_mem_nil,or_false,not_false_eq_true,List.nodup_nil,Option.some.injEq,Nat.reduceEqDiff,Int.reduceEq,if_true,if_false,aN,Nat.reduceMul,Nat.reduceBEq,Nat.reduceLT,Nat.reduceLeDiff,reduceCtorEq,Nat.reduceAdd,Nat.beq]
end Go.Proofs.YtioijcfcehhmdaaGreatDoor.V

namespace Go.Proofs.YtioijcfcehhmdaaGreatDoor
open Go.RowKit
def RV (w:World) (rs:List oJ) (v:Value):Prop :=
 ∃ arr:Array Value,arr.size=rs.length∧v=(if arr.size=1 then arr.getD 0 undef else .tuple arr)∧∀ (i:Nat) (r:oJ) (u:Value),rs[i]?=some r→arr[i]?=some u→aC (fun b=>b<w.heap.size) w r.1 u
theorem ac8 {T:Tags} {w:World} {r:Root} {sz:Nat} {es:List PV} {v:Value} (h:aW T w r sz es v) {ok:Nat→Prop} (hk:∀ b,(T b=.ro∨T b=.row r)→b<w.heap.size→ok b):aC ok w (.list sz es) v:=by
 rcases h with ⟨rfl,a,rfl⟩|⟨b,c,arr,E,rfl,h1,h2,h3,h4,h5,h6,h7⟩
 ·exact .nil _ _
 ·have hb:b<w.heap.size:=(Array.getElem?_eq_some_iff.1 h2).1
  refine .list sz es b 0 c (fun i j=>arr[i * sz+j]?.getD undef) (hk b (.inr h1) hb) ⟨_,_,_,h2⟩ h4 h5 h6 (fun i e j x he hx=>?_) (fun i e j x he hx=>?_)
  ·obtain ⟨u,g1,g2,g3⟩:=h7 i e j x he hx
   rw [g1,Nat.zero_add,cell_of_row w b (i * sz+j) arr E (0,0) h2]
   exact ⟨g1,g2⟩
  ·obtain ⟨u,g1,g2,g3⟩:=h7 i e j x he hx
   rw [g1]
   exact g3.frame fun b e hb=>⟨hk b (.inl e) hb,rfl⟩
theorem uq.below {w w':World} (h:uq w) (hB:Below w.heap.size w w'):uq w':=h.frame fun b _ hb=>⟨if_pos (Nat.lt_of_lt_of_le hb hB.size),hB.block b hb⟩
theorem sQ {P:Program} {env:Env} {f:Nat} {args:List PV} {rs:List oJ} {vs:List Value} {w:World} (hE:zM P env) (h:cal env f args=some rs) (hr:EK w args vs) (hG:uq w) (hf:∀ r∈rs,r.2=false∨∃ sz es,r.1=.list sz es) :
  Calls P f vs.toArray w (fun e w'=>∃ v,e=.returned v∧Below w.heap.size w w'∧RV w' rs v):=by
 obtain ⟨n,hn⟩:=nY h
 have hC:=(xg hE hn).2 (fun b=>if b<w.heap.size then .ro else .other) w vs (fun b=>by
  by_cases hb:b<w.heap.size
  ·exact .inl (if_pos hb)
  ·exact .inr (if_neg hb)) (fun b hb=>if_neg (by omega)) hr.get.1 (fun i x v hx hv=>(hr.get.2 i x v hx hv).frame fun b hb _=>⟨if_pos hb,rfl⟩) hG
 refine hC.mono ?_
 rintro e w' ⟨v,T',rfl,h1,t1,t2,arr,s1,s2,h2⟩
 have hlt:∀ b,(T' b=.ro∨∃ r,T' b=.row r)→b<w'.heap.size:=fun b hb=>by
  refine Nat.lt_of_not_le fun hle=>?_
  rw [t2 b hle] at hb
  rcases hb with hb|⟨r,hb⟩<;>cases hb
 refine ⟨v,rfl,h1,arr,s1,s2,fun i r u hr hu=>?_⟩
 have h3:=h2 i r u hr hu
 obtain ⟨x,fl⟩:=r
 have hor:=hf _ (List.mem_of_getElem? hr)
 cases fl with
 |false =>
  have h4:aC (fun b=>T' b=.ro) w' x u:=by
   unfold R1 at h3
   split at h3
   ·rename_i q;cases q
   ·rename_i q;cases q
   ·rename_i q;cases q;exact h3
  exact h4.frame fun b hb _=>⟨hlt b (.inl hb),rfl⟩
 |true =>
  rcases hor with hor|⟨sz,es,hor⟩
  ·cases hor
  ·have hor:x=.list sz es:=hor
   subst hor
   have h4:aW T' w' (.part 0 i) sz es u:=h3
   exact ac8 h4 fun b hb hl=>hl
theorem arr1 {α:Type} {arr:Array α} (h:arr.size=1):∃ a,arr=#[a]:=by
 obtain ⟨l⟩:=arr
 match l,h with
 |[a],_=>exact ⟨a,rfl⟩
theorem Dj {α:Type} {arr:Array α} (h:arr.size=2):∃ a b,arr=#[a,b]:=by
 obtain ⟨l⟩:=arr
 match l,h with
 |[a,b],_=>exact ⟨a,b,rfl⟩
theorem an7 {α:Type} {arr:Array α} (h:arr.size=3):∃ a b c,arr=#[a,b,c]:=by
 obtain ⟨l⟩:=arr
 match l,h with
 |[a,b,c],_=>exact ⟨a,b,c,rfl⟩
theorem an8 {α:Type} {arr:Array α} (h:arr.size=4):∃ a b c d,arr=#[a,b,c,d]:=by
 obtain ⟨l⟩:=arr
 match l,h with
 |[a,b,c,d],_=>exact ⟨a,b,c,d,rfl⟩
theorem an9 {α:Type} {arr:Array α} (h:arr.size=5):∃ a b c d e,arr=#[a,b,c,d,e]:=by
 obtain ⟨l⟩:=arr
 match l,h with
 |[a,b,c,d,e],_=>exact ⟨a,b,c,d,e,rfl⟩
theorem aoa {α:Type} {arr:Array α} (h:arr.size=8):∃ a b c d e f g i,arr=#[a,b,c,d,e,f,g,i]:=by
 obtain ⟨l⟩:=arr
 match l,h with
 |[a,b,c,d,e,f,g,i],_=>exact ⟨a,b,c,d,e,f,g,i,rfl⟩
theorem RV.one {w:World} {r:oJ} {v:Value} (h:RV w [r] v):aC (fun b=>b<w.heap.size) w r.1 v:=by
 obtain ⟨arr,h1,rfl,h3⟩:=h
 obtain ⟨a,rfl⟩:=arr1 h1
 exact h3 0 _ _ rfl rfl
theorem RV.two {w:World} {r s:oJ} {v:Value} (h:RV w [r,s] v):∃ a b,v=.tuple #[a,b]∧aC (fun b=>b<w.heap.size) w r.1 a∧aC (fun b=>b<w.heap.size) w s.1 b:=by
 obtain ⟨arr,h1,rfl,h3⟩:=h
 obtain ⟨a,b,rfl⟩:=Dj h1
 exact ⟨a,b,rfl,h3 0 _ _ rfl rfl,h3 1 _ _ rfl rfl⟩
theorem RV.three {w:World} {r s t:oJ} {v:Value} (h:RV w [r,s,t] v):∃ a b c,v=.tuple #[a,b,c]∧aC (fun b=>b<w.heap.size) w r.1 a∧aC (fun b=>b<w.heap.size) w s.1 b∧aC (fun b=>b<w.heap.size) w t.1 c:=by
 obtain ⟨arr,h1,rfl,h3⟩:=h
 obtain ⟨a,b,c,rfl⟩:=an7 h1
 exact ⟨a,b,c,rfl,h3 0 _ _ rfl rfl,h3 1 _ _ rfl rfl,h3 2 _ _ rfl rfl⟩
theorem aC.up {w w':World} {x:PV} {v:Value} (h:aC (fun b=>b<w.heap.size) w x v) (hB:Below w.heap.size w w'):aC (fun b=>b<w'.heap.size) w' x v:=h.frame fun b hb _=>⟨Nat.lt_of_lt_of_le hb hB.size,hB.block b hb⟩
theorem aC.cell1 {ok:Nat→Prop} {w:World} {sz:Nat} {es:List PV} {v:Value} (h:aC ok w (.list sz es) v):v.oneCell'=true:=by
 obtain ⟨x,c,rfl,_⟩:=h.jq
 rfl
open V in
def yV (p:Au):Value:=.agg #[.int .i64 p.kind,.int .i64 p.pF,.int .i64 p.to,.int .i64 p.step,.int .i64 p.ep,.int .i64 p.oH,.bool p.done,.bool p.failed]
open V in
theorem MR {ok:Nat→Prop} {w:World} {p:Au} {v:Value} (h:aC ok w (Ij p) v):v=yV p:=by
 obtain ⟨arr,rfl,h1,_,h3⟩:=h.o7
 obtain ⟨a,b,c,d,e,f,g,i,rfl⟩:=aoa h1
 have q0:=(h3 0 _ a rfl rfl).bM
 have q1:=(h3 1 _ b rfl rfl).bM
 have q2:=(h3 2 _ c rfl rfl).bM
 have q3:=(h3 3 _ d rfl rfl).bM
 have q4:=(h3 4 _ e rfl rfl).bM
 have q5:=(h3 5 _ f rfl rfl).bM
 have q6:=(h3 6 _ g rfl rfl).jm
 have q7:=(h3 7 _ i rfl rfl).jm
 rw [q0,q1,q2,q3,q4,q5,q6,q7];rfl
open V in
theorem ac9 {ok:Nat→Prop} {w:World} {p:Au}:aC ok w (Ij p) (yV p):=by
 refine .agg _ _ rfl (fun j v hv=>?_) (fun j x v hx hv=>?_)
 ·match j with
  |0=>cases hv;rfl
  |1=>cases hv;rfl
  |2=>cases hv;rfl
  |3=>cases hv;rfl
  |4=>cases hv;rfl
  |5=>cases hv;rfl
  |6=>cases hv;rfl
  |7=>cases hv;rfl
  |j+8=>simp at hv
 ·match j with
  |0=>cases hv;cases hx;exact .int _ _
  |1=>cases hv;cases hx;exact .int _ _
  |2=>cases hv;cases hx;exact .int _ _
  |3=>cases hv;cases hx;exact .int _ _
  |4=>cases hv;cases hx;exact .int _ _
  |5=>cases hv;cases hx;exact .int _ _
  |6=>cases hv;cases hx;exact .bool _
  |7=>cases hv;cases hx;exact .bool _
  |j+8=>simp at hv
open V in
structure YJ (w:World) (p:Pt) (v1 v2 v3:Value):Prop where
 l:aC (fun b=>b<w.heap.size) w (.list 3 (p.lin.map lg)) v1
 d:aC (fun b=>b<w.heap.size) w (.list 2 (p.dirty.map jQ)) v2
 i:aC (fun b=>b<w.heap.size) w (.list 1 (p.img.map bF)) v3
open V in
theorem YJ.below {w w':World} {p:Pt} {v1 v2 v3:Value} (h:YJ w p v1 v2 v3) (hB:Below w.heap.size w w'):YJ w' p v1 v2 v3:=⟨h.l.up hB,h.d.up hB,h.i.up hB⟩
open V in
theorem ada {w:World} {p:Pt} {v:Value} (h:aC (fun b=>b<w.heap.size) w (CZ p) v):∃ v1 v2 v3,v=.agg #[.int .i64 p.site,v1,v2,v3]∧YJ w p v1 v2 v3:=by
 obtain ⟨arr,rfl,h1,_,h3⟩:=h.o7
 obtain ⟨a,b,c,d,rfl⟩:=an8 h1
 have q0:=(h3 0 _ a rfl rfl).bM
 exact ⟨b,c,d,by rw [q0],h3 1 _ b rfl rfl,h3 2 _ c rfl rfl,h3 3 _ d rfl rfl⟩
open V in
theorem YJ.mk' {w:World} {p:Pt} {v1 v2 v3:Value} (h:YJ w p v1 v2 v3):aC (fun b=>b<w.heap.size) w (CZ p) (.agg #[.int .i64 p.site,v1,v2,v3]):=by
 refine .agg _ _ rfl (fun j v hv=>?_) (fun j x v hx hv=>?_)
 ·match j with
  |0=>cases hv;rfl
  |1=>cases hv;exact h.l.cell1
  |2=>cases hv;exact h.d.cell1
  |3=>cases hv;exact h.i.cell1
  |j+4=>simp at hv
 ·match j with
  |0=>cases hv;cases hx;exact .int _ _
  |1=>cases hv;cases hx;exact h.l
  |2=>cases hv;cases hx;exact h.d
  |3=>cases hv;cases hx;exact h.i
  |j+4=>simp at hv
open V in
theorem agt {ok:Nat→Prop} {w:World} {c:Cye} {v:Value} (h:aC ok w (ajm c) v):∃ x1 n1 c1 x2 n2 c2,v=.agg #[.int .i64 c.base,.int .i64 c.num,.int .i64 c.time,.slice x1 n1 c1,.slice x2 n2 c2]:=by
 obtain ⟨arr,rfl,h1,_,h3⟩:=h.o7
 obtain ⟨a,b,c,d,e,rfl⟩:=an9 h1
 have q0:=(h3 0 _ a rfl rfl).bM
 have q1:=(h3 1 _ b rfl rfl).bM
 have q2:=(h3 2 _ c rfl rfl).bM
 obtain ⟨x1,c1,q3,_⟩:=(h3 3 _ d rfl rfl).jq
 obtain ⟨x2,c2,q4,_⟩:=(h3 4 _ e rfl rfl).jq
 exact ⟨x1,_,c1,x2,_,c2,by rw [q0,q1,q2,q3,q4]⟩
end Go.Proofs.YtioijcfcehhmdaaGreatDoor

namespace Go.Proofs.YtioijcfcehhmdaaGreatDoor.V
end Go.Proofs.YtioijcfcehhmdaaGreatDoor.V

namespace Go.Proofs.YtioijcfcehhmdaaGreatDoor.V
def YK (p:xI):List xI→List xI→Bool × Int × Int
 |x :: a,y :: b=>if x.epoch=y.epoch then (if x.to=y.to then YK x a b else (true,if y.to<x.to then y.to else x.to,x.epoch)) else (true,p.to,p.epoch)
 |_,_=>(false,p.to,p.epoch)
end Go.Proofs.YtioijcfcehhmdaaGreatDoor.V

namespace Go.Proofs.YtioijcfcehhmdaaGreatDoor.V
def adb (a b:List xI):Int × Int:=if (qx a&&qx b)=true then (YK z0 a b).2 else (0,0)
end Go.Proofs.YtioijcfcehhmdaaGreatDoor.V

namespace Go.Proofs.YtioijcfcehhmdaaGreatDoor.V
set_option maxHeartbeats 2000000 in
theorem ajn {a b:List xI} (ha:a.length≤lim) (hb:b.length≤lim)
  {st:St} (h:st.head [0,1,6,7,8] st.boxes.length=some ⟨[.pv (.list 3 (a.map lg)),.pv (.list 3 (b.map lg)),.any,.any,.any,.any,.pv (.int .i64 0),.pv (.int .i64 0),.pv (.int .i64 (0:Nat)),.any,.any,.any,.any,.any,.any,.any,.any,.any,.any,.any,.any,.any,.any,.any,.any,.any,.any,.any,.any,.any,.any,.any,.any,.any,.any,.any,.any,.any,.any,.any,.any,.any,.any,.any,.any,.any,.any,.any,.any,.any,.any,.any,.any,.any,.any,.any,.any,.any,.any,.any,.any,.any,.any,.any,.any,.any,.any,.any],[],[],none⟩) :
  den env LM st=match YK z0 a b with
   |(false,c,e)=>some (.normal,⟨[.any,.any,.any,.any,.any,.any,.pv (.int .i64 c),.pv (.int .i64 e),.any,.any,.any,.any,.any,.any,.any,.any,.any,.any,.any,.any,.any,.any,.any,.any,.any,.any,.any,.any,.any,.any,.any,.any,.any,.any,.any,.any,.any,.any,.any,.any,.any,.any,.any,.any,.any,.any,.any,.any,.any,.any,.any,.any,.any,.any,.any,.any,.any,.any,.any,.any,.any,.any,.any,.any,.any,.any,.any,.any],[],[],none⟩)
   |(true,c,e)=>some (.normal,⟨[.any,.any,.any,.any,.any,.any,.pv (.int .i64 c),.pv (.int .i64 e),.any,.any,.any,.any,.any,.any,.any,.any,.any,.any,.any,.any,.any,.any,.any,.any,.any,.any,.any,.any,.any,.any,.any,.any,.any,.any,.any,.any,.any,.any,.any,.any,.any,.any,.any,.any,.any,.any,.any,.any,.any,.any,.any,.any,.any,.any,.any,.any,.any,.any,.any,.any,.any,.any,.any,.any,.any,.any,.any,.any],[],[],none⟩):=by
 unfold LM
 refine Jv (env:=env) (min a.length b.length) (fun _=>True) (fun i=>⟨[.pv (.list 3 (a.map lg)),.pv (.list 3 (b.map lg)),.any,.any,.any,.any,.pv (.int .i64 (lastOf a i).to),.pv (.int .i64 (lastOf a i).epoch),.pv (.int .i64 i),.any,.any,.any,.any,.any,.any,.any,.any,.any,.any,.any,.any,.any,.any,.any,.any,.any,.any,.any,.any,.any,.any,.any,.any,.any,.any,.any,.any,.any,.any,.any,.any,.any,.any,.any,.any,.any,.any,.any,.any,.any,.any,.any,.any,.any,.any,.any,.any,.any,.any,.any,.any,.any,.any,.any,.any,.any,.any,.any],[],[],none⟩)
  (fun i=>match YK (lastOf a i) (a.drop i) (b.drop i) with
   |(false,c,e)=>some (.normal,⟨[.any,.any,.any,.any,.any,.any,.pv (.int .i64 c),.pv (.int .i64 e),.any,.any,.any,.any,.any,.any,.any,.any,.any,.any,.any,.any,.any,.any,.any,.any,.any,.any,.any,.any,.any,.any,.any,.any,.any,.any,.any,.any,.any,.any,.any,.any,.any,.any,.any,.any,.any,.any,.any,.any,.any,.any,.any,.any,.any,.any,.any,.any,.any,.any,.any,.any,.any,.any,.any,.any,.any,.any,.any,.any],[],[],none⟩)
   |(true,c,e)=>some (.normal,⟨[.any,.any,.any,.any,.any,.any,.pv (.int .i64 c),.pv (.int .i64 e),.any,.any,.any,.any,.any,.any,.any,.any,.any,.any,.any,.any,.any,.any,.any,.any,.any,.any,.any,.any,.any,.any,.any,.any,.any,.any,.any,.any,.any,.any,.any,.any,.any,.any,.any,.any,.any,.any,.any,.any,.any,.any,.any,.any,.any,.any,.any,.any,.any,.any,.any,.any,.any,.any,.any,.any,.any,.any,.any,.any],[],[],none⟩)) h trivial (fun _=>rfl) (fun _=>rfl) ?_ ?_
 ·intro i rb hi _ ih
  have hia:i<a.length:=by omega
  have hib:i<b.length:=by omega
  have hi1:=cZ hia ha
  have F1:((i:Int)<(if (b.length:Int)<(a.length:Int) then (b.length:Int) else (a.length:Int)))=True:=eq_true (by split<;>omega)
  have hx:a[i]?=some a[i]:=List.getElem?_eq_getElem hia
  have hy:b[i]?=some b[i]:=List.getElem?_eq_getElem hib
  rw [vV hia] at ih
  rw [List.drop_eq_getElem_cons hia,List.drop_eq_getElem_cons hib]
  unfold YK
  generalize lastOf a i=p at *
  generalize a[i]=x at *
  generalize b[i]=y at *
  obtain ⟨pe,pf,pt⟩:=p
  obtain ⟨xe,xf,xt⟩:=x
  obtain ⟨ye,yf,yt⟩:=y
  by_cases c1:xe=ye
  rotate_left
  ·have G1:(xe==ye)=false:=by simpa using c1
   have G0:(xe=ye)=False:=eq_false c1
   simp only [G1,G0,if_false,zV,F1,hx,hy,lg,ay hia,ay hib,List.getElem?_map,Option.map_some,bI,reduceCtorEq,Nat.reduceEqDiff,Nat.reduceAdd,Nat.reduceLT,Nat.reduceLeDiff,Nat.beq]<;>rfl
  have G1:(xe==ye)=true:=by simpa using c1
  by_cases c2:xt=yt
  rotate_left
  ·have G2:(xt != yt)=true:=by simpa using c2
   have G0:(xt=yt)=False:=eq_false c2
   simp only [G1,G2,c1,G0,if_false,if_true,zV,F1,hx,hy,lg,ay hia,ay hib,List.getElem?_map,Option.map_some,bI,reduceCtorEq,Nat.reduceEqDiff,Nat.reduceAdd,Nat.reduceLT,Nat.reduceLeDiff,Nat.beq]<;>rfl
  subst c1 c2
  have G1:(xe==xe)=true:=by simp
  have G2:(xt != xt)=false:=by simp
  simp only [G1,G2,Int.lt_irrefl,if_false,if_true,zV,F1,hx,hy,lg,ay hia,ay hib,List.getElem?_map,Option.map_some,bI,reduceCtorEq,Nat.reduceEqDiff,Nat.reduceAdd,Nat.reduceLT,Nat.reduceLeDiff,Nat.beq]
  rw [ih trivial _ (by simp only [hi1];rfl)]
 ·intro rb _
  have F1:(((min a.length b.length:Nat):Int)<(if (b.length:Int)<(a.length:Int) then (b.length:Int) else (a.length:Int)))=False:=eq_false (by split<;>omega)
  simp only [zV,F1,bI,reduceCtorEq,Nat.reduceEqDiff,Nat.reduceAdd,Nat.reduceLT,Nat.reduceLeDiff,Nat.beq]
  by_cases h1:a.length≤b.length
  ·have e:min a.length b.length=a.length:=by omega
   rw [e,List.drop_length]
   rfl
  ·have e:min a.length b.length=b.length:=by omega
   rw [e,List.drop_length]
   cases a.drop b.length<;>rfl
end Go.Proofs.YtioijcfcehhmdaaGreatDoor.V

namespace Go.Proofs.YtioijcfcehhmdaaGreatDoor.V
theorem alD {a b:List xI} (ha:a.length≤lim) (hb:b.length≤lim):cal env 71 [.list 3 (a.map lg),.list 3 (b.map lg)]=some [(.int .i64 (adb a b).1,false),(.int .i64 (adb a b).2,false)]:=by
 have e1:=abS ha
 have e2:=abS hb
 unfold adb
 cases h1:qx a with
 |false =>
  rw [h1] at e1
  rw [ah abE rfl];simp only [Us];simp only [start,aJ,aT,aH,aS,aA,aB,aI,aO,Nat.reduceAdd,Nat.reduceSub]
  simp only [e1,Bool.false_and,Bool.false_eq_true,if_false,bI,reduceCtorEq,Nat.reduceEqDiff,Nat.reduceAdd,Nat.reduceLT,Nat.reduceLeDiff,Nat.beq]
 |true =>
  rw [h1] at e1
  cases h2:qx b with
  |false =>
   rw [h2] at e2
   rw [ah abE rfl];simp only [Us];simp only [start,aJ,aT,aH,aS,aA,aB,aI,aO,Nat.reduceAdd,Nat.reduceSub]
   simp only [e1,e2,Bool.and_false,Bool.false_eq_true,if_false,bI,reduceCtorEq,Nat.reduceEqDiff,Nat.reduceAdd,Nat.reduceLT,Nat.reduceLeDiff,Nat.beq]
  |true =>
   rw [h2] at e2
   rw [ah abE rfl];simp only [Us];simp only [start,aJ,aT,aH,aS,aA,aB,aI,aO,Nat.reduceAdd,Nat.reduceSub]
   simp only [e1,e2,Bool.and_self,if_true,bI,reduceCtorEq,Nat.reduceEqDiff,Nat.reduceAdd,Nat.reduceLT,Nat.reduceLeDiff,Nat.beq]
   rw [ajn ha hb]
   rotate_left
   ·rfl
   ·cases h:YK z0 a b with
    |mk t q =>
     obtain ⟨c,e⟩:=q
     cases t with
     |true=>simp only [bI,reduceCtorEq,Nat.reduceEqDiff,Nat.reduceAdd,Nat.reduceLT,Nat.reduceLeDiff,Nat.beq]
     |false=>simp only [bI,reduceCtorEq,Nat.reduceEqDiff,Nat.reduceAdd,Nat.reduceLT,Nat.reduceLeDiff,Nat.beq]
end Go.Proofs.YtioijcfcehhmdaaGreatDoor.V

namespace Go.Proofs.YtioijcfcehhmdaaGreatDoor.V
def rW (a b:Pt) (ep:Int):Int:=(if btE a b=0 then (if je a.site=true then (if je b.site=true then (if a.site≠b.site then (if (jD a.lin).epoch<ep then (if (jD b.lin).epoch<ep then (if ep≤1073741824 then 0 else 2) else 13) else 13) else 1) else 2) else 2) else btE a b)
def uI (a b:Pt) (ep:Int):Au:=if rW a b ep=0 then ⟨3,b.site,a.site,0,ep,(adb a.lin b.lin).1,false,false⟩ else fH
def wE (a b:Pt) (ep:Int):List (List eH):=if rW a b ep=0 then btO a b else []
theorem lG:([]:List (List eH)).map Qw=[]:=rfl
theorem alE {a b:Pt} {ep:Int} (ha:BD a) (hb:BD b):cal env 24 [CZ a,CZ b,.int .i64 ep]=some [(Ij (uI a b ep),false),(.list 1 ((wE a b ep).map Qw),false),(.int .i64 (rW a b ep),false)]:=by
 have d1:=alj ha hb
 have s1:=JF (n:=a.site)
 have s2:=JF (n:=b.site)
 have h1:=acH (l:=a.lin) ha.1
 have h2:=acH (l:=b.lin) hb.1
 have an:=alD (a:=a.lin) (b:=b.lin) ha.1 hb.1
 rw [fC,fC] at d1
 have k1:=acF
 have k2:=acG
 have q1:=yQ
 have q2:=Gl
 have q3:=BF
 rw [fC,fC,KR akM rfl]
 by_cases c0:btE a b=0
 rotate_left
 ·have k3:=VE c0
  have Z:(btE a b=0)=False:=eq_false c0
  have hE:rW a b ep=btE a b:=by unfold rW;rw [if_neg c0]
  have hO:uI a b ep=fH:=by unfold uI;rw [hE,if_neg c0]
  have hL:wE a b ep=[]:=by unfold wE;rw [hE,if_neg c0]
  rw [hE,hO,hL,dw]
  simp only [Dv,aK,Nat.reduceBEq,Nat.reduceLeDiff,Nat.reduceAdd,List.length_cons,List.length_nil]
  simp only [h1,h2,an,d1,k3,Z,q1,q2,q3,fH,aY,bH,lG,aQ,nC.begun,fG,varOf,dS,dP,fF,jd,St.setVar,St.bK,St.eG,PV.gu,List.all_cons,List.all_nil,List.head?_cons,List.tail_cons,and_true,true_and,List.nodup_cons,List.mem_cons,List.not_mem_nil,or_false,not_false_eq_true,List.nodup_nil,Option.some.injEq,Nat.reduceEqDiff,Int.reduceEq,if_true,if_false,aN,Nat.reduceMul,Nat.reduceBEq,Nat.reduceLT,Nat.reduceLeDiff,reduceCtorEq,Nat.reduceAdd,Nat.beq]
 rw [c0] at d1
 by_cases c1:je a.site=true
 rotate_left
 ·have F1:je a.site=false:=by simpa using c1
  have hE:rW a b ep=2:=by unfold rW;rw [if_pos c0,if_neg c1]
  have hO:uI a b ep=fH:=by unfold uI;rw [hE,if_neg (by decide)]
  have hL:wE a b ep=[]:=by unfold wE;rw [hE,if_neg (by decide)]
  rw [hE,hO,hL,dw]
  simp only [Dv,aK,Nat.reduceBEq,Nat.reduceLeDiff,Nat.reduceAdd,List.length_cons,List.length_nil]
  simp only [h1,h2,an,d1,k1,k2,s1,F1,q1,q2,q3,fH,aY,bH,lG,aQ,nC.begun,fG,varOf,dS,dP,fF,jd,St.setVar,St.bK,St.eG,PV.gu,List.all_cons,List.all_nil,List.head?_cons,List.tail_cons,and_true,true_and,List.nodup_cons,List.mem_cons,List.not_mem_nil,or_false,not_false_eq_true,List.nodup_nil,Option.some.injEq,Nat.reduceEqDiff,Int.reduceEq,if_true,if_false,aN,Nat.reduceMul,Nat.reduceBEq,Nat.reduceLT,Nat.reduceLeDiff,reduceCtorEq,Nat.reduceAdd,Nat.beq]
 have F1:je a.site=true:=by simpa using c1
 by_cases c2:je b.site=true
 rotate_left
 ·have F2:je b.site=false:=by simpa using c2
  have hE:rW a b ep=2:=by unfold rW;rw [if_pos c0,if_pos c1,if_neg c2]
  have hO:uI a b ep=fH:=by unfold uI;rw [hE,if_neg (by decide)]
  have hL:wE a b ep=[]:=by unfold wE;rw [hE,if_neg (by decide)]
  rw [hE,hO,hL,dw]
  simp only [Dv,aK,Nat.reduceBEq,Nat.reduceLeDiff,Nat.reduceAdd,List.length_cons,List.length_nil]
  simp only [h1,h2,an,d1,k1,k2,s1,F1,s2,F2,q1,q2,q3,fH,aY,bH,lG,aQ,nC.begun,fG,varOf,dS,dP,fF,jd,St.setVar,St.bK,St.eG,PV.gu,List.all_cons,List.all_nil,List.head?_cons,List.tail_cons,and_true,true_and,List.nodup_cons,List.mem_cons,List.not_mem_nil,or_false,not_false_eq_true,List.nodup_nil,Option.some.injEq,Nat.reduceEqDiff,Int.reduceEq,if_true,if_false,aN,Nat.reduceMul,Nat.reduceBEq,Nat.reduceLT,Nat.reduceLeDiff,reduceCtorEq,Nat.reduceAdd,Nat.beq]
 have F2:je b.site=true:=by simpa using c2
 by_cases c3:a.site≠b.site
 rotate_left
 ·have F3:(a.site != b.site)=false:=by simpa using c3
  have hE:rW a b ep=1:=by unfold rW;rw [if_pos c0,if_pos c1,if_pos c2,if_neg c3]
  have hO:uI a b ep=fH:=by unfold uI;rw [hE,if_neg (by decide)]
  have hL:wE a b ep=[]:=by unfold wE;rw [hE,if_neg (by decide)]
  rw [hE,hO,hL,dw]
  simp only [Dv,aK,Nat.reduceBEq,Nat.reduceLeDiff,Nat.reduceAdd,List.length_cons,List.length_nil]
  simp only [h1,h2,an,d1,k1,k2,s1,F1,s2,F2,F3,q1,q2,q3,fH,aY,bH,lG,aQ,nC.begun,fG,varOf,dS,dP,fF,jd,St.setVar,St.bK,St.eG,PV.gu,List.all_cons,List.all_nil,List.head?_cons,List.tail_cons,and_true,true_and,List.nodup_cons,List.mem_cons,List.not_mem_nil,or_false,not_false_eq_true,List.nodup_nil,Option.some.injEq,Nat.reduceEqDiff,Int.reduceEq,if_true,if_false,aN,Nat.reduceMul,Nat.reduceBEq,Nat.reduceLT,Nat.reduceLeDiff,reduceCtorEq,Nat.reduceAdd,Nat.beq]
 have F3:(a.site != b.site)=true:=by simpa using c3
 by_cases c4:(jD a.lin).epoch<ep
 rotate_left
 ·have F4:(ep > (jD a.lin).epoch)=False:=eq_false c4
  have hE:rW a b ep=13:=by unfold rW;rw [if_pos c0,if_pos c1,if_pos c2,if_pos c3,if_neg c4]
  have hO:uI a b ep=fH:=by unfold uI;rw [hE,if_neg (by decide)]
  have hL:wE a b ep=[]:=by unfold wE;rw [hE,if_neg (by decide)]
  rw [hE,hO,hL,dw]
  simp only [Dv,aK,Nat.reduceBEq,Nat.reduceLeDiff,Nat.reduceAdd,List.length_cons,List.length_nil]
  simp only [h1,h2,an,d1,k1,k2,s1,F1,s2,F2,F3,F4,q1,q2,q3,fH,aY,bH,lG,aQ,nC.begun,fG,varOf,dS,dP,fF,jd,St.setVar,St.bK,St.eG,PV.gu,List.all_cons,List.all_nil,List.head?_cons,List.tail_cons,and_true,true_and,List.nodup_cons,List.mem_cons,List.not_mem_nil,or_false,not_false_eq_true,List.nodup_nil,Option.some.injEq,Nat.reduceEqDiff,Int.reduceEq,if_true,if_false,aN,Nat.reduceMul,Nat.reduceBEq,Nat.reduceLT,Nat.reduceLeDiff,reduceCtorEq,Nat.reduceAdd,Nat.beq]
 have F4:(ep > (jD a.lin).epoch)=True:=eq_true c4
 by_cases c5:(jD b.lin).epoch<ep
 rotate_left
 ·have F5:(ep > (jD b.lin).epoch)=False:=eq_false c5
  have hE:rW a b ep=13:=by unfold rW;rw [if_pos c0,if_pos c1,if_pos c2,if_pos c3,if_pos c4,if_neg c5]
  have hO:uI a b ep=fH:=by unfold uI;rw [hE,if_neg (by decide)]
  have hL:wE a b ep=[]:=by unfold wE;rw [hE,if_neg (by decide)]
  rw [hE,hO,hL,dw]
  simp only [Dv,aK,Nat.reduceBEq,Nat.reduceLeDiff,Nat.reduceAdd,List.length_cons,List.length_nil]
  simp only [h1,h2,an,d1,k1,k2,s1,F1,s2,F2,F3,F4,F5,q1,q2,q3,fH,aY,bH,lG,aQ,nC.begun,fG,varOf,dS,dP,fF,jd,St.setVar,St.bK,St.eG,PV.gu,List.all_cons,List.all_nil,List.head?_cons,List.tail_cons,and_true,true_and,List.nodup_cons,List.mem_cons,List.not_mem_nil,or_false,not_false_eq_true,List.nodup_nil,Option.some.injEq,Nat.reduceEqDiff,Int.reduceEq,if_true,if_false,aN,Nat.reduceMul,Nat.reduceBEq,Nat.reduceLT,Nat.reduceLeDiff,reduceCtorEq,Nat.reduceAdd,Nat.beq]
 have F5:(ep > (jD b.lin).epoch)=True:=eq_true c5
 by_cases c6:ep≤1073741824
 rotate_left
 ·have F6:(ep≤1073741824)=False:=eq_false c6
  have hE:rW a b ep=2:=by unfold rW;rw [if_pos c0,if_pos c1,if_pos c2,if_pos c3,if_pos c4,if_pos c5,if_neg c6]
  have hO:uI a b ep=fH:=by unfold uI;rw [hE,if_neg (by decide)]
  have hL:wE a b ep=[]:=by unfold wE;rw [hE,if_neg (by decide)]
  rw [hE,hO,hL,dw]
  simp only [Dv,aK,Nat.reduceBEq,Nat.reduceLeDiff,Nat.reduceAdd,List.length_cons,List.length_nil]
  simp only [h1,h2,an,d1,k1,k2,s1,F1,s2,F2,F3,F4,F5,F6,q1,q2,q3,fH,aY,bH,lG,aQ,nC.begun,fG,varOf,dS,dP,fF,jd,St.setVar,St.bK,St.eG,PV.gu,List.all_cons,List.all_nil,List.head?_cons,List.tail_cons,and_true,true_and,List.nodup_cons,List.mem_cons,List.not_mem_nil,or_false,not_false_eq_true,List.nodup_nil,Option.some.injEq,Nat.reduceEqDiff,Int.reduceEq,if_true,if_false,aN,Nat.reduceMul,Nat.reduceBEq,Nat.reduceLT,Nat.reduceLeDiff,reduceCtorEq,Nat.reduceAdd,Nat.beq]
 have F6:(ep≤1073741824)=True:=eq_true c6
 have hE:rW a b ep=0:=by unfold rW;rw [if_pos c0,if_pos c1,if_pos c2,if_pos c3,if_pos c4,if_pos c5,if_pos c6]
 have hO:uI a b ep=⟨3,b.site,a.site,0,ep,(adb a.lin b.lin).1,false,false⟩:=by unfold uI;rw [hE,if_pos rfl]
 have hL:wE a b ep=btO a b:=by unfold wE;rw [hE,if_pos rfl]
 rw [hE,hO,hL,dw]
 simp only [Dv,aK,Nat.reduceBEq,Nat.reduceLeDiff,Nat.reduceAdd,List.length_cons,List.length_nil]
 simp only [h1,h2,an,d1,k1,k2,s1,F1,s2,F2,F3,F4,F5,F6,q1,q2,q3,fH,aY,bH,lG,aQ,nC.begun,fG,varOf,dS,dP,fF,jd,St.setVar,St.bK,St.eG,PV.gu,List.all_cons,List.all_nil,List.head?_cons,List.tail_cons,and_true,true_and,List.nodup_cons,List.mem_cons,List.not_mem_nil,or_false,not_false_eq_true,List.nodup_nil,Option.some.injEq,Nat.reduceEqDiff,Int.reduceEq,if_true,if_false,aN,Nat.reduceMul,Nat.reduceBEq,Nat.reduceLT,Nat.reduceLeDiff,reduceCtorEq,Nat.reduceAdd,Nat.beq]
end Go.Proofs.YtioijcfcehhmdaaGreatDoor.V
