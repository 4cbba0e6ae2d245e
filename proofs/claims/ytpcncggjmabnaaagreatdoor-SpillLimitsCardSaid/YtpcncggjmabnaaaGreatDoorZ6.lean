/-
  Part 6 of the texts that the statement stands on.
-/
import Derived.Test.YtpcncggjmabnaaaGreatDoorZ5
import Derived.Test.YtpcncggjmabnaaaGreatDoorProg
import Derived.Shelf.SlSortCmp.WholeK
import Derived.Shelf.SlSortCmp.NoneTotal
import Derived.Shelf.SlicesG.Cmp
import Derived.Shelf.Small.Bits
import Derived.Ground.SlsfProg
import Derived.Ground.SlgcProg
import Derived.Ground.NamesProg
set_option linter.all false
namespace Go.Proofs.YtpcncggjmabnaaaGreatDoor.V
theorem aw0:cal env 11 [(.list 1 [(.int .i64 4)]),(.int .i64 2)]=some [((.agg [(.int .i64 2),(.list 1 [(.int .i64 4)]),(.list 5 []),(.bool false),(.int .i64 0),(.int .i64 0),(.list 2 [])]),false),((.int .i64 0),false)]:=cal_of_vmCall (n:=400) (by kernel_rfl)
theorem aw1:cal env 36 [(.int .i64 0),(.int .i64 1),(.int .i64 0),(.int .u8 1)]=some [((.agg [(.int .i64 0),(.int .i64 1),(.int .i64 0),(.list 1 []),(.list 3 [(.agg [(.int .i64 0),(.int .i64 0),(.list 8 [(.agg [(.int .u8 1),(.int .u8 0),(.int .u8 0),(.int .u8 0),(.int .u8 0),(.int .u8 0),(.int .u8 0),(.int .u8 0)])])])])]),false)]:=cal_of_vmCall (n:=400) (by kernel_rfl)
theorem aw2:cal env 16 [(.agg [(.int .i64 2),(.list 1 [(.int .i64 4)]),(.list 5 []),(.bool false),(.int .i64 0),(.int .i64 0),(.list 2 [])]),(.agg [(.int .i64 0),(.int .i64 1),(.int .i64 0),(.list 1 []),(.list 3 [(.agg [(.int .i64 0),(.int .i64 0),(.list 8 [(.agg [(.int .u8 1),(.int .u8 0),(.int .u8 0),(.int .u8 0),(.int .u8 0),(.int .u8 0),(.int .u8 0),(.int .u8 0)])])])])])]=some [((.agg [(.int .i64 2),(.list 1 [(.int .i64 4)]),(.list 5 [(.agg [(.int .i64 0),(.int .i64 1),(.int .i64 0),(.list 1 []),(.list 3 [(.agg [(.int .i64 0),(.int .i64 0),(.list 8 [(.agg [(.int .u8 1),(.int .u8 0),(.int .u8 0),(.int .u8 0),(.int .u8 0),(.int .u8 0),(.int .u8 0),(.int .u8 0)])])])])])]),(.bool false),(.int .i64 0),(.int .i64 1),(.list 2 [])]),false),((.int .i64 0),false)]:=cal_of_vmCall (n:=400) (by kernel_rfl)
theorem aw3:cal env 36 [(.int .i64 1),(.int .i64 2),(.int .i64 1),(.int .u8 2)]=some [((.agg [(.int .i64 1),(.int .i64 2),(.int .i64 0),(.list 1 []),(.list 3 [(.agg [(.int .i64 0),(.int .i64 1),(.list 8 [(.agg [(.int .u8 2),(.int .u8 0),(.int .u8 0),(.int .u8 0),(.int .u8 0),(.int .u8 0),(.int .u8 0),(.int .u8 0)])])])])]),false)]:=cal_of_vmCall (n:=400) (by kernel_rfl)
theorem aw4:cal env 16 [(.agg [(.int .i64 2),(.list 1 [(.int .i64 4)]),(.list 5 [(.agg [(.int .i64 0),(.int .i64 1),(.int .i64 0),(.list 1 []),(.list 3 [(.agg [(.int .i64 0),(.int .i64 0),(.list 8 [(.agg [(.int .u8 1),(.int .u8 0),(.int .u8 0),(.int .u8 0),(.int .u8 0),(.int .u8 0),(.int .u8 0),(.int .u8 0)])])])])])]),(.bool false),(.int .i64 0),(.int .i64 1),(.list 2 [])]),(.agg [(.int .i64 1),(.int .i64 2),(.int .i64 0),(.list 1 []),(.list 3 [(.agg [(.int .i64 0),(.int .i64 1),(.list 8 [(.agg [(.int .u8 2),(.int .u8 0),(.int .u8 0),(.int .u8 0),(.int .u8 0),(.int .u8 0),(.int .u8 0),(.int .u8 0)])])])])])]=some [((.agg [(.int .i64 2),(.list 1 [(.int .i64 4)]),(.list 5 [(.agg [(.int .i64 0),(.int .i64 1),(.int .i64 0),(.list 1 []),(.list 3 [(.agg [(.int .i64 0),(.int .i64 0),(.list 8 [(.agg [(.int .u8 1),(.int .u8 0),(.int .u8 0),(.int .u8 0),(.int .u8 0),(.int .u8 0),(.int .u8 0),(.int .u8 0)])])])])]),(.agg [(.int .i64 1),(.int .i64 2),(.int .i64 0),(.list 1 []),(.list 3 [(.agg [(.int .i64 0),(.int .i64 1),(.list 8 [(.agg [(.int .u8 2),(.int .u8 0),(.int .u8 0),(.int .u8 0),(.int .u8 0),(.int .u8 0),(.int .u8 0),(.int .u8 0)])])])])])]),(.bool false),(.int .i64 0),(.int .i64 2),(.list 2 [])]),false),((.int .i64 0),false)]:=cal_of_vmCall (n:=400) (by kernel_rfl)
theorem aw5:cal env 36 [(.int .i64 2),(.int .i64 3),(.int .i64 3),(.int .u8 9)]=some [((.agg [(.int .i64 2),(.int .i64 3),(.int .i64 0),(.list 1 []),(.list 3 [(.agg [(.int .i64 0),(.int .i64 3),(.list 8 [(.agg [(.int .u8 9),(.int .u8 0),(.int .u8 0),(.int .u8 0),(.int .u8 0),(.int .u8 0),(.int .u8 0),(.int .u8 0)])])])])]),false)]:=cal_of_vmCall (n:=400) (by kernel_rfl)
theorem aw6:cal env 16 [(.agg [(.int .i64 2),(.list 1 [(.int .i64 4)]),(.list 5 [(.agg [(.int .i64 0),(.int .i64 1),(.int .i64 0),(.list 1 []),(.list 3 [(.agg [(.int .i64 0),(.int .i64 0),(.list 8 [(.agg [(.int .u8 1),(.int .u8 0),(.int .u8 0),(.int .u8 0),(.int .u8 0),(.int .u8 0),(.int .u8 0),(.int .u8 0)])])])])]),(.agg [(.int .i64 1),(.int .i64 2),(.int .i64 0),(.list 1 []),(.list 3 [(.agg [(.int .i64 0),(.int .i64 1),(.list 8 [(.agg [(.int .u8 2),(.int .u8 0),(.int .u8 0),(.int .u8 0),(.int .u8 0),(.int .u8 0),(.int .u8 0),(.int .u8 0)])])])])])]),(.bool false),(.int .i64 0),(.int .i64 2),(.list 2 [])]),(.agg [(.int .i64 2),(.int .i64 3),(.int .i64 0),(.list 1 []),(.list 3 [(.agg [(.int .i64 0),(.int .i64 3),(.list 8 [(.agg [(.int .u8 9),(.int .u8 0),(.int .u8 0),(.int .u8 0),(.int .u8 0),(.int .u8 0),(.int .u8 0),(.int .u8 0)])])])])])]=some [((.agg [(.int .i64 2),(.list 1 [(.int .i64 4)]),(.list 5 []),(.bool true),(.int .i64 0),(.int .i64 3),(.list 2 [(.agg [(.int .i64 4),(.list 1 [(.int .u64 11)])])])]),false),((.int .i64 0),false)]:=cal_of_vmCall (n:=400) (by kernel_rfl)
theorem aw7:cal env 26 [(.agg [(.int .i64 2),(.list 1 [(.int .i64 4)]),(.list 5 []),(.bool true),(.int .i64 0),(.int .i64 3),(.list 2 [(.agg [(.int .i64 4),(.list 1 [(.int .u64 11)])])])]),(.list 1 [(.list 8 [(.agg [(.int .u8 1),(.int .u8 0),(.int .u8 0),(.int .u8 0),(.int .u8 0),(.int .u8 0),(.int .u8 0),(.int .u8 0)]),(.agg [(.int .u8 2),(.int .u8 0),(.int .u8 0),(.int .u8 0),(.int .u8 0),(.int .u8 0),(.int .u8 0),(.int .u8 0)]),(.agg [(.int .u8 0),(.int .u8 0),(.int .u8 0),(.int .u8 0),(.int .u8 0),(.int .u8 0),(.int .u8 0),(.int .u8 0)]),(.agg [(.int .u8 9),(.int .u8 0),(.int .u8 0),(.int .u8 0),(.int .u8 0),(.int .u8 0),(.int .u8 0),(.int .u8 0)])])]),(.int .i64 5)]=some [((.agg [(.int .i64 2),(.list 1 [(.int .i64 4)]),(.list 5 [(.agg [(.int .i64 0),(.int .i64 3),(.int .i64 5),(.list 1 []),(.list 3 [(.agg [(.int .i64 0),(.int .i64 0),(.list 8 [(.agg [(.int .u8 1),(.int .u8 0),(.int .u8 0),(.int .u8 0),(.int .u8 0),(.int .u8 0),(.int .u8 0),(.int .u8 0)]),(.agg [(.int .u8 2),(.int .u8 0),(.int .u8 0),(.int .u8 0),(.int .u8 0),(.int .u8 0),(.int .u8 0),(.int .u8 0)])])]),(.agg [(.int .i64 0),(.int .i64 3),(.list 8 [(.agg [(.int .u8 9),(.int .u8 0),(.int .u8 0),(.int .u8 0),(.int .u8 0),(.int .u8 0),(.int .u8 0),(.int .u8 0)])])])])])]),(.bool false),(.int .i64 0),(.int .i64 3),(.list 2 [])]),false),((.agg [(.int .i64 0),(.int .i64 3),(.int .i64 5),(.list 1 []),(.list 3 [(.agg [(.int .i64 0),(.int .i64 0),(.list 8 [(.agg [(.int .u8 1),(.int .u8 0),(.int .u8 0),(.int .u8 0),(.int .u8 0),(.int .u8 0),(.int .u8 0),(.int .u8 0)]),(.agg [(.int .u8 2),(.int .u8 0),(.int .u8 0),(.int .u8 0),(.int .u8 0),(.int .u8 0),(.int .u8 0),(.int .u8 0)])])]),(.agg [(.int .i64 0),(.int .i64 3),(.list 8 [(.agg [(.int .u8 9),(.int .u8 0),(.int .u8 0),(.int .u8 0),(.int .u8 0),(.int .u8 0),(.int .u8 0),(.int .u8 0)])])])])]),false),((.int .i64 0),false)]:=cal_of_vmCall (n:=400) (by kernel_rfl)
theorem aw8:cal env 23 [(.agg [(.int .i64 2),(.list 1 [(.int .i64 4)]),(.list 5 [(.agg [(.int .i64 0),(.int .i64 1),(.int .i64 0),(.list 1 []),(.list 3 [(.agg [(.int .i64 0),(.int .i64 0),(.list 8 [(.agg [(.int .u8 1),(.int .u8 0),(.int .u8 0),(.int .u8 0),(.int .u8 0),(.int .u8 0),(.int .u8 0),(.int .u8 0)])])])])]),(.agg [(.int .i64 1),(.int .i64 2),(.int .i64 0),(.list 1 []),(.list 3 [(.agg [(.int .i64 0),(.int .i64 1),(.list 8 [(.agg [(.int .u8 2),(.int .u8 0),(.int .u8 0),(.int .u8 0),(.int .u8 0),(.int .u8 0),(.int .u8 0),(.int .u8 0)])])])])])]),(.bool false),(.int .i64 0),(.int .i64 2),(.list 2 [])]),(.int .i64 1)]=some [((.agg [(.int .i64 2),(.list 1 [(.int .i64 4)]),(.list 5 [(.agg [(.int .i64 1),(.int .i64 2),(.int .i64 0),(.list 1 []),(.list 3 [(.agg [(.int .i64 0),(.int .i64 1),(.list 8 [(.agg [(.int .u8 2),(.int .u8 0),(.int .u8 0),(.int .u8 0),(.int .u8 0),(.int .u8 0),(.int .u8 0),(.int .u8 0)])])])])])]),(.bool false),(.int .i64 1),(.int .i64 2),(.list 2 [])]),false),((.int .i64 0),false)]:=cal_of_vmCall (n:=400) (by kernel_rfl)
theorem aw9:cal env 16 [(.agg [(.int .i64 2),(.list 1 [(.int .i64 4)]),(.list 5 [(.agg [(.int .i64 1),(.int .i64 2),(.int .i64 0),(.list 1 []),(.list 3 [(.agg [(.int .i64 0),(.int .i64 1),(.list 8 [(.agg [(.int .u8 2),(.int .u8 0),(.int .u8 0),(.int .u8 0),(.int .u8 0),(.int .u8 0),(.int .u8 0),(.int .u8 0)])])])])])]),(.bool false),(.int .i64 1),(.int .i64 2),(.list 2 [])]),(.agg [(.int .i64 2),(.int .i64 3),(.int .i64 0),(.list 1 []),(.list 3 [(.agg [(.int .i64 0),(.int .i64 3),(.list 8 [(.agg [(.int .u8 9),(.int .u8 0),(.int .u8 0),(.int .u8 0),(.int .u8 0),(.int .u8 0),(.int .u8 0),(.int .u8 0)])])])])])]=some [((.agg [(.int .i64 2),(.list 1 [(.int .i64 4)]),(.list 5 [(.agg [(.int .i64 1),(.int .i64 2),(.int .i64 0),(.list 1 []),(.list 3 [(.agg [(.int .i64 0),(.int .i64 1),(.list 8 [(.agg [(.int .u8 2),(.int .u8 0),(.int .u8 0),(.int .u8 0),(.int .u8 0),(.int .u8 0),(.int .u8 0),(.int .u8 0)])])])])]),(.agg [(.int .i64 2),(.int .i64 3),(.int .i64 0),(.list 1 []),(.list 3 [(.agg [(.int .i64 0),(.int .i64 3),(.list 8 [(.agg [(.int .u8 9),(.int .u8 0),(.int .u8 0),(.int .u8 0),(.int .u8 0),(.int .u8 0),(.int .u8 0),(.int .u8 0)])])])])])]),(.bool false),(.int .i64 1),(.int .i64 3),(.list 2 [])]),false),((.int .i64 0),false)]:=cal_of_vmCall (n:=400) (by kernel_rfl)
theorem aw10:cal env 18 [(.agg [(.int .i64 2),(.list 1 [(.int .i64 4)]),(.list 5 [(.agg [(.int .i64 1),(.int .i64 2),(.int .i64 0),(.list 1 []),(.list 3 [(.agg [(.int .i64 0),(.int .i64 1),(.list 8 [(.agg [(.int .u8 2),(.int .u8 0),(.int .u8 0),(.int .u8 0),(.int .u8 0),(.int .u8 0),(.int .u8 0),(.int .u8 0)])])])])]),(.agg [(.int .i64 2),(.int .i64 3),(.int .i64 0),(.list 1 []),(.list 3 [(.agg [(.int .i64 0),(.int .i64 3),(.list 8 [(.agg [(.int .u8 9),(.int .u8 0),(.int .u8 0),(.int .u8 0),(.int .u8 0),(.int .u8 0),(.int .u8 0),(.int .u8 0)])])])])])]),(.bool false),(.int .i64 1),(.int .i64 3),(.list 2 [])])]=some [((.agg [(.int .i64 1),(.int .i64 2),(.int .i64 0),(.list 1 []),(.list 3 [(.agg [(.int .i64 0),(.int .i64 1),(.list 8 [(.agg [(.int .u8 2),(.int .u8 0),(.int .u8 0),(.int .u8 0),(.int .u8 0),(.int .u8 0),(.int .u8 0),(.int .u8 0)])])])])]),false),((.bool true),false)]:=cal_of_vmCall (n:=400) (by kernel_rfl)
theorem aw11:cal env 37 [(.list 3 [(.agg [(.int .i64 0),(.int .i64 0),(.list 8 [(.agg [(.int .u8 1),(.int .u8 0),(.int .u8 0),(.int .u8 0),(.int .u8 0),(.int .u8 0),(.int .u8 0),(.int .u8 0)]),(.agg [(.int .u8 2),(.int .u8 0),(.int .u8 0),(.int .u8 0),(.int .u8 0),(.int .u8 0),(.int .u8 0),(.int .u8 0)])])]),(.agg [(.int .i64 0),(.int .i64 3),(.list 8 [(.agg [(.int .u8 9),(.int .u8 0),(.int .u8 0),(.int .u8 0),(.int .u8 0),(.int .u8 0),(.int .u8 0),(.int .u8 0)])])])]),(.list 3 [(.agg [(.int .i64 0),(.int .i64 0),(.list 8 [(.agg [(.int .u8 1),(.int .u8 0),(.int .u8 0),(.int .u8 0),(.int .u8 0),(.int .u8 0),(.int .u8 0),(.int .u8 0)]),(.agg [(.int .u8 2),(.int .u8 0),(.int .u8 0),(.int .u8 0),(.int .u8 0),(.int .u8 0),(.int .u8 0),(.int .u8 0)])])]),(.agg [(.int .i64 0),(.int .i64 3),(.list 8 [(.agg [(.int .u8 9),(.int .u8 0),(.int .u8 0),(.int .u8 0),(.int .u8 0),(.int .u8 0),(.int .u8 0),(.int .u8 0)])])])])]=some [((.bool true),false)]:=cal_of_vmCall (n:=400) (by kernel_rfl)
theorem scS (k1 k2 k3 s1 s2 s3 a b c l1 l2 l3 x):(PV.agg [.int k1 a,.list s1 l1,.list s2 l2,.bool x,.int k2 b,.int k3 c,.list s3 l3]).scalar=false:=rfl
theorem scW (k k2 s1 a b l1):(PV.agg [.int k a,.int k2 b,.list s1 l1]).scalar=false:=rfl
theorem scB (k s1 a l1):(PV.agg [.int k a,.list s1 l1]).scalar=false:=rfl
theorem scC (k1 k2 k3 s1 s2 a b c l1 l2):(PV.agg [.int k1 a,.int k2 b,.int k3 c,.list s1 l1,.list s2 l2]).scalar=false:=rfl
theorem w00:IntKind.i64.wrap 0=0:=by decide
def awQ:Nat→List BV
 |0=>[.pv (.int .i64 2),.pv (.list 1 [(.int .i64 4)]),.pv (.list 5 []),.pv (.bool false),.pv (.int .i64 0),.pv (.int .i64 0),.pv (.list 2 [])]
 |1=>[.pv (.int .i64 2),.pv (.list 1 [(.int .i64 4)]),.pv (.list 5 [(.agg [(.int .i64 0),(.int .i64 1),(.int .i64 0),(.list 1 []),(.list 3 [(.agg [(.int .i64 0),(.int .i64 0),(.list 8 [(.agg [(.int .u8 1),(.int .u8 0),(.int .u8 0),(.int .u8 0),(.int .u8 0),(.int .u8 0),(.int .u8 0),(.int .u8 0)])])])])])]),.pv (.bool false),.pv (.int .i64 0),.pv (.int .i64 1),.pv (.list 2 [])]
 |_=>[.pv (.int .i64 2),.pv (.list 1 [(.int .i64 4)]),.pv (.list 5 [(.agg [(.int .i64 0),(.int .i64 1),(.int .i64 0),(.list 1 []),(.list 3 [(.agg [(.int .i64 0),(.int .i64 0),(.list 8 [(.agg [(.int .u8 1),(.int .u8 0),(.int .u8 0),(.int .u8 0),(.int .u8 0),(.int .u8 0),(.int .u8 0),(.int .u8 0)])])])])]),(.agg [(.int .i64 1),(.int .i64 2),(.int .i64 0),(.list 1 []),(.list 3 [(.agg [(.int .i64 0),(.int .i64 1),(.list 8 [(.agg [(.int .u8 2),(.int .u8 0),(.int .u8 0),(.int .u8 0),(.int .u8 0),(.int .u8 0),(.int .u8 0),(.int .u8 0)])])])])])]),.pv (.bool false),.pv (.int .i64 0),.pv (.int .i64 2),.pv (.list 2 [])]
theorem awQ0:awQ 0=[.pv (.int .i64 2),.pv (.list 1 [(.int .i64 4)]),.pv (.list 5 []),.pv (.bool false),.pv (.int .i64 0),.pv (.int .i64 0),.pv (.list 2 [])]:=rfl
theorem awQ1:awQ 1=[.pv (.int .i64 2),.pv (.list 1 [(.int .i64 4)]),.pv (.list 5 [(.agg [(.int .i64 0),(.int .i64 1),(.int .i64 0),(.list 1 []),(.list 3 [(.agg [(.int .i64 0),(.int .i64 0),(.list 8 [(.agg [(.int .u8 1),(.int .u8 0),(.int .u8 0),(.int .u8 0),(.int .u8 0),(.int .u8 0),(.int .u8 0),(.int .u8 0)])])])])])]),.pv (.bool false),.pv (.int .i64 0),.pv (.int .i64 1),.pv (.list 2 [])]:=rfl
theorem awQ2:awQ 2=[.pv (.int .i64 2),.pv (.list 1 [(.int .i64 4)]),.pv (.list 5 [(.agg [(.int .i64 0),(.int .i64 1),(.int .i64 0),(.list 1 []),(.list 3 [(.agg [(.int .i64 0),(.int .i64 0),(.list 8 [(.agg [(.int .u8 1),(.int .u8 0),(.int .u8 0),(.int .u8 0),(.int .u8 0),(.int .u8 0),(.int .u8 0),(.int .u8 0)])])])])]),(.agg [(.int .i64 1),(.int .i64 2),(.int .i64 0),(.list 1 []),(.list 3 [(.agg [(.int .i64 0),(.int .i64 1),(.list 8 [(.agg [(.int .u8 2),(.int .u8 0),(.int .u8 0),(.int .u8 0),(.int .u8 0),(.int .u8 0),(.int .u8 0),(.int .u8 0)])])])])])]),.pv (.bool false),.pv (.int .i64 0),.pv (.int .i64 2),.pv (.list 2 [])]:=rfl
set_option maxRecDepth 20000 in
theorem loop10 (_:True) {st:St} (h:st.head [1,2,3] st.boxes.length=some ⟨sl 146 [(1,.pbox 0 0),(2,.pv (.int .i64 0)),(3,.pv (.int .i64 (0:Nat)))],[⟨false,awQ ((0:Nat))⟩],[],none⟩) :
  den env fn10_l1 st=some (.normal,⟨sl 146 [(0,.any),(1,.pbox 0 0),(2,.pv (.int .i64 0))],[⟨false,awQ 2⟩],[],none⟩):=by
 unfold fn10_l1
 refine clean_up (env:=env) (nb:=1) (2) (fun i=>⟨sl 146 [(1,.pbox 0 0),(2,.pv (.int .i64 0)),(3,.pv (.int .i64 i))],[⟨false,awQ (i)⟩],[],none⟩) (fun i=>some (.normal,⟨sl 146 [(0,.any),(1,.pbox 0 0),(2,.pv (.int .i64 0))],[⟨false,awQ 2⟩],[],none⟩)) h (fun _=>rfl) (fun _=>by simp only [slAll,slsAll,Nat.reduceMul,Nat.reduceBEq,Nat.reduceLT,Nat.reduceLeDiff,Nat.reduceAdd,decide_true,Bool.and_self,Bool.true_and]) ?_ ?_
 ·intro i rb hi ih
  match i,hi with
  |0,_ =>
   simp only [fn10_b0,awQ0,aw0,aw1,aw2,aw3,aw4,aw5,aw6,aw7,aw8,aw9,aw10,aw11,scS,scW,scB,scC,w00,Int.add_zero,show IntKind.i64.wrap (0+1)=1 from rfl,show IntKind.i64.wrap (1+1)=2 from rfl,show IntKind.u8.wrap 1=1 from rfl,show IntKind.u8.wrap 2=2 from rfl,show ((0:Int)<2)=True from by simp,show ((1:Int)<2)=True from by simp,Int.ofNat_zero,Int.ofNat_one,show ((1:Nat):Int)=1 from rfl,show ((0:Nat):Int)=0 from rfl,slAll,slsAll,Nat.reduceMul,Nat.reduceBEq,Nat.reduceLT,Nat.reduceLeDiff,memAll,vAll,reduceCtorEq,Nat.reduceEqDiff,Nat.reduceAdd,Nat.reduceLT,Nat.reduceLeDiff,Nat.beq]
   rw [ih _ (by simp only [show 0+1=1 from rfl,awQ1,slAll,slsAll,Nat.reduceMul,Nat.reduceBEq,Nat.reduceLT,Nat.reduceLeDiff,memAll,vAll,reduceCtorEq,Nat.reduceEqDiff,Nat.reduceAdd,Nat.reduceLT,Nat.reduceLeDiff,Nat.beq]<;>rfl)]
  |1,_ =>
   simp only [fn10_b0,awQ1,aw0,aw1,aw2,aw3,aw4,aw5,aw6,aw7,aw8,aw9,aw10,aw11,scS,scW,scB,scC,w00,Int.add_zero,show IntKind.i64.wrap (0+1)=1 from rfl,show IntKind.i64.wrap (1+1)=2 from rfl,show IntKind.u8.wrap 1=1 from rfl,show IntKind.u8.wrap 2=2 from rfl,show ((0:Int)<2)=True from by simp,show ((1:Int)<2)=True from by simp,Int.ofNat_zero,Int.ofNat_one,show ((1:Nat):Int)=1 from rfl,show ((0:Nat):Int)=0 from rfl,slAll,slsAll,Nat.reduceMul,Nat.reduceBEq,Nat.reduceLT,Nat.reduceLeDiff,memAll,vAll,reduceCtorEq,Nat.reduceEqDiff,Nat.reduceAdd,Nat.reduceLT,Nat.reduceLeDiff,Nat.beq]
   rw [ih _ (by simp only [show 1+1=2 from rfl,awQ2,slAll,slsAll,Nat.reduceMul,Nat.reduceBEq,Nat.reduceLT,Nat.reduceLeDiff,memAll,vAll,reduceCtorEq,Nat.reduceEqDiff,Nat.reduceAdd,Nat.reduceLT,Nat.reduceLeDiff,Nat.beq]<;>rfl)]
 ·intro rb
  simp only [fn10_b0,show (((2:Nat):Int)<2)=False from by simp,slAll,slsAll,Nat.reduceMul,Nat.reduceBEq,Nat.reduceLT,Nat.reduceLeDiff,memAll,vAll,reduceCtorEq,Nat.reduceEqDiff,Nat.reduceAdd,Nat.reduceLT,Nat.reduceLeDiff,Nat.beq]
set_option maxRecDepth 20000 in
theorem calAwake:cal env 10 []=some [(.bool true,false)]:=by
 rw [cal_code env10 rfl];simp only [fn10,slAll,Nat.reduceBEq,Nat.reduceLeDiff,Nat.reduceAdd,List.length_cons,List.length_nil]
 simp only [aw0,aw1,aw2,aw3,aw4,aw5,aw6,aw7,aw8,aw9,aw10,aw11,scS,scW,scB,scC,w00,Int.add_zero,slAll,slsAll,Nat.reduceMul,Nat.reduceBEq,Nat.reduceLT,Nat.reduceLeDiff,memAll,vAll,reduceCtorEq,Nat.reduceEqDiff,Nat.reduceAdd,Nat.reduceLT,Nat.reduceLeDiff,Nat.beq]
 rw [loop10 trivial (by simp only [awQ0];simp only [slAll,slsAll,Nat.reduceMul,Nat.reduceBEq,Nat.reduceLT,Nat.reduceLeDiff,Nat.reduceAdd,decide_true,Bool.and_self,Bool.true_and]<;>rfl)]
 simp only [awQ2,aw0,aw1,aw2,aw3,aw4,aw5,aw6,aw7,aw8,aw9,aw10,aw11,scS,scW,scB,scC,w00,Int.add_zero,slAll,slsAll,Nat.reduceMul,Nat.reduceBEq,Nat.reduceLT,Nat.reduceLeDiff,memAll,vAll,reduceCtorEq,Nat.reduceEqDiff,Nat.reduceAdd,Nat.reduceLT,Nat.reduceLeDiff,Nat.beq]
end Go.Proofs.YtpcncggjmabnaaaGreatDoor.V

namespace Go.Proofs.YtpcncggjmabnaaaGreatDoor.V
theorem eBm_at24 {l:List Bm} {i:Nat} (h:i<l.length):(l.map eBm)[i]?=some (.agg [.int .i64 l[i].size,.list 1 (l[i].ws.map eW)]):=by rw [List.getElem?_map,List.getElem?_eq_getElem h];rfl
structure okQ (s:Spl):Prop where
 sz:s.sz.length≤lim
 cy:s.cy.length≤lim
 dt:s.dt.length≤lim
 c1:∀ c∈s.cy,c.pos.length≤lim∧c.ws.length≤lim∧∀ x∈c.ws,x.data.length≤lim
 d1:∀ b∈s.dt,b.ws.length≤lim
def bSpl (s:Spl):List BV:=[.pv (.int .i64 s.lm),.pv (.list 1 (s.sz.map eI)),.pv (.list 5 (s.cy.map eCye)),.pv (.bool s.ov),.pv (.int .i64 s.fs),.pv (.int .i64 s.ls),.pv (.list 2 (s.dt.map eBm))]
theorem bSpl_eq (s:Spl):bSpl s=[.pv (.int .i64 s.lm),.pv (.list 1 (s.sz.map eI)),.pv (.list 5 (s.cy.map eCye)),.pv (.bool s.ov),.pv (.int .i64 s.fs),.pv (.int .i64 s.ls),.pv (.list 2 (s.dt.map eBm))]:=rfl
end Go.Proofs.YtpcncggjmabnaaaGreatDoor.V

namespace Go.Proofs.YtpcncggjmabnaaaGreatDoor.V
def okCy (c:Cye):Prop:=c.pos.length≤20∧c.ws.length≤10000∧∀ x∈c.ws,x.data.length≤10000
structure smQ (s:Spl):Prop where
 sz:s.sz.length≤1000
 cy:s.cy.length≤1000
 dt:s.dt.length≤1000
 c1:∀ c∈s.cy,okCy c
 d1:∀ b∈s.dt,b.ws.length≤1000
theorem smQ.ok {s:Spl} (h:smQ s):okQ s:=⟨Nat.le_trans h.sz (by decide),Nat.le_trans h.cy (by decide),Nat.le_trans h.dt (by decide),fun c hc=>⟨Nat.le_trans (h.c1 c hc).1 (by decide),Nat.le_trans (h.c1 c hc).2.1 (by decide),fun x hx=>Nat.le_trans ((h.c1 c hc).2.2 x hx) (by decide)⟩,fun b hb=>Nat.le_trans (h.d1 b hb) (by decide)⟩
def ckY (z:List Int) (c:Cye):Int:=ckC z c.base c.num c.time c.pos c.ws
def quX (z:List Int):Int→List Cye→Int→Bool
 |f,[],l=>f==l
 |f,c :: cs,l=>(ckY z c==0)&&((c.base==f)&&quX z c.num cs l)
def quN (f:Int) (cy:List Cye) (i:Nat):Int:=match i with
 |0=>f
 |j+1=>(cy[j]?.map (·.num)).getD 0
def bmsX (dt:List Bm) (z:List Int):Bool:=eqF (fun b n=>(bmE b==0)&&(b.size==n)) dt z
def chkQ (s:Spl):Int:=if sizesErr s.sz=0 then (if s.lm<1∨s.lm > 1024∨s.fs<0∨s.fs > s.ls∨s.ls > 1073741824 then 3 else if s.ov=true then (if (decide (s.cy=[])&&(decide (s.fs≠s.ls)&&bmsX s.dt s.sz))=true then 0 else 3) else (if (decide (s.dt=[])&&(decide ((s.cy.length:Int)≤s.lm)&&quX s.sz s.fs s.cy s.ls))=true then 0 else 3)) else sizesErr s.sz
instance:DecidableEq Cye:=fun a b=>if h:a.base=b.base∧a.num=b.num∧a.time=b.time∧a.pos=b.pos∧a.ws=b.ws then isTrue (by cases a;cases b;simp_all) else isFalse (fun e=>h (by subst e;simp))
theorem eI_at24 {l:List Int} {i:Nat} (h:i<l.length):(l.map eI)[i]?=some (.int .i64 l[i]):=by rw [List.getElem?_map,List.getElem?_eq_getElem h];rfl
def resB (n d:Nat) (b:Bool):Option (Ex × St):=if b then some (.normal,⟨sl n [(d,.any)],[],[],none⟩) else some (.ret,⟨sl n [(d,.pv (.bool false))],[],[],none⟩)
theorem resB_t (n d:Nat):resB n d true=some (.normal,⟨sl n [(d,.any)],[],[],none⟩):=rfl
theorem resB_f (n d:Nat):resB n d false=some (.ret,⟨sl n [(d,.pv (.bool false))],[],[],none⟩):=rfl
def okBN (b:Bm) (n:Int):Bool:=(bmE b==0)&&(b.size==n)
def bmsD (dt:List Bm) (z:List Int) (i:Nat):Bool:=((dt.drop i).zip (z.drop i)).all fun q=>okBN q.1 q.2
theorem bmsD_step {dt:List Bm} {z:List Int} {i:Nat} (h:i<dt.length) (h2:i<z.length):bmsD dt z i=(okBN dt[i] z[i]&&bmsD dt z (i+1)):=by
 unfold bmsD
 rw [List.drop_eq_getElem_cons h,List.drop_eq_getElem_cons h2]
 rfl
theorem bmsD_end (dt:List Bm) (z:List Int):bmsD dt z dt.length=true:=by
 unfold bmsD
 rw [List.drop_length]
 rfl
theorem bmsX_D (dt:List Bm) (z:List Int):bmsX dt z=(decide (dt.length=z.length)&&bmsD dt z 0):=rfl
theorem cal90 {b:Bm} {n:Int}:cal env 90 [eBm b,eI n]=some [(.bool (okBN b n),false)]:=by
 have e1:=cal91 (b:=b)
 rw [show eBm b=.agg [.int .i64 b.size,.list 1 (b.ws.map eW)] from rfl] at e1 ⊢
 unfold okBN eI
 by_cases c:bmE b=0
 ·rw [c] at e1 ⊢
  have Z:((0:Int)==0)=true:=rfl
  rw [Z,Bool.true_and]
  rw [cal_code env90 rfl];simp only [fn90,slAll,Nat.reduceBEq,Nat.reduceLeDiff,Nat.reduceAdd,List.length_cons,List.length_nil]
  simp only [e1,Z,part2,slAll,slsAll,Nat.reduceMul,Nat.reduceBEq,Nat.reduceLT,Nat.reduceLeDiff,memAll,vAll,reduceCtorEq,Nat.reduceEqDiff,Nat.reduceAdd,Nat.reduceLT,Nat.reduceLeDiff,Nat.beq]
 ·have Z:(bmE b==0)=false:=by simp [c]
  rw [Z,Bool.false_and]
  rw [cal_code env90 rfl];simp only [fn90,slAll,Nat.reduceBEq,Nat.reduceLeDiff,Nat.reduceAdd,List.length_cons,List.length_nil]
  simp only [e1,Z,part2,slAll,slsAll,Nat.reduceMul,Nat.reduceBEq,Nat.reduceLT,Nat.reduceLeDiff,memAll,vAll,reduceCtorEq,Nat.reduceEqDiff,Nat.reduceAdd,Nat.reduceLT,Nat.reduceLeDiff,Nat.beq]
theorem loop89 {dt:List Bm} {z:List Int} (hl:dt.length≤1000) (hz:dt.length=z.length) {st:St} (h:st.head [0,1,2,15,16,17] st.boxes.length=some ⟨sl 32 [(0,.pv (.list 2 (dt.map eBm))),(1,.pv (.list 1 (z.map eI))),(2,.pv (.func 90 [])),(15,.pv (.list 2 (dt.map eBm))),(16,.pv (.int .i64 dt.length)),(17,.pv (.int .i64 (0:Nat)))],[],[],none⟩) :
  den env fn89_l1 st=resB 32 6 (bmsD dt z ((0:Nat))):=by
 unfold fn89_l1
 refine clean_up (env:=env) (dt.length) (fun i=>⟨sl 32 [(0,.pv (.list 2 (dt.map eBm))),(1,.pv (.list 1 (z.map eI))),(2,.pv (.func 90 [])),(15,.pv (.list 2 (dt.map eBm))),(16,.pv (.int .i64 dt.length)),(17,.pv (.int .i64 i))],[],[],none⟩) (fun i=>resB 32 6 (bmsD dt z (i))) h (fun _=>rfl) (fun _=>by simp only [slAll,slsAll,Nat.reduceMul,Nat.reduceBEq,Nat.reduceLT,Nat.reduceLeDiff,Nat.reduceAdd,decide_true,Bool.and_self,Bool.true_and]) ?_ ?_
 ·intro i rb hi ih
  have hi1:=i64_next hi (by unfold lim;omega)
  have hj:i<z.length:=by omega
  have F1:((i:Int)<(dt.length:Int))=True:=eq_true (by omega)
  have e1:=cal90 (b:=dt[i]) (n:=z[i])
  rw [show eBm dt[i]=.agg [.int .i64 dt[i].size,.list 1 (dt[i].ws.map eW)] from rfl,show eI z[i]=.int .i64 z[i] from rfl] at e1
  have hx:=eBm_at24 hi
  have hy:=eI_at24 hj
  rw [bmsD_step hi hj]
  cases c:okBN dt[i] z[i] with
  |true =>
   rw [c] at e1
   rw [Bool.true_and]
   simp only [fn89_b0,F1,e1,hx,hy,part2,index_nat hi,index_nat hj,List.length_map,slAll,slsAll,Nat.reduceMul,Nat.reduceBEq,Nat.reduceLT,Nat.reduceLeDiff,memAll,vAll,reduceCtorEq,Nat.reduceEqDiff,Nat.reduceAdd,Nat.reduceLT,Nat.reduceLeDiff,Nat.beq]
   rw [ih _ (by simp only [hi1,slAll,slsAll,Nat.reduceMul,Nat.reduceBEq,Nat.reduceLT,Nat.reduceLeDiff,memAll,vAll,reduceCtorEq,Nat.reduceEqDiff,Nat.reduceAdd,Nat.reduceLT,Nat.reduceLeDiff,Nat.beq]<;>rfl)]
  |false =>
   rw [c] at e1
   rw [Bool.false_and,resB_f]
   simp only [fn89_b0,F1,e1,hx,hy,part2,index_nat hi,index_nat hj,List.length_map,slAll,slsAll,Nat.reduceMul,Nat.reduceBEq,Nat.reduceLT,Nat.reduceLeDiff,memAll,vAll,reduceCtorEq,Nat.reduceEqDiff,Nat.reduceAdd,Nat.reduceLT,Nat.reduceLeDiff,Nat.beq]
 ·intro rb
  rw [bmsD_end,resB_t]
  simp only [fn89_b0,Int.lt_irrefl,List.length_map,slAll,slsAll,Nat.reduceMul,Nat.reduceBEq,Nat.reduceLT,Nat.reduceLeDiff,memAll,vAll,reduceCtorEq,Nat.reduceEqDiff,Nat.reduceAdd,Nat.reduceLT,Nat.reduceLeDiff,Nat.beq]
theorem cal89 {dt:List Bm} {z:List Int} (hl:dt.length≤1000):cal env 89 [.list 2 (dt.map eBm),.list 1 (z.map eI),.func 90 []]=some [(.bool (bmsX dt z),false)]:=by
 rw [bmsX_D]
 by_cases c:dt.length=z.length
 ·have F1:((dt.length:Int) != (z.length:Int))=false:=by simp [c]
  rw [decide_eq_true c,Bool.true_and]
  rw [cal_code env89 rfl];simp only [fn89,slAll,Nat.reduceBEq,Nat.reduceLeDiff,Nat.reduceAdd,List.length_cons,List.length_nil]
  simp only [F1,List.length_map,slAll,slsAll,Nat.reduceMul,Nat.reduceBEq,Nat.reduceLT,Nat.reduceLeDiff,memAll,vAll,reduceCtorEq,Nat.reduceEqDiff,Nat.reduceAdd,Nat.reduceLT,Nat.reduceLeDiff,Nat.beq]
  rw [loop89 hl c (by simp only [slAll,slsAll,Nat.reduceMul,Nat.reduceBEq,Nat.reduceLT,Nat.reduceLeDiff,Nat.reduceAdd,decide_true,Bool.and_self,Bool.true_and]<;>rfl)]
  cases bmsD dt z 0 with
  |true=>rw [resB_t];simp only [F1,List.length_map,slAll,slsAll,Nat.reduceMul,Nat.reduceBEq,Nat.reduceLT,Nat.reduceLeDiff,memAll,vAll,reduceCtorEq,Nat.reduceEqDiff,Nat.reduceAdd,Nat.reduceLT,Nat.reduceLeDiff,Nat.beq]
  |false=>rw [resB_f];simp only [F1,List.length_map,slAll,slsAll,Nat.reduceMul,Nat.reduceBEq,Nat.reduceLT,Nat.reduceLeDiff,memAll,vAll,reduceCtorEq,Nat.reduceEqDiff,Nat.reduceAdd,Nat.reduceLT,Nat.reduceLeDiff,Nat.beq]
 ·have F1:((dt.length:Int) != (z.length:Int))=true:=by simp;omega
  rw [decide_eq_false c,Bool.false_and]
  rw [cal_code env89 rfl];simp only [fn89,slAll,Nat.reduceBEq,Nat.reduceLeDiff,Nat.reduceAdd,List.length_cons,List.length_nil]
  simp only [F1,List.length_map,slAll,slsAll,Nat.reduceMul,Nat.reduceBEq,Nat.reduceLT,Nat.reduceLeDiff,memAll,vAll,reduceCtorEq,Nat.reduceEqDiff,Nat.reduceAdd,Nat.reduceLT,Nat.reduceLeDiff,Nat.beq]
end Go.Proofs.YtpcncggjmabnaaaGreatDoor.V

namespace Go.Proofs.YtpcncggjmabnaaaGreatDoor.V
def quG (z:List Int):Int→List Cye→Bool
 |_,[]=>true
 |f,c :: cs=>(ckY z c==0)&&((c.base==f)&&quG z c.num cs)
def lastN:Int→List Cye→Int
 |f,[]=>f
 |_,c :: cs=>lastN c.num cs
theorem quX_G (z:List Int) (l:Int):∀ (cy:List Cye) (f:Int),quX z f cy l=(quG z f cy&&(lastN f cy==l))
 |[],f=>by simp [quX,quG,lastN]
 |c :: cs,f=>by rw [quX,quX_G z l cs,quG,lastN,Bool.and_assoc,Bool.and_assoc]
theorem quN_succ {f:Int} {cy:List Cye} {i:Nat} (h:i<cy.length):quN f cy (i+1)=cy[i].num:=by simp [quN,List.getElem?_eq_getElem h]
theorem lastN_N (f:Int) (cy:List Cye):lastN f cy=quN f cy cy.length:=by
 induction cy generalizing f with
 |nil=>rfl
 |cons c cs ih =>
  rw [lastN,ih]
  cases cs with
  |nil=>rfl
  |cons d ds=>simp [quN]
def quD (z:List Int) (f:Int) (cy:List Cye) (i:Nat):Bool:=quG z (quN f cy i) (cy.drop i)
theorem quD_step {z:List Int} {f:Int} {cy:List Cye} {i:Nat} (h:i<cy.length):quD z f cy i=((ckY z cy[i]==0)&&((cy[i].base==quN f cy i)&&quD z f cy (i+1))):=by
 unfold quD
 rw [List.drop_eq_getElem_cons h,quG,quN_succ h]
theorem quD_end (z:List Int) (f:Int) (cy:List Cye):quD z f cy cy.length=true:=by
 unfold quD
 rw [List.drop_length]
 rfl
theorem quX_D (z:List Int) (f l:Int) (cy:List Cye):quX z f cy l=(quD z f cy 0&&(quN f cy cy.length==l)):=by
 rw [quX_G,lastN_N]
 rfl
def quV (z:List Int):Int→List Cye→Int
 |f,[]=>f
 |f,c :: cs=>if ((ckY z c==0)&&(c.base==f))=true then quV z c.num cs else f
def quW (z:List Int) (f:Int) (cy:List Cye) (i:Nat):Int:=quV z (quN f cy i) (cy.drop i)
theorem quW_go {z:List Int} {f:Int} {cy:List Cye} {i:Nat} (h:i<cy.length) (h1:(ckY z cy[i]==0)=true) (h2:(cy[i].base==quN f cy i)=true):quW z f cy i=quW z f cy (i+1):=by
 unfold quW
 rw [List.drop_eq_getElem_cons h,quV,h1,h2,quN_succ h]
 rfl
theorem quW_no {z:List Int} {f:Int} {cy:List Cye} {i:Nat} (h:i<cy.length) (h1:((ckY z cy[i]==0)&&(cy[i].base==quN f cy i))=false):quW z f cy i=quN f cy i:=by
 unfold quW
 rw [List.drop_eq_getElem_cons h,quV,h1]
 rfl
def resK (z:List Int) (f:Int) (cy:List Cye) (i:Nat) (bx:List Box) (b:Bool):Option (Ex × St):=if b then some (.normal,⟨sl 47 [(1,.pbox 0 0),(2,.any),(3,.pv (.int .i64 (quN f cy cy.length)))],bx,[],none⟩) else some (.ret,⟨sl 47 [(1,.pbox 0 0),(2,.pv (.bool false)),(3,.pv (.int .i64 (quW z f cy i)))],bx,[],none⟩)
theorem resK_t (z:List Int) (f:Int) (cy:List Cye) (i:Nat) (bx:List Box):resK z f cy i bx true=some (.normal,⟨sl 47 [(1,.pbox 0 0),(2,.any),(3,.pv (.int .i64 (quN f cy cy.length)))],bx,[],none⟩):=rfl
theorem resK_f (z:List Int) (f:Int) (cy:List Cye) (i:Nat) (bx:List Box):resK z f cy i bx false=some (.ret,⟨sl 47 [(1,.pbox 0 0),(2,.pv (.bool false)),(3,.pv (.int .i64 (quW z f cy i)))],bx,[],none⟩):=rfl
theorem resK_go {z:List Int} {f:Int} {cy:List Cye} {i:Nat} (h:quW z f cy i=quW z f cy (i+1)) (bx:List Box) (b:Bool):resK z f cy i bx b=resK z f cy (i+1) bx b:=by cases b<;>simp [resK,h]
set_option maxRecDepth 20000 in
theorem loop87 {s:Spl} (hq:smQ s) {st:St} (h:st.head [1,3,9,10,11] st.boxes.length=some ⟨sl 47 [(1,.pbox 0 0),(3,.pv (.int .i64 (quN s.fs s.cy ((0:Nat))))),(9,.pv (.list 5 (s.cy.map eCye))),(10,.pv (.int .i64 s.cy.length)),(11,.pv (.int .i64 (0:Nat)))],[⟨false,bSpl s⟩],[],none⟩) :
  den env fn87_l1 st=resK s.sz s.fs s.cy ((0:Nat)) [⟨false,bSpl s⟩] (quD s.sz s.fs s.cy ((0:Nat))):=by
 unfold fn87_l1
 refine clean_up (env:=env) (nb:=1) (s.cy.length) (fun i=>⟨sl 47 [(1,.pbox 0 0),(3,.pv (.int .i64 (quN s.fs s.cy (i)))),(9,.pv (.list 5 (s.cy.map eCye))),(10,.pv (.int .i64 s.cy.length)),(11,.pv (.int .i64 i))],[⟨false,bSpl s⟩],[],none⟩) (fun i=>resK s.sz s.fs s.cy (i) [⟨false,bSpl s⟩] (quD s.sz s.fs s.cy (i))) h (fun _=>rfl) (fun _=>by simp only [slAll,slsAll,Nat.reduceMul,Nat.reduceBEq,Nat.reduceLT,Nat.reduceLeDiff,Nat.reduceAdd,decide_true,Bool.and_self,Bool.true_and]) ?_ ?_
 ·intro i rb hi ih
  have hi1:=i64_next hi (by have:=hq.cy;unfold lim;omega)
  have F1:((i:Int)<(s.cy.length:Int))=True:=eq_true (by omega)
  have q:=hq.c1 _ (List.getElem_mem hi)
  have e1:=cal42q (z:=s.sz) (b:=s.cy[i].base) (n:=s.cy[i].num) (t:=s.cy[i].time) (p:=s.cy[i].pos) (w:=s.cy[i].ws) (by have:=hq.sz;unfold lim;omega) (Nat.le_trans q.2.1 (by decide)) (fun x hx=>Nat.le_trans (q.2.2 x hx) (by decide)) q.1
  rw [show ckC s.sz s.cy[i].base s.cy[i].num s.cy[i].time s.cy[i].pos s.cy[i].ws=ckY s.sz s.cy[i] from rfl] at e1
  unfold eCyc at e1
  have hx:=eCye_at hi
  rw [quD_step hi]
  by_cases c:ckY s.sz s.cy[i]=0
  ·have Z:((0:Int) != 0)=false:=rfl
   have Z0:(ckY s.sz s.cy[i]==0)=true:=by simp [c]
   rw [c] at e1
   by_cases c2:s.cy[i].base=quN s.fs s.cy i
   ·have Z1:(s.cy[i].base != quN s.fs s.cy i)=false:=by simp [c2]
    have Z2:(s.cy[i].base==quN s.fs s.cy i)=true:=by simp [c2]
    rw [Z0,Z2,Bool.true_and,Bool.true_and,resK_go (quW_go hi Z0 Z2)]
    simp only [fn87_b0,F1,e1,hx,Z,Z1,part5,bSpl_eq,index_nat hi,List.length_map,slAll,slsAll,Nat.reduceMul,Nat.reduceBEq,Nat.reduceLT,Nat.reduceLeDiff,memAll,vAll,reduceCtorEq,Nat.reduceEqDiff,Nat.reduceAdd,Nat.reduceLT,Nat.reduceLeDiff,Nat.beq]
    rw [ih _ (by simp only [hi1,quN_succ hi,bSpl_eq,slAll,slsAll,Nat.reduceMul,Nat.reduceBEq,Nat.reduceLT,Nat.reduceLeDiff,memAll,vAll,reduceCtorEq,Nat.reduceEqDiff,Nat.reduceAdd,Nat.reduceLT,Nat.reduceLeDiff,Nat.beq]<;>rfl)]
    rfl
   ·have Z1:(s.cy[i].base != quN s.fs s.cy i)=true:=by simp [c2]
    have Z2:(s.cy[i].base==quN s.fs s.cy i)=false:=by simp [c2]
    rw [Z0,Z2,Bool.true_and,Bool.false_and,resK_f,quW_no hi (by rw [Z0,Z2];rfl)]
    simp only [fn87_b0,F1,e1,hx,Z,Z1,part5,bSpl_eq,index_nat hi,List.length_map,slAll,slsAll,Nat.reduceMul,Nat.reduceBEq,Nat.reduceLT,Nat.reduceLeDiff,memAll,vAll,reduceCtorEq,Nat.reduceEqDiff,Nat.reduceAdd,Nat.reduceLT,Nat.reduceLeDiff,Nat.beq]
  ·have Z:(ckY s.sz s.cy[i] != 0)=true:=by simp [c]
   have Z0:(ckY s.sz s.cy[i]==0)=false:=by simp [c]
   rw [Z0,Bool.false_and,resK_f,quW_no hi (by rw [Z0];rfl)]
   simp only [fn87_b0,F1,e1,hx,Z,part5,bSpl_eq,index_nat hi,List.length_map,slAll,slsAll,Nat.reduceMul,Nat.reduceBEq,Nat.reduceLT,Nat.reduceLeDiff,memAll,vAll,reduceCtorEq,Nat.reduceEqDiff,Nat.reduceAdd,Nat.reduceLT,Nat.reduceLeDiff,Nat.beq]
 ·intro rb
  rw [quD_end,resK_t]
  simp only [fn87_b0,Int.lt_irrefl,List.length_map,slAll,slsAll,Nat.reduceMul,Nat.reduceBEq,Nat.reduceLT,Nat.reduceLeDiff,memAll,vAll,reduceCtorEq,Nat.reduceEqDiff,Nat.reduceAdd,Nat.reduceLT,Nat.reduceLeDiff,Nat.beq]
def ckA (s:Spl):Bool:=quD s.sz s.fs s.cy 0&&(decide (s.dt=[])&&(decide ((s.cy.length:Int)≤s.lm)&&(quN s.fs s.cy s.cy.length==s.ls)))
set_option maxRecDepth 20000 in
theorem cal87 {s:Spl} (hq:smQ s):cal env 87 [eSpl s]=some [(.bool (ckA s),false)]:=by
 rw [eSpl_eq]
 unfold ckA
 rw [cal_code env87 rfl];simp only [fn87,slAll,Nat.reduceBEq,Nat.reduceLeDiff,Nat.reduceAdd,List.length_cons,List.length_nil]
 simp only [ slAll,slsAll,Nat.reduceMul,Nat.reduceBEq,Nat.reduceLT,Nat.reduceLeDiff,memAll,vAll,reduceCtorEq,Nat.reduceEqDiff,Nat.reduceAdd,Nat.reduceLT,Nat.reduceLeDiff,Nat.beq]
 rw [loop87 (s:=s) hq (by simp only [bSpl_eq];simp only [slAll,slsAll,Nat.reduceMul,Nat.reduceBEq,Nat.reduceLT,Nat.reduceLeDiff,Nat.reduceAdd,decide_true,Bool.and_self,Bool.true_and]<;>rfl)]
 cases quD s.sz s.fs s.cy 0 with
 |false=>rw [resK_f,Bool.false_and];simp only [bSpl_eq,slAll,slsAll,Nat.reduceMul,Nat.reduceBEq,Nat.reduceLT,Nat.reduceLeDiff,memAll,vAll,reduceCtorEq,Nat.reduceEqDiff,Nat.reduceAdd,Nat.reduceLT,Nat.reduceLeDiff,Nat.beq]
 |true =>
  rw [resK_t,Bool.true_and]
  by_cases c1:s.dt=[]
  ·have G1:((s.dt.length:Int)==0)=true:=by simp [c1]
   rw [decide_eq_true c1,Bool.true_and]
   by_cases c2:(s.cy.length:Int)≤s.lm
   ·have G2:=eq_true c2
    rw [decide_eq_true c2,Bool.true_and]
    simp only [bSpl_eq,G1,G2,List.length_map,slAll,slsAll,Nat.reduceMul,Nat.reduceBEq,Nat.reduceLT,Nat.reduceLeDiff,memAll,vAll,reduceCtorEq,Nat.reduceEqDiff,Nat.reduceAdd,Nat.reduceLT,Nat.reduceLeDiff,Nat.beq]
   ·have G2:=eq_false c2
    rw [decide_eq_false c2,Bool.false_and]
    simp only [bSpl_eq,G1,G2,List.length_map,slAll,slsAll,Nat.reduceMul,Nat.reduceBEq,Nat.reduceLT,Nat.reduceLeDiff,memAll,vAll,reduceCtorEq,Nat.reduceEqDiff,Nat.reduceAdd,Nat.reduceLT,Nat.reduceLeDiff,Nat.beq]
  ·have G1:((s.dt.length:Int)==0)=false:=by
    have:s.dt.length≠0:=fun e=>c1 (List.eq_nil_of_length_eq_zero e)
    simp;omega
   rw [decide_eq_false c1,Bool.false_and]
   simp only [bSpl_eq,G1,List.length_map,slAll,slsAll,Nat.reduceMul,Nat.reduceBEq,Nat.reduceLT,Nat.reduceLeDiff,memAll,vAll,reduceCtorEq,Nat.reduceEqDiff,Nat.reduceAdd,Nat.reduceLT,Nat.reduceLeDiff,Nat.beq]
def ckB (s:Spl):Bool:=bmsX s.dt s.sz&&(decide (s.cy=[])&&decide (s.fs<s.ls))
theorem cal88 {s:Spl} (hq:smQ s):cal env 88 [eSpl s]=some [(.bool (ckB s),false)]:=by
 have e1:=cal89 (dt:=s.dt) (z:=s.sz) hq.dt
 rw [eSpl_eq]
 unfold ckB
 cases c0:bmsX s.dt s.sz with
 |false =>
  rw [c0] at e1
  rw [Bool.false_and]
  rw [cal_code env88 rfl];simp only [fn88,slAll,Nat.reduceBEq,Nat.reduceLeDiff,Nat.reduceAdd,List.length_cons,List.length_nil]
  simp only [e1,slAll,slsAll,Nat.reduceMul,Nat.reduceBEq,Nat.reduceLT,Nat.reduceLeDiff,memAll,vAll,reduceCtorEq,Nat.reduceEqDiff,Nat.reduceAdd,Nat.reduceLT,Nat.reduceLeDiff,Nat.beq]
 |true =>
  rw [c0] at e1
  rw [Bool.true_and]
  by_cases c1:s.cy=[]
  ·have G1:((s.cy.length:Int)==0)=true:=by simp [c1]
   rw [decide_eq_true c1,Bool.true_and]
   by_cases c2:s.fs<s.ls
   ·have G2:=eq_true c2
    rw [decide_eq_true c2]
    rw [cal_code env88 rfl];simp only [fn88,slAll,Nat.reduceBEq,Nat.reduceLeDiff,Nat.reduceAdd,List.length_cons,List.length_nil]
    simp only [e1,G1,G2,List.length_map,slAll,slsAll,Nat.reduceMul,Nat.reduceBEq,Nat.reduceLT,Nat.reduceLeDiff,memAll,vAll,reduceCtorEq,Nat.reduceEqDiff,Nat.reduceAdd,Nat.reduceLT,Nat.reduceLeDiff,Nat.beq]
   ·have G2:=eq_false c2
    rw [decide_eq_false c2]
    rw [cal_code env88 rfl];simp only [fn88,slAll,Nat.reduceBEq,Nat.reduceLeDiff,Nat.reduceAdd,List.length_cons,List.length_nil]
    simp only [e1,G1,G2,List.length_map,slAll,slsAll,Nat.reduceMul,Nat.reduceBEq,Nat.reduceLT,Nat.reduceLeDiff,memAll,vAll,reduceCtorEq,Nat.reduceEqDiff,Nat.reduceAdd,Nat.reduceLT,Nat.reduceLeDiff,Nat.beq]
  ·have G1:((s.cy.length:Int)==0)=false:=by
    have:s.cy.length≠0:=fun e=>c1 (List.eq_nil_of_length_eq_zero e)
    simp;omega
   rw [decide_eq_false c1,Bool.false_and]
   rw [cal_code env88 rfl];simp only [fn88,slAll,Nat.reduceBEq,Nat.reduceLeDiff,Nat.reduceAdd,List.length_cons,List.length_nil]
   simp only [e1,G1,List.length_map,slAll,slsAll,Nat.reduceMul,Nat.reduceBEq,Nat.reduceLT,Nat.reduceLeDiff,memAll,vAll,reduceCtorEq,Nat.reduceEqDiff,Nat.reduceAdd,Nat.reduceLT,Nat.reduceLeDiff,Nat.beq]
theorem cal44 {s:Spl}:cal env 44 [eSpl s]=some [(.int .i64 (if s.ov then 1 else 0),false)]:=by
 rw [eSpl_eq]
 cases c:s.ov with
 |true =>
  rw [cal_code env44 rfl];simp only [fn44,slAll,Nat.reduceBEq,Nat.reduceLeDiff,Nat.reduceAdd,List.length_cons,List.length_nil]
  simp only [ slAll,slsAll,Nat.reduceMul,Nat.reduceBEq,Nat.reduceLT,Nat.reduceLeDiff,memAll,vAll,reduceCtorEq,Nat.reduceEqDiff,Nat.reduceAdd,Nat.reduceLT,Nat.reduceLeDiff,Nat.beq]
 |false =>
  rw [cal_code env44 rfl];simp only [fn44,slAll,Nat.reduceBEq,Nat.reduceLeDiff,Nat.reduceAdd,List.length_cons,List.length_nil]
  simp only [ slAll,slsAll,Nat.reduceMul,Nat.reduceBEq,Nat.reduceLT,Nat.reduceLeDiff,memAll,vAll,reduceCtorEq,Nat.reduceEqDiff,Nat.reduceAdd,Nat.reduceLT,Nat.reduceLeDiff,Nat.beq]
theorem cal49:cal env 49 []=some [(.agg [.func 87 [],.func 88 []],false)]:=by
 have P2:∀ a b:PV,part [a,b] 0 (some 2)=some (.agg [a,b]):=fun _ _=>rfl
 rw [cal_code env49 rfl];simp only [fn49,slAll,Nat.reduceBEq,Nat.reduceLeDiff,Nat.reduceAdd,List.length_cons,List.length_nil]
 simp only [P2,slAll,slsAll,Nat.reduceMul,Nat.reduceBEq,Nat.reduceLT,Nat.reduceLeDiff,memAll,vAll,reduceCtorEq,Nat.reduceEqDiff,Nat.reduceAdd,Nat.reduceLT,Nat.reduceLeDiff,Nat.beq]
end Go.Proofs.YtpcncggjmabnaaaGreatDoor.V

namespace Go.Proofs.YtpcncggjmabnaaaGreatDoor.V
set_option maxRecDepth 20000 in
theorem cal20 {s:Spl} (hq:smQ s):cal env 20 [eSpl s]=some [(.int .i64 (chkQ s),false)]:=by
 have e1:=cal38 (l:=s.sz) (by have:=hq.sz;unfold lim;omega)
 have e2:=cal49
 have e3:=cal44 (s:=s)
 have e4:=cal87 hq
 have e5:=cal88 hq
 have Z0:((0:Int) != 0)=false:=rfl
 have I0:index (.int .i64 0) 2=some 0:=rfl
 have I1:index (.int .i64 1) 2=some 1:=rfl
 rw [eSpl_eq] at e3 e4 e5 ⊢
 unfold chkQ
 by_cases cz:sizesErr s.sz=0
 rotate_left
 ·rw [if_neg cz] at e1 ⊢
  have Z:(sizesErr s.sz != 0)=true:=by simp [cz]
  rw [cal_code env20 rfl];simp only [fn20,slAll,Nat.reduceBEq,Nat.reduceLeDiff,Nat.reduceAdd,List.length_cons,List.length_nil]
  simp only [e1,Z,slAll,slsAll,Nat.reduceMul,Nat.reduceBEq,Nat.reduceLT,Nat.reduceLeDiff,memAll,vAll,reduceCtorEq,Nat.reduceEqDiff,Nat.reduceAdd,Nat.reduceLT,Nat.reduceLeDiff,Nat.beq]
 rw [cz,if_pos rfl] at e1
 rw [if_pos cz]
 by_cases c1:s.lm<1
 ·have F1:=eq_true c1
  rw [if_pos (Or.inl c1:s.lm<1∨s.lm > 1024∨s.fs<0∨s.fs > s.ls∨s.ls > 1073741824)]
  rw [cal_code env20 rfl];simp only [fn20,slAll,Nat.reduceBEq,Nat.reduceLeDiff,Nat.reduceAdd,List.length_cons,List.length_nil]
  simp only [e1,Z0,part7,F1,slAll,slsAll,Nat.reduceMul,Nat.reduceBEq,Nat.reduceLT,Nat.reduceLeDiff,memAll,vAll,reduceCtorEq,Nat.reduceEqDiff,Nat.reduceAdd,Nat.reduceLT,Nat.reduceLeDiff,Nat.beq]
 ·have F1:=eq_false c1
  by_cases c2:s.lm > 1024
  ·have F2:=eq_true c2
   rw [if_pos (Or.inr (Or.inl c2):s.lm<1∨s.lm > 1024∨s.fs<0∨s.fs > s.ls∨s.ls > 1073741824)]
   rw [cal_code env20 rfl];simp only [fn20,slAll,Nat.reduceBEq,Nat.reduceLeDiff,Nat.reduceAdd,List.length_cons,List.length_nil]
   simp only [e1,Z0,part7,F1,F2,slAll,slsAll,Nat.reduceMul,Nat.reduceBEq,Nat.reduceLT,Nat.reduceLeDiff,memAll,vAll,reduceCtorEq,Nat.reduceEqDiff,Nat.reduceAdd,Nat.reduceLT,Nat.reduceLeDiff,Nat.beq]
  ·have F2:=eq_false c2
   by_cases c3:s.fs<0
   ·have F3:=eq_true c3
    rw [if_pos (Or.inr (Or.inr (Or.inl c3)):s.lm<1∨s.lm > 1024∨s.fs<0∨s.fs > s.ls∨s.ls > 1073741824)]
    rw [cal_code env20 rfl];simp only [fn20,slAll,Nat.reduceBEq,Nat.reduceLeDiff,Nat.reduceAdd,List.length_cons,List.length_nil]
    simp only [e1,Z0,part7,F1,F2,F3,slAll,slsAll,Nat.reduceMul,Nat.reduceBEq,Nat.reduceLT,Nat.reduceLeDiff,memAll,vAll,reduceCtorEq,Nat.reduceEqDiff,Nat.reduceAdd,Nat.reduceLT,Nat.reduceLeDiff,Nat.beq]
   ·have F3:=eq_false c3
    by_cases c4:s.fs > s.ls
    ·have F4:=eq_true c4
     rw [if_pos (Or.inr (Or.inr (Or.inr (Or.inl c4))):s.lm<1∨s.lm > 1024∨s.fs<0∨s.fs > s.ls∨s.ls > 1073741824)]
     rw [cal_code env20 rfl];simp only [fn20,slAll,Nat.reduceBEq,Nat.reduceLeDiff,Nat.reduceAdd,List.length_cons,List.length_nil]
     simp only [e1,Z0,part7,F1,F2,F3,F4,slAll,slsAll,Nat.reduceMul,Nat.reduceBEq,Nat.reduceLT,Nat.reduceLeDiff,memAll,vAll,reduceCtorEq,Nat.reduceEqDiff,Nat.reduceAdd,Nat.reduceLT,Nat.reduceLeDiff,Nat.beq]
    ·have F4:=eq_false c4
     by_cases c5:s.ls > 1073741824
     ·have F5:=eq_true c5
      rw [if_pos (Or.inr (Or.inr (Or.inr (Or.inr c5))):s.lm<1∨s.lm > 1024∨s.fs<0∨s.fs > s.ls∨s.ls > 1073741824)]
      rw [cal_code env20 rfl];simp only [fn20,slAll,Nat.reduceBEq,Nat.reduceLeDiff,Nat.reduceAdd,List.length_cons,List.length_nil]
      simp only [e1,Z0,part7,F1,F2,F3,F4,F5,slAll,slsAll,Nat.reduceMul,Nat.reduceBEq,Nat.reduceLT,Nat.reduceLeDiff,memAll,vAll,reduceCtorEq,Nat.reduceEqDiff,Nat.reduceAdd,Nat.reduceLT,Nat.reduceLeDiff,Nat.beq]
     ·have F5:=eq_false c5
      rw [if_neg (show ¬ (s.lm<1∨s.lm > 1024∨s.fs<0∨s.fs > s.ls∨s.ls > 1073741824) by omega)]
      cases co:s.ov with
      |true =>
       rw [if_pos rfl]
       rw [co,if_pos rfl] at e3
       rw [co] at e5
       have hk:ckB s=(decide (s.cy=[])&&(decide (s.fs≠s.ls)&&bmsX s.dt s.sz)):=by
        unfold ckB
        rw [show decide (s.fs<s.ls)=decide (s.fs≠s.ls) from decide_eq_decide.2 (by omega)]
        cases bmsX s.dt s.sz<;>cases decide (s.cy=[])<;>cases decide (s.fs≠s.ls)<;>rfl
       rw [← hk]
       cases ck:ckB s with
       |true =>
        rw [ck] at e5
        rw [if_pos rfl]
        rw [cal_code env20 rfl];simp only [fn20,slAll,Nat.reduceBEq,Nat.reduceLeDiff,Nat.reduceAdd,List.length_cons,List.length_nil]
        simp only [co,e1,e2,e3,e5,I1,Z0,F1,F2,F3,F4,F5,part7,slAll,slsAll,Nat.reduceMul,Nat.reduceBEq,Nat.reduceLT,Nat.reduceLeDiff,memAll,vAll,reduceCtorEq,Nat.reduceEqDiff,Nat.reduceAdd,Nat.reduceLT,Nat.reduceLeDiff,Nat.beq]
       |false =>
        rw [ck] at e5
        rw [if_neg Bool.false_ne_true]
        rw [cal_code env20 rfl];simp only [fn20,slAll,Nat.reduceBEq,Nat.reduceLeDiff,Nat.reduceAdd,List.length_cons,List.length_nil]
        simp only [co,e1,e2,e3,e5,I1,Z0,F1,F2,F3,F4,F5,part7,slAll,slsAll,Nat.reduceMul,Nat.reduceBEq,Nat.reduceLT,Nat.reduceLeDiff,memAll,vAll,reduceCtorEq,Nat.reduceEqDiff,Nat.reduceAdd,Nat.reduceLT,Nat.reduceLeDiff,Nat.beq]
      |false =>
       rw [if_neg Bool.false_ne_true]
       rw [co,if_neg Bool.false_ne_true] at e3
       rw [co] at e4
       have hk:ckA s=(decide (s.dt=[])&&(decide ((s.cy.length:Int)≤s.lm)&&quX s.sz s.fs s.cy s.ls)):=by
        unfold ckA
        rw [quX_D]
        cases quD s.sz s.fs s.cy 0<;>cases decide (s.dt=[])<;>cases decide ((s.cy.length:Int)≤s.lm)<;>rfl
       rw [← hk]
       cases ck:ckA s with
       |true =>
        rw [ck] at e4
        rw [if_pos rfl]
        rw [cal_code env20 rfl];simp only [fn20,slAll,Nat.reduceBEq,Nat.reduceLeDiff,Nat.reduceAdd,List.length_cons,List.length_nil]
        simp only [co,e1,e2,e3,e4,I0,Z0,F1,F2,F3,F4,F5,part7,slAll,slsAll,Nat.reduceMul,Nat.reduceBEq,Nat.reduceLT,Nat.reduceLeDiff,memAll,vAll,reduceCtorEq,Nat.reduceEqDiff,Nat.reduceAdd,Nat.reduceLT,Nat.reduceLeDiff,Nat.beq]
       |false =>
        rw [ck] at e4
        rw [if_neg Bool.false_ne_true]
        rw [cal_code env20 rfl];simp only [fn20,slAll,Nat.reduceBEq,Nat.reduceLeDiff,Nat.reduceAdd,List.length_cons,List.length_nil]
        simp only [co,e1,e2,e3,e4,I0,Z0,F1,F2,F3,F4,F5,part7,slAll,slsAll,Nat.reduceMul,Nat.reduceBEq,Nat.reduceLT,Nat.reduceLeDiff,memAll,vAll,reduceCtorEq,Nat.reduceEqDiff,Nat.reduceAdd,Nat.reduceLT,Nat.reduceLeDiff,Nat.beq]
end Go.Proofs.YtpcncggjmabnaaaGreatDoor.V

namespace Go.Proofs.YtpcncggjmabnaaaGreatDoor.V
def bCye (c:Cye):List BV:=[.pv (.int .i64 c.base),.pv (.int .i64 c.num),.pv (.int .i64 c.time),.pv (.list 1 (c.pos.map eI)),.pv (.list 3 (c.ws.map eWr))]
theorem bCye_eq (c:Cye):bCye c=[.pv (.int .i64 c.base),.pv (.int .i64 c.num),.pv (.int .i64 c.time),.pv (.list 1 (c.pos.map eI)),.pv (.list 3 (c.ws.map eWr))]:=rfl
def zCy:List BV:=[.pv (.int .i64 0),.pv (.int .i64 0),.pv (.int .i64 0),.row 1 [],.row 3 []]
theorem zCy_eq:zCy=[.pv (.int .i64 0),.pv (.int .i64 0),.pv (.int .i64 0),.row 1 [],.row 3 []]:=rfl
theorem wTake {l:List Wrt} {i:Nat} (h:i<l.length):(l.take (i+1)).map eWr=(l.take i).map eWr++[.agg [.int .i64 l[i].volume,.int .i64 l[i].start,.list 8 (l[i].data.map eSec)]]:=by
 rw [List.take_succ_eq_append_getElem h,List.map_append];rfl
theorem cTake {l:List Cye} {i:Nat} (h:i<l.length):(l.take (i+1)).map eCye=(l.take i).map eCye++[.agg [.int .i64 l[i].base,.int .i64 l[i].num,.int .i64 l[i].time,.list 1 (l[i].pos.map eI),.list 3 (l[i].ws.map eWr)]]:=by
 rw [List.take_succ_eq_append_getElem h,List.map_append];rfl
theorem bTake {l:List Bm} {i:Nat} (h:i<l.length):(l.take (i+1)).map eBm=(l.take i).map eBm++[.agg [.int .i64 l[i].size,.list 1 (l[i].ws.map eW)]]:=by
 rw [List.take_succ_eq_append_getElem h,List.map_append];rfl
theorem part3 (a b c:PV):part [a,b,c] 0 (some 3)=some (.agg [a,b,c]):=rfl
theorem cal86q {es:List PV} (hl:es.length≤lim):cal env 86 [.list 8 es]=some [(.list 8 es,true)]:=(cal_ext env86).trans (if_pos ⟨rfl,hl⟩)
theorem cal80q {es:List PV} (hl:es.length≤lim):cal env 80 [.list 1 es]=some [(.list 1 es,true)]:=(cal_ext env80).trans (if_pos ⟨rfl,hl⟩)
theorem loop48 {c:Cye} (ho:okCy c) {st:St} (h:st.head [1,2,3,7,8,9,20] st.boxes.length=some ⟨sl 29 [(1,.pbox 0 0),(2,.pbox 1 0),(3,.row 3 ((c.ws.take ((0:Nat))).map eWr)),(7,.pv (.list 3 (c.ws.map eWr))),(8,.pv (.int .i64 c.ws.length)),(9,.pv (.int .i64 (0:Nat))),(20,.any)],[⟨false,bCye c⟩,⟨false,zCy⟩],[],none⟩) :
  den env fn48_l1 st=some (.normal,⟨sl 29 [(1,.pbox 0 0),(2,.pbox 1 0),(3,.row 3 (c.ws.map eWr))],[⟨false,bCye c⟩,⟨false,zCy⟩],[],none⟩):=by
 unfold fn48_l1
 refine clean_up (env:=env) (c.ws.length) (fun i=>⟨sl 29 [(1,.pbox 0 0),(2,.pbox 1 0),(3,.row 3 ((c.ws.take (i)).map eWr)),(7,.pv (.list 3 (c.ws.map eWr))),(8,.pv (.int .i64 c.ws.length)),(9,.pv (.int .i64 i)),(20,.any)],[⟨false,bCye c⟩,⟨false,zCy⟩],[],none⟩) (fun i=>some (.normal,⟨sl 29 [(1,.pbox 0 0),(2,.pbox 1 0),(3,.row 3 (c.ws.map eWr))],[⟨false,bCye c⟩,⟨false,zCy⟩],[],none⟩)) h (fun _=>rfl) (fun _=>by simp only [slAll,slsAll,Nat.reduceMul,Nat.reduceBEq,Nat.reduceLT,Nat.reduceLeDiff,Nat.reduceAdd,decide_true,Bool.and_self,Bool.true_and]) ?_ ?_
 ·intro i rb hi ih
  have h1:=ho.2.1
  have hi1:=i64_next hi (by unfold lim;omega)
  have F1:((i:Int)<(c.ws.length:Int))=True:=eq_true (by omega)
  have q:=ho.2.2 _ (List.getElem_mem hi)
  have e1:=cal86q (es:=c.ws[i].data.map eSec) (by rw [List.length_map];unfold lim;omega)
  have hx:=eWr_at hi
  have F5:((c.ws.take i).length+1≤lim)=True:=eq_true (by rw [List.length_take];unfold lim;omega)
  rw [wTake hi] at ih
  simp only [fn48_b0,F1,F5,e1,hx,part3,bCye_eq,zCy_eq,index_nat hi,List.length_map,slAll,slsAll,Nat.reduceMul,Nat.reduceBEq,Nat.reduceLT,Nat.reduceLeDiff,memAll,vAll,reduceCtorEq,Nat.reduceEqDiff,Nat.reduceAdd,Nat.reduceLT,Nat.reduceLeDiff,Nat.beq] at *
  rw [ih _ (by simp only [hi1,bCye_eq,zCy_eq,slAll,slsAll,Nat.reduceMul,Nat.reduceBEq,Nat.reduceLT,Nat.reduceLeDiff,memAll,vAll,reduceCtorEq,Nat.reduceEqDiff,Nat.reduceAdd,Nat.reduceLT,Nat.reduceLeDiff,Nat.beq]<;>rfl)]
 ·intro rb
  rw [List.take_length]
  simp only [fn48_b0,Int.lt_irrefl,bCye_eq,zCy_eq,List.length_map,slAll,slsAll,Nat.reduceMul,Nat.reduceBEq,Nat.reduceLT,Nat.reduceLeDiff,memAll,vAll,reduceCtorEq,Nat.reduceEqDiff,Nat.reduceAdd,Nat.reduceLT,Nat.reduceLeDiff,Nat.beq]
theorem cal48 {c:Cye} (ho:okCy c):cal env 48 [eCye c]=some [(eCye c,false)]:=by
 have e1:=cal39q (es:=c.pos.map eI) (by have:=ho.1;rw [List.length_map];unfold lim;omega)
 rw [eCye_eq]
 rw [cal_code env48 rfl];simp only [fn48,slAll,Nat.reduceBEq,Nat.reduceLeDiff,Nat.reduceAdd,List.length_cons,List.length_nil]
 simp only [e1,part5,slAll,slsAll,Nat.reduceMul,Nat.reduceBEq,Nat.reduceLT,Nat.reduceLeDiff,memAll,vAll,reduceCtorEq,Nat.reduceEqDiff,Nat.reduceAdd,Nat.reduceLT,Nat.reduceLeDiff,Nat.beq]
 rw [loop48 ho (by simp only [bCye_eq,zCy_eq];simp only [slAll,slsAll,Nat.reduceMul,Nat.reduceBEq,Nat.reduceLT,Nat.reduceLeDiff,Nat.reduceAdd,decide_true,Bool.and_self,Bool.true_and]<;>rfl)]
 simp only [e1,part5,bCye_eq,zCy_eq,slAll,slsAll,Nat.reduceMul,Nat.reduceBEq,Nat.reduceLT,Nat.reduceLeDiff,memAll,vAll,reduceCtorEq,Nat.reduceEqDiff,Nat.reduceAdd,Nat.reduceLT,Nat.reduceLeDiff,Nat.beq]
def zSp:List BV:=[.pv (.int .i64 0),.row 1 [],.row 5 [],.pv (.bool false),.pv (.int .i64 0),.pv (.int .i64 0),.row 2 []]
theorem zSp_eq:zSp=[.pv (.int .i64 0),.row 1 [],.row 5 [],.pv (.bool false),.pv (.int .i64 0),.pv (.int .i64 0),.row 2 []]:=rfl
theorem loop45 {s:Spl} (hq:smQ s) {st:St} (h:st.head [1,2,3,10,11,12,20,37] st.boxes.length=some ⟨sl 48 [(1,.pbox 0 0),(2,.pbox 1 0),(3,.row 5 ((s.cy.take ((0:Nat))).map eCye)),(10,.pv (.list 5 (s.cy.map eCye))),(11,.pv (.int .i64 s.cy.length)),(12,.pv (.int .i64 (0:Nat))),(20,.any),(37,.any)],[⟨false,bSpl s⟩,⟨false,zSp⟩],[],none⟩) :
  den env fn45_l1 st=some (.normal,⟨sl 48 [(1,.pbox 0 0),(2,.pbox 1 0),(3,.row 5 (s.cy.map eCye)),(20,.any),(37,.any)],[⟨false,bSpl s⟩,⟨false,zSp⟩],[],none⟩):=by
 unfold fn45_l1
 refine clean_up (env:=env) (s.cy.length) (fun i=>⟨sl 48 [(1,.pbox 0 0),(2,.pbox 1 0),(3,.row 5 ((s.cy.take (i)).map eCye)),(10,.pv (.list 5 (s.cy.map eCye))),(11,.pv (.int .i64 s.cy.length)),(12,.pv (.int .i64 i)),(20,.any),(37,.any)],[⟨false,bSpl s⟩,⟨false,zSp⟩],[],none⟩) (fun i=>some (.normal,⟨sl 48 [(1,.pbox 0 0),(2,.pbox 1 0),(3,.row 5 (s.cy.map eCye)),(20,.any),(37,.any)],[⟨false,bSpl s⟩,⟨false,zSp⟩],[],none⟩)) h (fun _=>rfl) (fun _=>by simp only [slAll,slsAll,Nat.reduceMul,Nat.reduceBEq,Nat.reduceLT,Nat.reduceLeDiff,Nat.reduceAdd,decide_true,Bool.and_self,Bool.true_and]) ?_ ?_
 ·intro i rb hi ih
  have h1:=hq.cy
  have hi1:=i64_next hi (by unfold lim;omega)
  have F1:((i:Int)<(s.cy.length:Int))=True:=eq_true (by omega)
  have e1:=cal48 (hq.c1 _ (List.getElem_mem hi))
  rw [eCye_eq] at e1
  have hx:=eCye_at hi
  have F5:((s.cy.take i).length+1≤lim)=True:=eq_true (by rw [List.length_take];unfold lim;omega)
  rw [cTake hi] at ih
  simp only [fn45_b0,F1,F5,e1,hx,part5,bSpl_eq,zSp_eq,index_nat hi,List.length_map,slAll,slsAll,Nat.reduceMul,Nat.reduceBEq,Nat.reduceLT,Nat.reduceLeDiff,memAll,vAll,reduceCtorEq,Nat.reduceEqDiff,Nat.reduceAdd,Nat.reduceLT,Nat.reduceLeDiff,Nat.beq] at *
  rw [ih _ (by simp only [hi1,bSpl_eq,zSp_eq,slAll,slsAll,Nat.reduceMul,Nat.reduceBEq,Nat.reduceLT,Nat.reduceLeDiff,memAll,vAll,reduceCtorEq,Nat.reduceEqDiff,Nat.reduceAdd,Nat.reduceLT,Nat.reduceLeDiff,Nat.beq]<;>rfl)]
 ·intro rb
  rw [List.take_length]
  simp only [fn45_b0,Int.lt_irrefl,bSpl_eq,zSp_eq,List.length_map,slAll,slsAll,Nat.reduceMul,Nat.reduceBEq,Nat.reduceLT,Nat.reduceLeDiff,memAll,vAll,reduceCtorEq,Nat.reduceEqDiff,Nat.reduceAdd,Nat.reduceLT,Nat.reduceLeDiff,Nat.beq]
theorem loop45l3 {s:Spl} (hq:smQ s) {L:List PV} {st:St} (h:st.head [1,2,3,6,20,23,24,25,37] st.boxes.length=some ⟨sl 48 [(1,.pbox 0 0),(2,.pbox 1 0),(3,.row 5 L),(6,.row 2 ((s.dt.take ((0:Nat))).map eBm)),(20,.any),(23,.pv (.list 2 (s.dt.map eBm))),(24,.pv (.int .i64 s.dt.length)),(25,.pv (.int .i64 (0:Nat))),(37,.any)],[⟨false,bSpl s⟩,⟨false,zSp⟩],[],none⟩) :
  den env fn45_l3 st=some (.normal,⟨sl 48 [(1,.pbox 0 0),(2,.pbox 1 0),(3,.row 5 L),(6,.row 2 (s.dt.map eBm))],[⟨false,bSpl s⟩,⟨false,zSp⟩],[],none⟩):=by
 unfold fn45_l3
 refine clean_up (env:=env) (s.dt.length) (fun i=>⟨sl 48 [(1,.pbox 0 0),(2,.pbox 1 0),(3,.row 5 L),(6,.row 2 ((s.dt.take (i)).map eBm)),(20,.any),(23,.pv (.list 2 (s.dt.map eBm))),(24,.pv (.int .i64 s.dt.length)),(25,.pv (.int .i64 i)),(37,.any)],[⟨false,bSpl s⟩,⟨false,zSp⟩],[],none⟩) (fun i=>some (.normal,⟨sl 48 [(1,.pbox 0 0),(2,.pbox 1 0),(3,.row 5 L),(6,.row 2 (s.dt.map eBm))],[⟨false,bSpl s⟩,⟨false,zSp⟩],[],none⟩)) h (fun _=>rfl) (fun _=>by simp only [slAll,slsAll,Nat.reduceMul,Nat.reduceBEq,Nat.reduceLT,Nat.reduceLeDiff,Nat.reduceAdd,decide_true,Bool.and_self,Bool.true_and]) ?_ ?_
 ·intro i rb hi ih
  have h1:=hq.dt
  have hi1:=i64_next hi (by unfold lim;omega)
  have F1:((i:Int)<(s.dt.length:Int))=True:=eq_true (by omega)
  have q:=hq.d1 _ (List.getElem_mem hi)
  have e1:=cal80q (es:=s.dt[i].ws.map eW) (by rw [List.length_map];unfold lim;omega)
  have hx:=eBm_at24 hi
  have F5:((s.dt.take i).length+1≤lim)=True:=eq_true (by rw [List.length_take];unfold lim;omega)
  rw [bTake hi] at ih
  simp only [fn45_b2,F1,F5,e1,hx,part2,bSpl_eq,zSp_eq,index_nat hi,List.length_map,slAll,slsAll,Nat.reduceMul,Nat.reduceBEq,Nat.reduceLT,Nat.reduceLeDiff,memAll,vAll,reduceCtorEq,Nat.reduceEqDiff,Nat.reduceAdd,Nat.reduceLT,Nat.reduceLeDiff,Nat.beq] at *
  rw [ih _ (by simp only [hi1,bSpl_eq,zSp_eq,slAll,slsAll,Nat.reduceMul,Nat.reduceBEq,Nat.reduceLT,Nat.reduceLeDiff,memAll,vAll,reduceCtorEq,Nat.reduceEqDiff,Nat.reduceAdd,Nat.reduceLT,Nat.reduceLeDiff,Nat.beq]<;>rfl)]
 ·intro rb
  rw [List.take_length]
  simp only [fn45_b2,Int.lt_irrefl,bSpl_eq,zSp_eq,List.length_map,slAll,slsAll,Nat.reduceMul,Nat.reduceBEq,Nat.reduceLT,Nat.reduceLeDiff,memAll,vAll,reduceCtorEq,Nat.reduceEqDiff,Nat.reduceAdd,Nat.reduceLT,Nat.reduceLeDiff,Nat.beq]
theorem cal45 {s:Spl} (hq:smQ s):cal env 45 [eSpl s]=some [(eSpl s,true)]:=by
 have e1:=cal39q (es:=s.sz.map eI) (by have:=hq.sz;rw [List.length_map];unfold lim;omega)
 rw [eSpl_eq]
 rw [cal_code env45 rfl];simp only [fn45,slAll,Nat.reduceBEq,Nat.reduceLeDiff,Nat.reduceAdd,List.length_cons,List.length_nil]
 simp only [e1,part7,slAll,slsAll,Nat.reduceMul,Nat.reduceBEq,Nat.reduceLT,Nat.reduceLeDiff,memAll,vAll,reduceCtorEq,Nat.reduceEqDiff,Nat.reduceAdd,Nat.reduceLT,Nat.reduceLeDiff,Nat.beq]
 rw [loop45 hq (by simp only [bSpl_eq,zSp_eq];simp only [slAll,slsAll,Nat.reduceMul,Nat.reduceBEq,Nat.reduceLT,Nat.reduceLeDiff,Nat.reduceAdd,decide_true,Bool.and_self,Bool.true_and]<;>rfl)]
 simp only [bSpl_eq,zSp_eq,slAll,slsAll,Nat.reduceMul,Nat.reduceBEq,Nat.reduceLT,Nat.reduceLeDiff,memAll,vAll,reduceCtorEq,Nat.reduceEqDiff,Nat.reduceAdd,Nat.reduceLT,Nat.reduceLeDiff,Nat.beq]
 rw [loop45l3 hq (by simp only [bSpl_eq,zSp_eq];simp only [slAll,slsAll,Nat.reduceMul,Nat.reduceBEq,Nat.reduceLT,Nat.reduceLeDiff,Nat.reduceAdd,decide_true,Bool.and_self,Bool.true_and]<;>rfl)]
 simp only [e1,part7,bSpl_eq,zSp_eq,slAll,slsAll,Nat.reduceMul,Nat.reduceBEq,Nat.reduceLT,Nat.reduceLeDiff,memAll,vAll,reduceCtorEq,Nat.reduceEqDiff,Nat.reduceAdd,Nat.reduceLT,Nat.reduceLeDiff,Nat.beq]
end Go.Proofs.YtpcncggjmabnaaaGreatDoor.V

namespace Go.Proofs.YtpcncggjmabnaaaGreatDoor.V
theorem wds_nat {n:Int} (h:0≤n):((wdsN n).toNat:Int)=wdsN n:=by unfold wdsN;omega
def newE (n:Int):Int:=if n<0∨n > 4096 then 2 else 0
def newO (n:Int):Bm:=if n<0∨n > 4096 then ⟨0,[]⟩ else ⟨n,List.replicate (wdsN n).toNat 0⟩
theorem cal78 {n:Int}:cal env 78 [.int .i64 n]=some [(eBm (newO n),false),(.int .i64 (newE n),false)]:=by
 have hz:=eBm_zero
 unfold newE newO
 by_cases c0:n<0
 ·rw [if_pos (.inl c0),if_pos (.inl c0),hz]
  have F0:(n<0)=True:=eq_true c0
  rw [cal_code env78 rfl];simp only [fn78,slAll,Nat.reduceBEq,Nat.reduceLeDiff,Nat.reduceAdd,List.length_cons,List.length_nil]
  simp only [F0,slAll,slsAll,Nat.reduceMul,Nat.reduceBEq,Nat.reduceLT,Nat.reduceLeDiff,memAll,vAll,reduceCtorEq,Nat.reduceEqDiff,Nat.reduceAdd,Nat.reduceLT,Nat.reduceLeDiff,Nat.beq]
 ·have F0:(n<0)=False:=eq_false c0
  by_cases c1:n > 4096
  ·rw [if_pos (.inr c1),if_pos (.inr c1),hz]
   have F1:(n > 4096)=True:=eq_true c1
   rw [cal_code env78 rfl];simp only [fn78,slAll,Nat.reduceBEq,Nat.reduceLeDiff,Nat.reduceAdd,List.length_cons,List.length_nil]
   simp only [F0,F1,slAll,slsAll,Nat.reduceMul,Nat.reduceBEq,Nat.reduceLT,Nat.reduceLeDiff,memAll,vAll,reduceCtorEq,Nat.reduceEqDiff,Nat.reduceAdd,Nat.reduceLT,Nat.reduceLeDiff,Nat.beq]
  ·have F1:(n > 4096)=False:=eq_false c1
   rw [if_neg (by omega),if_neg (by omega)]
   have e1:=cal109 (n:=n) (by omega)
   have hw:0≤wdsN n∧wdsN n≤64:=by unfold wdsN;omega
   have F3:(0≤wdsN n)=True:=eq_true hw.1
   have F4:(wdsN n≤(lim:Int))=True:=eq_true (by unfold lim;omega)
   have F5:(wdsN n≤wdsN n)=True:=eq_true (Int.le_refl _)
   have z0:eW 0=.int .u64 0:=rfl
   unfold eBm
   rw [List.map_replicate,z0]
   rw [cal_code env78 rfl];simp only [fn78,slAll,Nat.reduceBEq,Nat.reduceLeDiff,Nat.reduceAdd,List.length_cons,List.length_nil]
   simp only [F0,F1,e1,F3,F4,F5,slAll,slsAll,Nat.reduceMul,Nat.reduceBEq,Nat.reduceLT,Nat.reduceLeDiff,memAll,vAll,reduceCtorEq,Nat.reduceEqDiff,Nat.reduceAdd,Nat.reduceLT,Nat.reduceLeDiff,Nat.beq]
def bmFit (size:Int) (e:Exn):Bool:=decide (0≤e.start)&&decide (0≤e.count)&&decide (e.start≤size)&&decide (e.count≤size - e.start)
theorem bmFit_iff {size:Int} {e:Exn}:bmFit size e=true ↔ 0≤e.start∧0≤e.count∧e.start≤size∧e.count≤size - e.start:=by
 unfold bmFit;simp [and_assoc]
theorem cal131 {size:Int} {e:Exn} (hs:0≤size∧size≤4096):cal env 131 [eExt e,.int .i64 size]=some [(.bool (bmFit size e),false)]:=by
 unfold bmFit eExt
 by_cases c0:0≤e.start
 ·have F0:(e.start ≥ 0)=True:=eq_true c0
  rw [decide_eq_true c0]
  by_cases c1:0≤e.count
  ·have F1:(e.count ≥ 0)=True:=eq_true c1
   rw [decide_eq_true c1]
   by_cases c2:e.start≤size
   ·have F2:(e.start≤size)=True:=eq_true c2
    have W:IntKind.i64.wrap (size - e.start)=size - e.start:=i64_fits (by omega)
    rw [decide_eq_true c2]
    rw [cal_code env131 rfl];simp only [fn131,slAll,Nat.reduceBEq,Nat.reduceLeDiff,Nat.reduceAdd,List.length_cons,List.length_nil]
    simp only [F0,F1,F2,W,slAll,slsAll,Nat.reduceMul,Nat.reduceBEq,Nat.reduceLT,Nat.reduceLeDiff,memAll,vAll,reduceCtorEq,Nat.reduceEqDiff,Nat.reduceAdd,Nat.reduceLT,Nat.reduceLeDiff,Nat.beq]
   ·have F2:(e.start≤size)=False:=eq_false c2
    rw [decide_eq_false c2]
    rw [cal_code env131 rfl];simp only [fn131,slAll,Nat.reduceBEq,Nat.reduceLeDiff,Nat.reduceAdd,List.length_cons,List.length_nil]
    simp only [F0,F1,F2,slAll,slsAll,Nat.reduceMul,Nat.reduceBEq,Nat.reduceLT,Nat.reduceLeDiff,memAll,vAll,reduceCtorEq,Nat.reduceEqDiff,Nat.reduceAdd,Nat.reduceLT,Nat.reduceLeDiff,Nat.beq]
  ·have F1:(e.count ≥ 0)=False:=eq_false c1
   rw [decide_eq_false c1]
   rw [cal_code env131 rfl];simp only [fn131,slAll,Nat.reduceBEq,Nat.reduceLeDiff,Nat.reduceAdd,List.length_cons,List.length_nil]
   simp only [F0,F1,slAll,slsAll,Nat.reduceMul,Nat.reduceBEq,Nat.reduceLT,Nat.reduceLeDiff,memAll,vAll,reduceCtorEq,Nat.reduceEqDiff,Nat.reduceAdd,Nat.reduceLT,Nat.reduceLeDiff,Nat.beq]
 ·have F0:(e.start ≥ 0)=False:=eq_false c0
  rw [decide_eq_false c0]
  rw [cal_code env131 rfl];simp only [fn131,slAll,Nat.reduceBEq,Nat.reduceLeDiff,Nat.reduceAdd,List.length_cons,List.length_nil]
  simp only [F0,slAll,slsAll,Nat.reduceMul,Nat.reduceBEq,Nat.reduceLT,Nat.reduceLeDiff,memAll,vAll,reduceCtorEq,Nat.reduceEqDiff,Nat.reduceAdd,Nat.reduceLT,Nat.reduceLeDiff,Nat.beq]
def chW (f:Wd→Wd→Wd) (ws:List Wd) (e:Exn):List Wd:=ws.mapIdx fun k w=>f w (maskW k e.start (e.start+e.count))
theorem chW_len (f:Wd→Wd→Wd) (ws:List Wd) (e:Exn):(chW f ws e).length=ws.length:=by simp [chW]
def chE (b:Bm) (e:Exn):Int:=if okB b=false then 3 else if bmFit b.size e=false then 2 else 0
def chO (f:Wd→Wd→Wd) (b:Bm) (e:Exn):Bm:=if chE b e=0 then ⟨b.size,chW f b.ws e⟩ else ⟨0,[]⟩
def mixR (a b:List Wd) (i:Nat):List PV:=(a.take i++b.drop i).map eW
theorem mixR_len {a b:List Wd} (h:a.length=b.length) (i:Nat):(mixR a b i).length=b.length:=by simp [mixR];omega
theorem mixR_get {a b:List Wd} (h:a.length=b.length) {i:Nat} (hi:i<b.length):(mixR a b i)[i]?=some (eW b[i]):=by
 unfold mixR
 rw [List.getElem?_map,List.getElem?_append_right (by simp;omega),List.length_take,Nat.min_eq_left (by omega),Nat.sub_self,List.getElem?_drop,Nat.add_zero,List.getElem?_eq_getElem hi]
 rfl
theorem mixR_set {a b:List Wd} (h:a.length=b.length) {i:Nat} (hi:i<a.length):(mixR a b i).set i (eW a[i])=mixR a b (i+1):=by
 unfold mixR
 rw [← List.map_set,List.set_append_right _ _ (by simp;omega),List.length_take,Nat.min_eq_left (by omega),Nat.sub_self,List.take_succ_eq_append_getElem hi,List.append_assoc]
 congr 2
 rw [List.drop_eq_getElem_cons (show i<b.length by omega)]
 rfl
theorem mixR_zero (a b:List Wd):mixR a b 0=b.map eW:=by simp [mixR]
theorem mixR_all {a b:List Wd} (h:a.length=b.length):mixR a b b.length=a.map eW:=by
 unfold mixR
 rw [List.take_of_length_le (by omega),List.drop_of_length_le (Nat.le_refl _),List.append_nil]
theorem chW_get {f:Wd→Wd→Wd} {ws:List Wd} {e:Exn} {i:Nat} (h:i<(chW f ws e).length) (h2:i<ws.length):(chW f ws e)[i]=f ws[i] (maskW i e.start (e.start+e.count)):=by
 simp [chW]
theorem cal80 {es:List PV} (hl:es.length≤lim):cal env 80 [.list 1 es]=some [(.list 1 es,true)]:=(cal_ext env80).trans (if_pos ⟨rfl,hl⟩)
set_option maxRecDepth 20000 in
theorem loop122 {b:Bm} {e:Exn} {f:Wd→Wd→Wd} {gf:Nat} (hf:∀ x y,cal env gf [eW x,eW y]=some [(eW (f x y),false)]) (hm:b.ws.length≤64) (he:0≤e.start∧e.start≤4096∧0≤e.count∧e.count≤4096) {st:St} (h:st.head [3,4,5,6,9,25,27,28] st.boxes.length=some ⟨sl 55 [(3,.pbox 0 0),(4,.pbox 1 0),(5,.pbox 2 0),(6,.pbox 3 0),(9,.row 1 (mixR (chW f b.ws e) b.ws ((0:Nat)))),(25,.any),(27,.pv (.int .i64 b.ws.length)),(28,.pv (.int .i64 (0:Nat)))],[⟨false,[.pv (.func gf [])]⟩,⟨false,[.pv (.int .i64 b.size),.pv (.list 1 (b.ws.map eW))]⟩,⟨false,[.pv (.int .i64 e.start),.pv (.int .i64 e.count)]⟩,⟨false,[.pv (.int .i64 0),.row 1 []]⟩],[],none⟩) :
  den env fn122_l1 st=some (.normal,⟨sl 55 [(4,.pbox 1 0),(6,.pbox 3 0),(7,.any),(9,.row 1 ((chW f b.ws e).map eW))],[⟨false,[.pv (.func gf [])]⟩,⟨false,[.pv (.int .i64 b.size),.pv (.list 1 (b.ws.map eW))]⟩,⟨false,[.pv (.int .i64 e.start),.pv (.int .i64 e.count)]⟩,⟨false,[.pv (.int .i64 0),.row 1 []]⟩],[],none⟩):=by
 unfold fn122_l1
 refine clean_up (env:=env) (nb:=4) (b.ws.length) (fun i=>⟨sl 55 [(3,.pbox 0 0),(4,.pbox 1 0),(5,.pbox 2 0),(6,.pbox 3 0),(9,.row 1 (mixR (chW f b.ws e) b.ws (i))),(25,.any),(27,.pv (.int .i64 b.ws.length)),(28,.pv (.int .i64 i))],[⟨false,[.pv (.func gf [])]⟩,⟨false,[.pv (.int .i64 b.size),.pv (.list 1 (b.ws.map eW))]⟩,⟨false,[.pv (.int .i64 e.start),.pv (.int .i64 e.count)]⟩,⟨false,[.pv (.int .i64 0),.row 1 []]⟩],[],none⟩) (fun i=>some (.normal,⟨sl 55 [(4,.pbox 1 0),(6,.pbox 3 0),(7,.any),(9,.row 1 ((chW f b.ws e).map eW))],[⟨false,[.pv (.func gf [])]⟩,⟨false,[.pv (.int .i64 b.size),.pv (.list 1 (b.ws.map eW))]⟩,⟨false,[.pv (.int .i64 e.start),.pv (.int .i64 e.count)]⟩,⟨false,[.pv (.int .i64 0),.row 1 []]⟩],[],none⟩)) h (fun _=>rfl) (fun _=>by simp only [slAll,slsAll,Nat.reduceMul,Nat.reduceBEq,Nat.reduceLT,Nat.reduceLeDiff,Nat.reduceAdd,decide_true,Bool.and_self,Bool.true_and]) ?_ ?_
 ·intro i rb hi ih
  have hi1:=i64_next hi (by unfold lim;omega)
  have F1:((i:Int)<(b.ws.length:Int))=True:=eq_true (by omega)
  have hcl:=chW_len f b.ws e
  have f1:=mixR_len hcl i
  have f2:=mixR_get hcl hi
  have f3:=mixR_set hcl (i:=i) (by omega)
  have e1:=hf b.ws[i] (maskW i e.start (e.start+e.count))
  rw [chW_get (by omega) hi] at f3
  have W:IntKind.i64.wrap (e.start+e.count)=e.start+e.count:=i64_fits (by omega)
  have e2:=cal125 (k:=i) (a:=e.start) (b:=e.start+e.count) (by omega) (by omega) (by omega)
  unfold eW at e1 e2 f2 f3 ih ⊢
  simp only [fn122_b0,F1,W,e1,e2,f1,f2,f3,index_nat hi,Option.map_some,List.length_map,slAll,slsAll,Nat.reduceMul,Nat.reduceBEq,Nat.reduceLT,Nat.reduceLeDiff,memAll,vAll,reduceCtorEq,Nat.reduceEqDiff,Nat.reduceAdd,Nat.reduceLT,Nat.reduceLeDiff,Nat.beq]
  rw [ih _ (by simp only [hi1,slAll,slsAll,Nat.reduceMul,Nat.reduceBEq,Nat.reduceLT,Nat.reduceLeDiff,memAll,vAll,reduceCtorEq,Nat.reduceEqDiff,Nat.reduceAdd,Nat.reduceLT,Nat.reduceLeDiff,Nat.beq]<;>rfl)]
 ·intro rb
  rw [mixR_all (chW_len f b.ws e)]
  simp only [fn122_b0,Int.lt_irrefl,slAll,slsAll,Nat.reduceMul,Nat.reduceBEq,Nat.reduceLT,Nat.reduceLeDiff,memAll,vAll,reduceCtorEq,Nat.reduceEqDiff,Nat.reduceAdd,Nat.reduceLT,Nat.reduceLeDiff,Nat.beq]
theorem cal122 {b:Bm} {e:Exn} {f:Wd→Wd→Wd} {gf:Nat} (hf:∀ x y,cal env gf [eW x,eW y]=some [(eW (f x y),false)]) :
  cal env 122 [.agg [.func gf []],eBm b,eExt e]=some [(eBm (chO f b e),false),(.int .i64 (chE b e),false)]:=by
 have P:∀ b:Bm,part [PV.int .i64 b.size,.list 1 (b.ws.map eW)] 0 (some 2)=some (eBm b):=fun _=>rfl
 have e1:=cal91 (b:=b)
 have Z0:((0:Int) != 0)=false:=rfl
 have Z3:((3:Int) != 0)=true:=rfl
 have hz:=eBm_zero
 have eA:eBm b=.agg [.int .i64 b.size,.list 1 (b.ws.map eW)]:=rfl
 have eX:eExt e=.agg [.int .i64 e.start,.int .i64 e.count]:=rfl
 unfold chO
 cases c1:okB b with
 |false =>
  have hE:chE b e=3:=by unfold chE;rw [if_pos c1]
  rw [hE,if_neg (by decide),hz]
  rw [bmE_no c1] at e1
  rw [eA] at e1 ⊢;rw [eX]
  rw [cal_code env122 rfl];simp only [fn122,slAll,Nat.reduceBEq,Nat.reduceLeDiff,Nat.reduceAdd,List.length_cons,List.length_nil]
  simp only [e1,Z3,part_more,part_succ,part_one,slAll,slsAll,Nat.reduceMul,Nat.reduceBEq,Nat.reduceLT,Nat.reduceLeDiff,memAll,vAll,reduceCtorEq,Nat.reduceEqDiff,Nat.reduceAdd,Nat.reduceLT,Nat.reduceLeDiff,Nat.beq]
 |true =>
  rw [bmE_ok c1] at e1
  have hsz:=okB_size c1
  have e2:=cal131 (size:=b.size) (e:=e) ⟨hsz.1,hsz.2.1⟩
  cases c2:bmFit b.size e with
  |false =>
   have hE:chE b e=2:=by unfold chE;rw [if_neg (by rw [c1];decide),if_pos c2]
   rw [hE,if_neg (by decide),hz]
   rw [c2] at e2
   rw [eA] at e1 ⊢;rw [eX] at e2 ⊢
   rw [cal_code env122 rfl];simp only [fn122,slAll,Nat.reduceBEq,Nat.reduceLeDiff,Nat.reduceAdd,List.length_cons,List.length_nil]
   simp only [e1,e2,Z0,slAll,slsAll,Nat.reduceMul,Nat.reduceBEq,Nat.reduceLT,Nat.reduceLeDiff,memAll,vAll,reduceCtorEq,Nat.reduceEqDiff,Nat.reduceAdd,Nat.reduceLT,Nat.reduceLeDiff,Nat.beq]
  |true =>
   have hE:chE b e=0:=by unfold chE;rw [if_neg (by rw [c1];decide),if_neg (by rw [c2];decide)]
   rw [hE,if_pos rfl]
   rw [c2] at e2
   have hfi:=bmFit_iff.1 c2
   have k1:=cal80 (es:=b.ws.map eW) (by rw [List.length_map];unfold lim;omega)
   rw [eA] at e1 ⊢;rw [eX] at e2 ⊢
   rw [cal_code env122 rfl];simp only [fn122,slAll,Nat.reduceBEq,Nat.reduceLeDiff,Nat.reduceAdd,List.length_cons,List.length_nil]
   simp only [e1,e2,k1,Z0,List.length_map,slAll,slsAll,Nat.reduceMul,Nat.reduceBEq,Nat.reduceLT,Nat.reduceLeDiff,memAll,vAll,reduceCtorEq,Nat.reduceEqDiff,Nat.reduceAdd,Nat.reduceLT,Nat.reduceLeDiff,Nat.beq]
   have q1:b.ws.length≤64:=by omega
   have q2:0≤e.start∧e.start≤4096∧0≤e.count∧e.count≤4096:=by omega
   rw [loop122 hf q1 q2]
   rotate_left
   ·rw [mixR_zero]
    simp only [slAll,slsAll,Nat.reduceMul,Nat.reduceBEq,Nat.reduceLT,Nat.reduceLeDiff,Nat.reduceAdd,decide_true,Bool.and_self,Bool.true_and]<;>rfl
   ·simp only [e1,e2,k1,Z0,List.length_map,slAll,slsAll,Nat.reduceMul,Nat.reduceBEq,Nat.reduceLT,Nat.reduceLeDiff,memAll,vAll,reduceCtorEq,Nat.reduceEqDiff,Nat.reduceAdd,Nat.reduceLT,Nat.reduceLeDiff,Nat.beq]
    rfl
theorem cal121 (x y:Wd):cal env 121 [eW x,eW y]=some [(eW (x ||| y),false)]:=by
 have W:=w_or x y
 unfold eW
 rw [cal_code env121 rfl];simp only [fn121];simp only [start,z_map_cons,z_map_nil,z_len_cons,z_len_nil,z_repl_zero,z_repl_succ,z_cons_app,z_nil_app,Nat.reduceAdd,Nat.reduceSub]
 simp only [W,memAll,vAll,reduceCtorEq,Nat.reduceEqDiff,Nat.reduceAdd,Nat.reduceLT,Nat.reduceLeDiff,Nat.beq]
theorem cal108 {b:Bm} {e:Exn}:cal env 108 [eBm b,eExt e]=some [(eBm (chO orW b e),false),(.int .i64 (chE b e),false)]:=by
 have e1:=cal122 (b:=b) (e:=e) (f:=orW) (gf:=121) cal121
 have eA:∀ a:Bm,eBm a=.agg [.int .i64 a.size,.list 1 (a.ws.map eW)]:=fun _=>rfl
 have eX:eExt e=.agg [.int .i64 e.start,.int .i64 e.count]:=rfl
 rw [eA,eA,eX] at e1 ⊢
 rw [cal_code env108 rfl];simp only [fn108];simp only [start,z_map_cons,z_map_nil,z_len_cons,z_len_nil,z_repl_zero,z_repl_succ,z_cons_app,z_nil_app,Nat.reduceAdd,Nat.reduceSub]
 simp only [e1,memAll,vAll,reduceCtorEq,Nat.reduceEqDiff,Nat.reduceAdd,Nat.reduceLT,Nat.reduceLeDiff,Nat.beq]
end Go.Proofs.YtpcncggjmabnaaaGreatDoor.V

namespace Go.Proofs.YtpcncggjmabnaaaGreatDoor.V
def frB (b:Bm) (l:List Exn):Bm:=l.foldl (fun b e=>chO orW b e) b
def frE:Bm→List Exn→Int
 |_,[]=>0
 |b,e :: l=>if chE b e=0 then frE (chO orW b e) l else chE b e
end Go.Proofs.YtpcncggjmabnaaaGreatDoor.V

namespace Go.Proofs.YtpcncggjmabnaaaGreatDoor.V
theorem new_ok {n:Nat} (h:n≤4096):newE (n:Int)=0∧okB (newO (n:Int))=true∧(newO (n:Int)).size=(n:Int)∧∀ s,bit (newO (n:Int)).ws s=false:=by
 have e1:newE (n:Int)=0:=by unfold newE;rw [if_neg (by omega)]
 have e2:newO (n:Int)=⟨n,List.replicate (wdsN n).toNat 0⟩:=by unfold newO;rw [if_neg (by omega)]
 have hb:∀ s,bit (List.replicate (wdsN n).toNat (0:Wd)) s=false:=fun s=>by
  unfold bit
  rw [List.getD_eq_getElem?_getD,List.getElem?_replicate]
  split<;>simp
 rw [e2]
 refine ⟨e1,okB_iff.2 ⟨⟨by show (0:Int)≤(n:Int);omega,by show (n:Int)≤4096;omega,?_⟩,fun i _=>hb i⟩,rfl,hb⟩
 show ((List.replicate (wdsN n).toNat (0:Wd)).length:Int)=wdsN n
 rw [List.length_replicate]
 exact wds_nat (by omega)
theorem chW_set (ws:List Wd) (e:Exn):chW orW ws e=setW ws e.start (e.start+e.count):=rfl
theorem set_ok {b:Bm} {e:Exn} (h:okB b=true) (hf:bmFit b.size e=true):chE b e=0∧okB (chO orW b e)=true∧(chO orW b e).size=b.size∧∀ s:Nat,(s:Int)<b.size→bit (chO orW b e).ws s=(bit b.ws s || decide (e.start≤(s:Int)∧(s:Int)<e.start+e.count)):=by
 have hE:chE b e=0:=by unfold chE;rw [if_neg (by rw [h];decide),if_neg (by rw [hf];decide)]
 have hO:chO orW b e=⟨b.size,setW b.ws e.start (e.start+e.count)⟩:=by unfold chO;rw [if_pos hE,chW_set]
 have hs:=okB_size h
 have hf:=bmFit_iff.1 hf
 rw [hO]
 have hl:(setW b.ws e.start (e.start+e.count)).length=b.ws.length:=by simp [setW]
 refine ⟨hE,okB_iff.2 ⟨⟨hs.1,hs.2.1,?_⟩,fun i hi=>?_⟩,rfl,fun s hlt=>bit_set (by omega)⟩
 ·show ((setW b.ws e.start (e.start+e.count)).length:Int)=_
  rw [hl];exact (okB_iff.1 h).1.2.2
 ·have hi:b.size≤(i:Int):=hi
  by_cases c:i<64 * b.ws.length
  ·show bit (setW b.ws e.start (e.start+e.count)) i=false
   rw [bit_set c,(okB_iff.1 h).2 i hi,decide_eq_false (by omega)]
   rfl
  ·exact bit_out (by show 64 * (setW b.ws e.start (e.start+e.count)).length≤i;rw [hl];omega)
end Go.Proofs.YtpcncggjmabnaaaGreatDoor.V

namespace Go.Proofs.YtpcncggjmabnaaaGreatDoor.V
theorem take_snoc1 {α:Type} {l:List α} {i:Nat} (h:i<l.length):l.take (i+1)=l.take i++[l[i]]:=by rw [List.take_succ_eq_append_getElem h]
def okE (x:Exn):Prop:=(-9223372036854775808≤x.start∧x.start≤9223372036854775807)∧(-9223372036854775808≤x.count∧x.count≤9223372036854775807)
def okEs (l:List Exn):Prop:=∀ x∈l,okE x
def wFrom (e:Exn):Int:=max e.start 0
def wTo (e:Exn):Int:=if e.start<0∨e.count<4096 - e.start then min (e.start+e.count) 4096 else 4096
def wX (e:Exn):Int × Int × Bool:=if e.count≤0 then (0,0,false) else (wFrom e,wTo e,decide (wFrom e<wTo e))
def inE (e:Exn) (s:Nat):Bool:=decide (0<e.count)&&(decide (e.start≤(s:Int))&&decide ((s:Int)<e.start+e.count))
theorem wX_true {e:Exn} (h:(wX e).2.2=true):∃ n m:Nat,wX e=((n:Int),(m:Int),true)∧n<m∧m≤4096∧∀ s:Nat,s<4096→(inE e s=true ↔ n≤s∧s<m):=by
 unfold wX at h ⊢
 by_cases c:e.count≤0
 ·rw [if_pos c] at h;cases h
 ·rw [if_neg c] at h ⊢
  have h2:wFrom e<wTo e:=by simpa using h
  have h3:0≤wFrom e:=by unfold wFrom;omega
  have h4:wTo e≤4096:=by unfold wTo;split<;>omega
  refine ⟨(wFrom e).toNat,(wTo e).toNat,?_,by omega,by omega,fun s hs=>?_⟩
  ·rw [Int.toNat_of_nonneg h3,Int.toNat_of_nonneg (by omega),decide_eq_true h2]
  ·unfold inE
   simp only [Bool.and_eq_true,decide_eq_true_eq]
   have e1:(wFrom e).toNat≤s ↔ wFrom e≤(s:Int):=by omega
   have e2:s<(wTo e).toNat ↔ (s:Int)<wTo e:=by omega
   rw [e1,e2]
   unfold wFrom wTo
   split<;>omega
theorem wX_false {e:Exn} (h:(wX e).2.2=false) {s:Nat} (hs:s<4096):inE e s=false:=by
 unfold wX at h
 by_cases c:e.count≤0
 ·unfold inE
  rw [decide_eq_false (by omega),Bool.false_and]
 ·rw [if_neg c] at h
  have h2:¬ wFrom e<wTo e:=by simpa using h
  unfold inE
  cases hq:(decide (0<e.count)&&(decide (e.start≤(s:Int))&&decide ((s:Int)<e.start+e.count))) with
  |false=>rfl
  |true =>
   exfalso
   simp only [Bool.and_eq_true,decide_eq_true_eq] at hq
   apply h2
   unfold wFrom wTo
   split<;>omega
theorem cal135 {e:Exn} (ho:okE e):cal env 135 [eExt e]=some [(.int .i64 (wX e).1,false),(.int .i64 (wX e).2.1,false),(.bool (wX e).2.2,false)]:=by
 obtain ⟨⟨o1,o2⟩,o3,o4⟩:=ho
 unfold wX
 simp only [eExt]
 by_cases c:e.count≤0
 ·rw [if_pos c]
  rw [cal_code env135 rfl];simp only [fn135,slAll,Nat.reduceBEq,Nat.reduceLeDiff,Nat.reduceAdd,List.length_cons,List.length_nil]
  simp only [c,slAll,slsAll,Nat.reduceMul,Nat.reduceBEq,Nat.reduceLT,Nat.reduceLeDiff,memAll,vAll,reduceCtorEq,Nat.reduceEqDiff,Nat.reduceAdd,Nat.reduceLT,Nat.reduceLeDiff,Nat.beq]
 ·rw [if_neg c]
  unfold wFrom wTo
  have hmin:min (e.start+e.count) 4096=if 4096<e.start+e.count then 4096 else e.start+e.count:=by split<;>omega
  by_cases c1:e.start<0
  ·have hmax:max e.start 0=0:=by omega
   rw [hmin,hmax]
   have W1:IntKind.i64.wrap (e.start+e.count)=e.start+e.count:=i64_fits (by omega)
   rw [if_pos (.inl c1)]
   rw [cal_code env135 rfl];simp only [fn135,slAll,Nat.reduceBEq,Nat.reduceLeDiff,Nat.reduceAdd,List.length_cons,List.length_nil]
   simp only [c,c1,W1,slAll,slsAll,Nat.reduceMul,Nat.reduceBEq,Nat.reduceLT,Nat.reduceLeDiff,memAll,vAll,reduceCtorEq,Nat.reduceEqDiff,Nat.reduceAdd,Nat.reduceLT,Nat.reduceLeDiff,Nat.beq]
  ·have hmax:max e.start 0=e.start:=by omega
   rw [hmin,hmax]
   have W2:IntKind.i64.wrap (4096 - e.start)=4096 - e.start:=i64_fits (by omega)
   by_cases c2:e.count<4096 - e.start
   ·have W1:IntKind.i64.wrap (e.start+e.count)=e.start+e.count:=i64_fits (by omega)
    rw [if_pos (.inr c2)]
    rw [cal_code env135 rfl];simp only [fn135,slAll,Nat.reduceBEq,Nat.reduceLeDiff,Nat.reduceAdd,List.length_cons,List.length_nil]
    simp only [c,c1,c2,W1,W2,slAll,slsAll,Nat.reduceMul,Nat.reduceBEq,Nat.reduceLT,Nat.reduceLeDiff,memAll,vAll,reduceCtorEq,Nat.reduceEqDiff,Nat.reduceAdd,Nat.reduceLT,Nat.reduceLeDiff,Nat.beq]
   ·rw [if_neg (by omega)]
    rw [cal_code env135 rfl];simp only [fn135,slAll,Nat.reduceBEq,Nat.reduceLeDiff,Nat.reduceAdd,List.length_cons,List.length_nil]
    simp only [c,c1,c2,W2,slAll,slsAll,Nat.reduceMul,Nat.reduceBEq,Nat.reduceLT,Nat.reduceLeDiff,memAll,vAll,reduceCtorEq,Nat.reduceEqDiff,Nat.reduceAdd,Nat.reduceLT,Nat.reduceLeDiff,Nat.beq]
def rawOf (i:Nat) (l:List Exn):List End:=l.flatMap fun e=>if (wX e).2.2 then [⟨(wX e).1.toNat,i,1⟩,⟨(wX e).2.1.toNat,i,-1⟩] else []
theorem rawOf_snoc (i:Nat) (l:List Exn) (e:Exn):rawOf i (l++[e])=rawOf i l++(if (wX e).2.2 then [⟨(wX e).1.toNat,i,1⟩,⟨(wX e).2.1.toNat,i,-1⟩] else []):=by simp [rawOf]
theorem rawOf_len (i:Nat):∀ l:List Exn,(rawOf i l).length≤2 * l.length
 |[]=>Nat.le_refl _
 |e :: l=>by
  have:=rawOf_len i l
  have h:rawOf i (e :: l)=(if (wX e).2.2 then [⟨(wX e).1.toNat,i,1⟩,⟨(wX e).2.1.toNat,i,-1⟩] else [])++rawOf i l:=by simp [rawOf]
  rw [h,List.length_append,List.length_cons]
  split<;>simp<;>omega
def rawFrom:Nat→List (List Exn)→List End
 |_,[]=>[]
 |i,l :: ls=>rawOf i l++rawFrom (i+1) ls
theorem rawFrom_snoc:∀ (ls:List (List Exn)) (i:Nat) (l:List Exn),rawFrom i (ls++[l])=rawFrom i ls++rawOf (i+ls.length) l
 |[],i,l=>by simp [rawFrom]
 |m :: ls,i,l=>by
  simp only [List.cons_append,rawFrom,rawFrom_snoc ls (i+1) l,List.length_cons,List.append_assoc]
  rw [show i+1+ls.length=i+(ls.length+1) by omega]
theorem rawFrom_len {n:Nat}:∀ (ls:List (List Exn)) (i:Nat),(∀ l∈ls,l.length≤n)→(rawFrom i ls).length≤2 * n * ls.length
 |[],i,_=>Nat.zero_le _
 |l :: ls,i,h=>by
  have h1:=rawFrom_len ls (i+1) fun x hx=>h x (by simp [hx])
  have h2:=rawOf_len i l
  have h3:=h l (by simp)
  simp only [rawFrom,List.length_append,List.length_cons]
  rw [Nat.mul_add]
  omega
set_option maxRecDepth 20000 in
theorem loop134 {D:PV} {l:List Exn} {pre:List End} {v n:Nat} {q17:AV} (hq:q17=.pv (.list 2 (l.map eExt))) (ho:okEs l) (hl:l.length≤100000) (hpre:pre.length≤10000000) {st:St} (h:st.head [0,3,4,5,11,12,13,17,18,19,20,39] st.boxes.length=some ⟨sl 45 [(0,.pv D),(3,.row 3 ((pre++rawOf v (l.take ((0:Nat)))).map eEnd)),(4,.pv (.int .i64 v)),(5,.pv (.list 2 (l.map eExt))),(11,.pv D),(12,.pv (.int .i64 n)),(13,.pv (.int .i64 v)),(17,.pv (.list 2 (l.map eExt))),(18,.pv (.list 2 (l.map eExt))),(19,.pv (.int .i64 l.length)),(20,.pv (.int .i64 (0:Nat))),(39,.any)],[],[],none⟩) :
  den env fn134_l1 st=some (.normal,⟨sl 45 [(0,.pv D),(2,.any),(3,.row 3 ((pre++rawOf v l).map eEnd)),(11,.pv D),(12,.pv (.int .i64 n)),(13,.pv (.int .i64 v)),(39,.any)],[],[],none⟩):=by
 unfold fn134_l1
 refine clean_up (env:=env) (l.length) (fun i=>⟨sl 45 [(0,.pv D),(3,.row 3 ((pre++rawOf v (l.take (i))).map eEnd)),(4,.pv (.int .i64 v)),(5,.pv (.list 2 (l.map eExt))),(11,.pv D),(12,.pv (.int .i64 n)),(13,.pv (.int .i64 v)),(17,.pv (.list 2 (l.map eExt))),(18,.pv (.list 2 (l.map eExt))),(19,.pv (.int .i64 l.length)),(20,.pv (.int .i64 i)),(39,.any)],[],[],none⟩) (fun i=>some (.normal,⟨sl 45 [(0,.pv D),(2,.any),(3,.row 3 ((pre++rawOf v l).map eEnd)),(11,.pv D),(12,.pv (.int .i64 n)),(13,.pv (.int .i64 v)),(39,.any)],[],[],none⟩)) h (fun _=>rfl) (fun _=>by simp only [slAll,slsAll,Nat.reduceMul,Nat.reduceBEq,Nat.reduceLT,Nat.reduceLeDiff,Nat.reduceAdd,decide_true,Bool.and_self,Bool.true_and]) ?_ ?_
 ·intro i rb hi ih
  have hlim:lim=1073741824:=rfl
  have hi1:=i64_next hi (by omega)
  have F1:((i:Int)<(l.length:Int))=True:=eq_true (by omega)
  have hx:l[i]?=some l[i]:=List.getElem?_eq_getElem hi
  have ht:=take_snoc1 hi
  have hox:=ho _ (List.getElem_mem hi)
  generalize l[i]=x at *
  have e1:=cal135 hox
  have hrl:=rawOf_len v (l.take i)
  rw [List.length_take] at hrl
  have P2:part [PV.int .i64 x.start,.int .i64 x.count] 0 (some 2)=some (.agg [.int .i64 x.start,.int .i64 x.count]):=rfl
  simp only [eExt] at e1
  cases hw:(wX x).2.2 with
  |false =>
   rw [hw] at e1
   have hs:rawOf v (l.take (i+1))=rawOf v (l.take i):=by rw [ht,rawOf_snoc,hw];simp
   simp only [fn134_b0,F1,hx,e1,eExt,P2,index_nat hi,List.getElem?_map,Option.map_some,List.length_map,List.length_cons,List.length_nil,slAll,slsAll,Nat.reduceMul,Nat.reduceBEq,Nat.reduceLT,Nat.reduceLeDiff,memAll,vAll,reduceCtorEq,Nat.reduceEqDiff,Nat.reduceAdd,Nat.reduceLT,Nat.reduceLeDiff,Nat.beq]
   rw [ih _ (by simp only [hi1,hs,slAll,slsAll,Nat.reduceMul,Nat.reduceBEq,Nat.reduceLT,Nat.reduceLeDiff,memAll,vAll,reduceCtorEq,Nat.reduceEqDiff,Nat.reduceAdd,Nat.reduceLT,Nat.reduceLeDiff,Nat.beq]<;>rfl)]
  |true =>
   obtain ⟨a,b,hab,-,-,-⟩:=wX_true hw
   have hs:rawOf v (l.take (i+1))=rawOf v (l.take i)++[⟨a,v,1⟩,⟨b,v,-1⟩]:=by rw [ht,rawOf_snoc,hab];simp
   rw [hab] at e1
   have F2:((pre++rawOf v (l.take i)).length+1+1≤lim)=True:=eq_true (by rw [List.length_append];omega)
   have F3:((pre++rawOf v (l.take i)).length+2≤lim)=True:=eq_true (by rw [List.length_append];omega)
   simp only [fn134_b0,F1,F2,F3,hx,e1,eExt,P2,index_nat hi,List.getElem?_map,Option.map_some,List.length_map,List.length_cons,List.length_nil,slAll,slsAll,Nat.reduceMul,Nat.reduceBEq,Nat.reduceLT,Nat.reduceLeDiff,memAll,vAll,reduceCtorEq,Nat.reduceEqDiff,Nat.reduceAdd,Nat.reduceLT,Nat.reduceLeDiff,Nat.beq]
   rw [ih _ (by simp only [hi1,hs,← List.append_assoc,List.map_append,List.map_cons,List.map_nil,eEnd,slAll,slsAll,Nat.reduceMul,Nat.reduceBEq,Nat.reduceLT,Nat.reduceLeDiff,memAll,vAll,reduceCtorEq,Nat.reduceEqDiff,Nat.reduceAdd,Nat.reduceLT,Nat.reduceLeDiff,Nat.beq]<;>rfl)]
 ·intro rb
  simp only [fn134_b0,Int.lt_irrefl,List.length_map,List.take_length,slAll,slsAll,Nat.reduceMul,Nat.reduceBEq,Nat.reduceLT,Nat.reduceLeDiff,memAll,vAll,reduceCtorEq,Nat.reduceEqDiff,Nat.reduceAdd,Nat.reduceLT,Nat.reduceLeDiff,Nat.beq]
set_option maxRecDepth 20000 in
theorem loop134l3 {ls:List (List Exn)} (ho:∀ l∈ls,okEs l) (hr:∀ l∈ls,l.length≤100000) (hl:ls.length≤10) {st:St} (h:st.head [0,3,11,12,13,39] st.boxes.length=some ⟨sl 45 [(0,.pv (.list 1 (ls.map eExts))),(3,.row 3 ((rawFrom 0 (ls.take ((0:Nat)))).map eEnd)),(11,.pv (.list 1 (ls.map eExts))),(12,.pv (.int .i64 ls.length)),(13,.pv (.int .i64 (0:Nat))),(39,.any)],[],[],none⟩) :
  den env fn134_l3 st=some (.normal,⟨sl 45 [(2,.any),(3,.row 3 ((rawFrom 0 ls).map eEnd))],[],[],none⟩):=by
 unfold fn134_l3
 refine clean_up (env:=env) (ls.length) (fun i=>⟨sl 45 [(0,.pv (.list 1 (ls.map eExts))),(3,.row 3 ((rawFrom 0 (ls.take (i))).map eEnd)),(11,.pv (.list 1 (ls.map eExts))),(12,.pv (.int .i64 ls.length)),(13,.pv (.int .i64 i)),(39,.any)],[],[],none⟩) (fun i=>some (.normal,⟨sl 45 [(2,.any),(3,.row 3 ((rawFrom 0 ls).map eEnd))],[],[],none⟩)) h (fun _=>rfl) (fun _=>by simp only [slAll,slsAll,Nat.reduceMul,Nat.reduceBEq,Nat.reduceLT,Nat.reduceLeDiff,Nat.reduceAdd,decide_true,Bool.and_self,Bool.true_and]) ?_ ?_
 ·intro i rb hi ih
  have hlim:lim=1073741824:=rfl
  have hi1:=i64_next hi (by omega)
  have F1:((i:Int)<(ls.length:Int))=True:=eq_true (by omega)
  have hx:ls[i]?=some ls[i]:=List.getElem?_eq_getElem hi
  have ht:=take_snoc1 hi
  have hox:=ho _ (List.getElem_mem hi)
  have hrx:=hr _ (List.getElem_mem hi)
  have hli:(ls.take i).length=i:=by rw [List.length_take];omega
  have hp:=rawFrom_len (n:=100000) (ls.take i) 0 fun l hl=>hr l (List.mem_of_mem_take hl)
  rw [hli] at hp
  generalize ls[i]=l at *
  have hs:rawFrom 0 (ls.take (i+1))=rawFrom 0 (ls.take i)++rawOf i l:=by rw [ht,rawFrom_snoc,hli,Nat.zero_add]
  have hr0:rawOf i ([]:List Exn)=[]:=rfl
  simp only [fn134_b2,F1,hx,eExts,index_nat hi,List.getElem?_map,Option.map_some,List.length_map,slAll,slsAll,Nat.reduceMul,Nat.reduceBEq,Nat.reduceLT,Nat.reduceLeDiff,memAll,vAll,reduceCtorEq,Nat.reduceEqDiff,Nat.reduceAdd,Nat.reduceLT,Nat.reduceLeDiff,Nat.beq]
  rw [loop134 (l:=l) (pre:=rawFrom 0 (ls.take i)) (v:=i) (q17:=.pv (.list 2 (l.map eExt))) rfl hox hrx (by omega)]
  rotate_left
  ·simp only [z_take_zero,hr0,List.append_nil,eExts,slAll,slsAll,Nat.reduceMul,Nat.reduceBEq,Nat.reduceLT,Nat.reduceLeDiff,memAll,vAll,reduceCtorEq,Nat.reduceEqDiff,Nat.reduceAdd,Nat.reduceLT,Nat.reduceLeDiff,Nat.beq]<;>rfl
  simp only [slAll,slsAll,Nat.reduceMul,Nat.reduceBEq,Nat.reduceLT,Nat.reduceLeDiff,memAll,vAll,reduceCtorEq,Nat.reduceEqDiff,Nat.reduceAdd,Nat.reduceLT,Nat.reduceLeDiff,Nat.beq]
  rw [ih _ (by simp only [hi1,hs,eExts,slAll,slsAll,Nat.reduceMul,Nat.reduceBEq,Nat.reduceLT,Nat.reduceLeDiff,memAll,vAll,reduceCtorEq,Nat.reduceEqDiff,Nat.reduceAdd,Nat.reduceLT,Nat.reduceLeDiff,Nat.beq]<;>rfl)]
 ·intro rb
  simp only [fn134_b2,Int.lt_irrefl,List.length_map,List.take_length,slAll,slsAll,Nat.reduceMul,Nat.reduceBEq,Nat.reduceLT,Nat.reduceLeDiff,memAll,vAll,reduceCtorEq,Nat.reduceEqDiff,Nat.reduceAdd,Nat.reduceLT,Nat.reduceLeDiff,Nat.beq]
def endsOf (ls:List (List Exn)):List End:=sortE (rawFrom 0 ls)
theorem cal134 {ls:List (List Exn)} (ho:∀ l∈ls,okEs l) (hr:∀ l∈ls,l.length≤10000) (hl:ls.length≤2) (hsl:(endsOf ls).length=(rawFrom 0 ls).length):cal env 134 [.list 1 (ls.map eExts)]=some [(.list 3 ((endsOf ls).map eEnd),true)]:=by
 have hp:=rawFrom_len (n:=10000) ls 0 hr
 have hp2:(rawFrom 0 ls).length≤1000000:=by
  have:2 * 10000 * ls.length≤2 * 10000 * 2:=Nat.mul_le_mul_left _ hl
  omega
 have h1:=sortEndsX_enc (g:=137) (l:=rawFrom 0 ls) hp2
 have h2:((sortE (rawFrom 0 ls)).map eEnd).length=((rawFrom 0 ls).map eEnd).length:=by
  rw [List.length_map,List.length_map];exact hsl
 unfold endsOf
 have hcond:(0=0∧(rawFrom 0 ls).length=((rawFrom 0 ls).map eEnd).length∧((sortE (rawFrom 0 ls)).map eEnd).length=((rawFrom 0 ls).map eEnd).length)=True:=eq_true ⟨rfl,by simp,h2⟩
 rw [cal_code env134 rfl];simp only [fn134,slAll,Nat.reduceBEq,Nat.reduceLeDiff,Nat.reduceAdd,List.length_cons,List.length_nil]
 simp only [List.length_map,env136,h1,hsl,slAll,slsAll,Nat.reduceMul,Nat.reduceBEq,Nat.reduceLT,Nat.reduceLeDiff,memAll,vAll,reduceCtorEq,Nat.reduceEqDiff,Nat.reduceAdd,Nat.reduceLT,Nat.reduceLeDiff,Nat.beq]
 rw [loop134l3 ho (fun l h=>by have:=hr l h;omega) (by omega) (by simp only [z_take_zero,rawFrom,List.map_nil,slAll,slsAll,Nat.reduceMul,Nat.reduceBEq,Nat.reduceLT,Nat.reduceLeDiff,memAll,vAll,reduceCtorEq,Nat.reduceEqDiff,Nat.reduceAdd,Nat.reduceLT,Nat.reduceLeDiff,Nat.beq]<;>rfl)]
 simp only [h2,List.length_map,env136,h1,hsl,slAll,slsAll,Nat.reduceMul,Nat.reduceBEq,Nat.reduceLT,Nat.reduceLeDiff,memAll,vAll,reduceCtorEq,Nat.reduceEqDiff,Nat.reduceAdd,Nat.reduceLT,Nat.reduceLeDiff,Nat.beq]
 rw [← hsl]
 unfold endsOf
 rw [take_map_all]
end Go.Proofs.YtpcncggjmabnaaaGreatDoor.V

namespace Go.Proofs
open Go.Shelf
def Tryz.sortEnd_ren:Go.Shelf.Ren:=⟨fun|6=>136|15=>140|14=>139|28=>150|29=>151|20=>142|21=>143|22=>144|23=>145|24=>146|25=>147|26=>148|27=>149|46=>152|47=>153|48=>154|49=>155|50=>156|57=>157|n=>n,fun|22=>188|24=>192|25=>198|3=>3|39=>176|0=>0|53=>209|55=>134|4=>4|46=>203|45=>202|50=>119|5=>5|9=>9|66=>210|70=>214|76=>216|77=>217|n=>n,fun|n=>n⟩
theorem Tryz.sortEnd:Go.Proofs.SlLaysF0.n6 Tryz.prog Tryz.sortEnd_ren:={
 mixed:=by kernel_rfl
 f6:=⟨Tryz.f136.name,by decide,Tryz.func136.trans (congrArg some (by kernel_rfl))⟩
 f14:=⟨Tryz.f139.name,by decide,Tryz.func139.trans (congrArg some (by kernel_rfl))⟩
 f15:=Tryz.func140.trans (congrArg some (by kernel_rfl))
 f20:=⟨Tryz.f142.name,by decide,Tryz.func142.trans (congrArg some (by kernel_rfl))⟩
 f21:=⟨Tryz.f143.name,by decide,Tryz.func143.trans (congrArg some (by kernel_rfl))⟩
 f22:=⟨Tryz.f144.name,by decide,Tryz.func144.trans (congrArg some (by kernel_rfl))⟩
 f23:=⟨Tryz.f145.name,by decide,Tryz.func145.trans (congrArg some (by kernel_rfl))⟩
 f24:=⟨Tryz.f146.name,by decide,Tryz.func146.trans (congrArg some (by kernel_rfl))⟩
 f25:=⟨Tryz.f147.name,by decide,Tryz.func147.trans (congrArg some (by kernel_rfl))⟩
 f26:=⟨Tryz.f148.name,by decide,Tryz.func148.trans (congrArg some (by kernel_rfl))⟩
 f27:=⟨Tryz.f149.name,by decide,Tryz.func149.trans (congrArg some (by kernel_rfl))⟩
 f28:=Tryz.func150.trans (congrArg some (by kernel_rfl))
 f29:=Tryz.func151.trans (congrArg some (by kernel_rfl))
 f46:=⟨Tryz.f152.name,by decide,Tryz.func152.trans (congrArg some (by kernel_rfl))⟩
 f47:=Tryz.func153.trans (congrArg some (by kernel_rfl))
 f48:=Tryz.func154.trans (congrArg some (by kernel_rfl))
 f49:=⟨Tryz.f155.name,by decide,Tryz.func155.trans (congrArg some (by kernel_rfl))⟩
 f50:=⟨Tryz.f156.name,by decide,Tryz.func156.trans (congrArg some (by kernel_rfl))⟩
 f57:=⟨Tryz.f157.name,by decide,Tryz.func157.trans (congrArg some (by kernel_rfl))⟩
 t0:=Tryz.underlying0
 a0:=Tryz.isAgg0
 z0:=Tryz.sizeOf0
 v0:=Tryz.zeroValue0
 t3:=Tryz.underlying3
 a3:=Tryz.isAgg3
 z3:=Tryz.sizeOf3
 v3:=Tryz.zeroValue3
 t4:=Tryz.underlying4
 a4:=Tryz.isAgg4
 z4:=Tryz.sizeOf4
 v4:=Tryz.zeroValue4
 t5:=Tryz.underlying5
 a5:=Tryz.isAgg5
 z5:=Tryz.sizeOf5
 v5:=Tryz.zeroValue5
 t9:=Tryz.underlying9
 a9:=Tryz.isAgg9
 z9:=Tryz.sizeOf9
 v9:=Tryz.zeroValue9
 t22:=Tryz.underlying188
 a22:=Tryz.isAgg188
 z22:=Tryz.sizeOf188
 v22:=Tryz.zeroValue188
 t25:=Tryz.underlying198
 a25:=Tryz.isAgg198
 z25:=Tryz.sizeOf198
 v25:=Tryz.zeroValue198
 t39:=Tryz.underlying176
 a39:=Tryz.isAgg176
 z39:=Tryz.sizeOf176
 v39:=Tryz.zeroValue176
 t45:=Tryz.underlying202
 a45:=Tryz.isAgg202
 z45:=Tryz.sizeOf202
 v45:=Tryz.zeroValue202
 t46:=Tryz.underlying203
 a46:=Tryz.isAgg203
 z46:=Tryz.sizeOf203
 v46:=Tryz.zeroValue203
 t50:=Tryz.underlying119
 a50:=Tryz.isAgg119
 z50:=Tryz.sizeOf119
 v50:=Tryz.zeroValue119
 t53:=Tryz.underlying209
 a53:=Tryz.isAgg209
 z53:=Tryz.sizeOf209
 v53:=Tryz.zeroValue209
 t55:=Tryz.underlying134
 a55:=Tryz.isAgg134
 z55:=Tryz.sizeOf134
 v55:=Tryz.zeroValue134
 t66:=Tryz.underlying210
 a66:=Tryz.isAgg210
 z66:=Tryz.sizeOf210
 v66:=Tryz.zeroValue210
 t70:=Tryz.underlying214
 a70:=Tryz.isAgg214
 z70:=Tryz.sizeOf214
 v70:=Tryz.zeroValue214
 t76:=Tryz.underlying216
 a76:=Tryz.isAgg216
 z76:=Tryz.sizeOf216
 v76:=Tryz.zeroValue216
 t77:=Tryz.underlying217
 a77:=Tryz.isAgg217
 z77:=Tryz.sizeOf217
 v77:=Tryz.zeroValue217 }
def Tryz.cmpInt_ren:Go.Shelf.Ren:=⟨fun|5=>138|7=>141|n=>n,fun|22=>3|3=>3|4=>4|n=>n,fun|n=>n⟩
theorem Tryz.cmpInt:Go.Proofs.SlLaysC2.n5 Tryz.prog Tryz.cmpInt_ren:={
 mixed:=by kernel_rfl
 f5:=⟨Tryz.f138.name,by decide,Tryz.func138.trans (congrArg some (by kernel_rfl))⟩
 f7:=⟨Tryz.f141.name,by decide,Tryz.func141.trans (congrArg some (by kernel_rfl))⟩
 t3:=Tryz.underlying3
 a3:=Tryz.isAgg3
 z3:=Tryz.sizeOf3
 v3:=Tryz.zeroValue3
 t4:=Tryz.underlying4
 a4:=Tryz.isAgg4
 z4:=Tryz.sizeOf4
 v4:=Tryz.zeroValue4
 t22:=Tryz.underlying3
 a22:=Tryz.isAgg3
 z22:=Tryz.sizeOf3
 v22:=Tryz.zeroValue3 }
end Go.Proofs
