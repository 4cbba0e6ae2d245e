/-
  Part 6 of the texts that the statement stands on.
-/
import Derived.Test.YtpcncggjmabnaaaGreatDoorZ5
import Derived.Test.YtpcncggjmabnaaaGreatDoorProg
import Derived.Shelf.SlSortCmp.WholeK
import Derived.Shelf.SlSortCmp.NoneTotal
import Derived.Shelf.SlicesG.Cmp
import Derived.Shelf.Small.Bits
import Derived.Ground.SlsfProg
import Derived.Ground.SlgcProg
import Derived.Ground.NamesProg
set_option linter.all false
namespace Go.Proofs.YtpcncggjmabnaaaGreatDoor.V
theorem aw0:cal env 11 [(.list 1 [(.int .i64 4)]),(.int .i64 2)]=some [((.agg [(.int .i64 2),(.list 1 [(.int .i64 4)]),(.list 5 []),(.bool false),(.int .i64 0),(.int .i64 0),(.list 2 [])]),false),((.int .i64 0),false)]:=cal_of_vmCall (n:=400) (by kernel_rfl)
theorem aw1:cal env 36 [(.int .i64 0),(.int .i64 1),(.int .i64 0),(.int .u8 1)]=some [((.agg [(.int .i64 0),(.int .i64 1),(.int .i64 0),(.list 1 []),(.list 3 [(.agg [(.int .i64 0),(.int .i64 0),(.list 8 [(.agg [(.int .u8 1),(.int .u8 0),(.int .u8 0),(.int .u8 0),(.int .u8 0),(.int .u8 0),(.int .u8 0),(.int .u8 0)])])])])]),false)]:=cal_of_vmCall (n:=400) (by kernel_rfl)
theorem aw2:cal env 16 [(.agg [(.int .i64 2),(.list 1 [(.int .i64 4)]),(.list 5 []),(.bool false),(.int .i64 0),(.int .i64 0),(.list 2 [])]),(.agg [(.int .i64 0),(.int .i64 1),(.int .i64 0),(.list 1 []),(.list 3 [(.agg [(.int .i64 0),(.int .i64 0),(.list 8 [(.agg [(.int .u8 1),(.int .u8 0),(.int .u8 0),(.int .u8 0),(.int .u8 0),(.int .u8 0),(.int .u8 0),(.int .u8 0)])])])])])]=some [((.agg [(.int .i64 2),(.list 1 [(.int .i64 4)]),(.list 5 [(.agg [(.int .i64 0),(.int .i64 1),(.int .i64 0),(.list 1 []),(.list 3 [(.agg [(.int .i64 0),(.int .i64 0),(.list 8 [(.agg [(.int .u8 1),(.int .u8 0),(.int .u8 0),(.int .u8 0),(.int .u8 0),(.int .u8 0),(.int .u8 0),(.int .u8 0)])])])])])]),(.bool false),(.int .i64 0),(.int .i64 1),(.list 2 [])]),false),((.int .i64 0),false)]:=cal_of_vmCall (n:=400) (by kernel_rfl)
theorem aw3:cal env 36 [(.int .i64 1),(.int .i64 2),(.int .i64 1),(.int .u8 2)]=some [((.agg [(.int .i64 1),(.int .i64 2),(.int .i64 0),(.list 1 []),(.list 3 [(.agg [(.int .i64 0),(.int .i64 1),(.list 8 [(.agg [(.int .u8 2),(.int .u8 0),(.int .u8 0),(.int .u8 0),(.int .u8 0),(.int .u8 0),(.int .u8 0),(.int .u8 0)])])])])]),false)]:=cal_of_vmCall (n:=400) (by kernel_rfl)
theorem aw4:cal env 16 [(.agg [(.int .i64 2),(.list 1 [(.int .i64 4)]),(.list 5 [(.agg [(.int .i64 0),(.int .i64 1),(.int .i64 0),(.list 1 []),(.list 3 [(.agg [(.int .i64 0),(.int .i64 0),(.list 8 [(.agg [(.int .u8 1),(.int .u8 0),(.int .u8 0),(.int .u8 0),(.int .u8 0),(.int .u8 0),(.int .u8 0),(.int .u8 0)])])])])])]),(.bool false),(.int .i64 0),(.int .i64 1),(.list 2 [])]),(.agg [(.int .i64 1),(.int .i64 2),(.int .i64 0),(.list 1 []),(.list 3 [(.agg [(.int .i64 0),(.int .i64 1),(.list 8 [(.agg [(.int .u8 2),(.int .u8 0),(.int .u8 0),(.int .u8 0),(.int .u8 0),(.int .u8 0),(.int .u8 0),(.int .u8 0)])])])])])]=some [((.agg [(.int .i64 2),(.list 1 [(.int .i64 4)]),(.list 5 [(.agg [(.int .i64 0),(.int .i64 1),(.int .i64 0),(.list 1 []),(.list 3 [(.agg [(.int .i64 0),(.int .i64 0),(.list 8 [(.agg [(.int .u8 1),(.int .u8 0),(.int .u8 0),(.int .u8 0),(.int .u8 0),(.int .u8 0),(.int .u8 0),(.int .u8 0)])])])])]),(.agg [(.int .i64 1),(.int .i64 2),(.int .i64 0),(.list 1 []),(.list 3 [(.agg [(.int .i64 0),(.int .i64 1),(.list 8 [(.agg [(.int .u8 2),(.int .u8 0),(.int .u8 0),(.int .u8 0),(.int .u8 0),(.int .u8 0),(.int .u8 0),(.int .u8 0)])])])])])]),(.bool false),(.int .i64 0),(.int .i64 2),(.list 2 [])]),false),((.int .i64 0),false)]:=cal_of_vmCall (n:=400) (by kernel_rfl)
theorem aw5:cal env 36 [(.int .i64 2),(.int .i64 3),(.int .i64 3),(.int .u8 9)]=some [((.agg [(.int .i64 2),(.int .i64 3),(.int .i64 0),(.list 1 []),(.list 3 [(.agg [(.int .i64 0),(.int .i64 3),(.list 8 [(.agg [(.int .u8 9),(.int .u8 0),(.int .u8 0),(.int .u8 0),(.int .u8 0),(.int .u8 0),(.int .u8 0),(.int .u8 0)])])])])]),false)]:=cal_of_vmCall (n:=400) (by kernel_rfl)
theorem aw6:cal env 16 [(.agg [(.int .i64 2),(.list 1 [(.int .i64 4)]),(.list 5 [(.agg [(.int .i64 0),(.int .i64 1),(.int .i64 0),(.list 1 []),(.list 3 [(.agg [(.int .i64 0),(.int .i64 0),(.list 8 [(.agg [(.int .u8 1),(.int .u8 0),(.int .u8 0),(.int .u8 0),(.int .u8 0),(.int .u8 0),(.int .u8 0),(.int .u8 0)])])])])]),(.agg [(.int .i64 1),(.int .i64 2),(.int .i64 0),(.list 1 []),(.list 3 [(.agg [(.int .i64 0),(.int .i64 1),(.list 8 [(.agg [(.int .u8 2),(.int .u8 0),(.int .u8 0),(.int .u8 0),(.int .u8 0),(.int .u8 0),(.int .u8 0),(.int .u8 0)])])])])])]),(.bool false),(.int .i64 0),(.int .i64 2),(.list 2 [])]),(.agg [(.int .i64 2),(.int .i64 3),(.int .i64 0),(.list 1 []),(.list 3 [(.agg [(.int .i64 0),(.int .i64 3),(.list 8 [(.agg [(.int .u8 9),(.int .u8 0),(.int .u8 0),(.int .u8 0),(.int .u8 0),(.int .u8 0),(.int .u8 0),(.int .u8 0)])])])])])]=some [((.agg [(.int .i64 2),(.list 1 [(.int .i64 4)]),(.list 5 []),(.bool true),(.int .i64 0),(.int .i64 3),(.list 2 [(.agg [(.int .i64 4),(.list 1 [(.int .u64 11)])])])]),false),((.int .i64 0),false)]:=cal_of_vmCall (n:=400) (by kernel_rfl)
theorem aw7:cal env 26 [(.agg [(.int .i64 2),(.list 1 [(.int .i64 4)]),(.list 5 []),(.bool true),(.int .i64 0),(.int .i64 3),(.list 2 [(.agg [(.int .i64 4),(.list 1 [(.int .u64 11)])])])]),(.list 1 [(.list 8 [(.agg [(.int .u8 1),(.int .u8 0),(.int .u8 0),(.int .u8 0),(.int .u8 0),(.int .u8 0),(.int .u8 0),(.int .u8 0)]),(.agg [(.int .u8 2),(.int .u8 0),(.int .u8 0),(.int .u8 0),(.int .u8 0),(.int .u8 0),(.int .u8 0),(.int .u8 0)]),(.agg [(.int .u8 0),(.int .u8 0),(.int .u8 0),(.int .u8 0),(.int .u8 0),(.int .u8 0),(.int .u8 0),(.int .u8 0)]),(.agg [(.int .u8 9),(.int .u8 0),(.int .u8 0),(.int .u8 0),(.int .u8 0),(.int .u8 0),(.int .u8 0),(.int .u8 0)])])]),(.int .i64 5)]=some [((.agg [(.int .i64 2),(.list 1 [(.int .i64 4)]),(.list 5 [(.agg [(.int .i64 0),(.int .i64 3),(.int .i64 5),(.list 1 []),(.list 3 [(.agg [(.int .i64 0),(.int .i64 0),(.list 8 [(.agg [(.int .u8 1),(.int .u8 0),(.int .u8 0),(.int .u8 0),(.int .u8 0),(.int .u8 0),(.int .u8 0),(.int .u8 0)]),(.agg [(.int .u8 2),(.int .u8 0),(.int .u8 0),(.int .u8 0),(.int .u8 0),(.int .u8 0),(.int .u8 0),(.int .u8 0)])])]),(.agg [(.int .i64 0),(.int .i64 3),(.list 8 [(.agg [(.int .u8 9),(.int .u8 0),(.int .u8 0),(.int .u8 0),(.int .u8 0),(.int .u8 0),(.int .u8 0),(.int .u8 0)])])])])])]),(.bool false),(.int .i64 0),(.int .i64 3),(.list 2 [])]),false),((.agg [(.int .i64 0),(.int .i64 3),(.int .i64 5),(.list 1 []),(.list 3 [(.agg [(.int .i64 0),(.int .i64 0),(.list 8 [(.agg [(.int .u8 1),(.int .u8 0),(.int .u8 0),(.int .u8 0),(.int .u8 0),(.int .u8 0),(.int .u8 0),(.int .u8 0)]),(.agg [(.int .u8 2),(.int .u8 0),(.int .u8 0),(.int .u8 0),(.int .u8 0),(.int .u8 0),(.int .u8 0),(.int .u8 0)])])]),(.agg [(.int .i64 0),(.int .i64 3),(.list 8 [(.agg [(.int .u8 9),(.int .u8 0),(.int .u8 0),(.int .u8 0),(.int .u8 0),(.int .u8 0),(.int .u8 0),(.int .u8 0)])])])])]),false),((.int .i64 0),false)]:=cal_of_vmCall (n:=400) (by kernel_rfl)
theorem aw8:cal env 23 [(.agg [(.int .i64 2),(.list 1 [(.int .i64 4)]),(.list 5 [(.agg [(.int .i64 0),(.int .i64 1),(.int .i64 0),(.list 1 []),(.list 3 [(.agg [(.int .i64 0),(.int .i64 0),(.list 8 [(.agg [(.int .u8 1),(.int .u8 0),(.int .u8 0),(.int .u8 0),(.int .u8 0),(.int .u8 0),(.int .u8 0),(.int .u8 0)])])])])]),(.agg [(.int .i64 1),(.int .i64 2),(.int .i64 0),(.list 1 []),(.list 3 [(.agg [(.int .i64 0),(.int .i64 1),(.list 8 [(.agg [(.int .u8 2),(.int .u8 0),(.int .u8 0),(.int .u8 0),(.int .u8 0),(.int .u8 0),(.int .u8 0),(.int .u8 0)])])])])])]),(.bool false),(.int .i64 0),(.int .i64 2),(.list 2 [])]),(.int .i64 1)]=some [((.agg [(.int .i64 2),(.list 1 [(.int .i64 4)]),(.list 5 [(.agg [(.int .i64 1),(.int .i64 2),(.int .i64 0),(.list 1 []),(.list 3 [(.agg [(.int .i64 0),(.int .i64 1),(.list 8 [(.agg [(.int .u8 2),(.int .u8 0),(.int .u8 0),(.int .u8 0),(.int .u8 0),(.int .u8 0),(.int .u8 0),(.int .u8 0)])])])])])]),(.bool false),(.int .i64 1),(.int .i64 2),(.list 2 [])]),false),((.int .i64 0),false)]:=cal_of_vmCall (n:=400) (by kernel_rfl)
theorem aw9:cal env 16 [(.agg [(.int .i64 2),(.list 1 [(.int .i64 4)]),(.list 5 [(.agg [(.int .i64 1),(.int .i64 2),(.int .i64 0),(.list 1 []),(.list 3 [(.agg [(.int .i64 0),(.int .i64 1),(.list 8 [(.agg [(.int .u8 2),(.int .u8 0),(.int .u8 0),(.int .u8 0),(.int .u8 0),(.int .u8 0),(.int .u8 0),(.int .u8 0)])])])])])]),(.bool false),(.int .i64 1),(.int .i64 2),(.list 2 [])]),(.agg [(.int .i64 2),(.int .i64 3),(.int .i64 0),(.list 1 []),(.list 3 [(.agg [(.int .i64 0),(.int .i64 3),(.list 8 [(.agg [(.int .u8 9),(.int .u8 0),(.int .u8 0),(.int .u8 0),(.int .u8 0),(.int .u8 0),(.int .u8 0),(.int .u8 0)])])])])])]=some [((.agg [(.int .i64 2),(.list 1 [(.int .i64 4)]),(.list 5 [(.agg [(.int .i64 1),(.int .i64 2),(.int .i64 0),(.list 1 []),(.list 3 [(.agg [(.int .i64 0),(.int .i64 1),(.list 8 [(.agg [(.int .u8 2),(.int .u8 0),(.int .u8 0),(.int .u8 0),(.int .u8 0),(.int .u8 0),(.int .u8 0),(.int .u8 0)])])])])]),(.agg [(.int .i64 2),(.int .i64 3),(.int .i64 0),(.list 1 []),(.list 3 [(.agg [(.int .i64 0),(.int .i64 3),(.list 8 [(.agg [(.int .u8 9),(.int .u8 0),(.int .u8 0),(.int .u8 0),(.int .u8 0),(.int .u8 0),(.int .u8 0),(.int .u8 0)])])])])])]),(.bool false),(.int .i64 1),(.int .i64 3),(.list 2 [])]),false),((.int .i64 0),false)]:=cal_of_vmCall (n:=400) (by kernel_rfl)
theorem aw10:cal env 18 [(.agg [(.int .i64 2),(.list 1 [(.int .i64 4)]),(.list 5 [(.agg [(.int .i64 1),(.int .i64 2),(.int .i64 0),(.list 1 []),(.list 3 [(.agg [(.int .i64 0),(.int .i64 1),(.list 8 [(.agg [(.int .u8 2),(.int .u8 0),(.int .u8 0),(.int .u8 0),(.int .u8 0),(.int .u8 0),(.int .u8 0),(.int .u8 0)])])])])]),(.agg [(.int .i64 2),(.int .i64 3),(.int .i64 0),(.list 1 []),(.list 3 [(.agg [(.int .i64 0),(.int .i64 3),(.list 8 [(.agg [(.int .u8 9),(.int .u8 0),(.int .u8 0),(.int .u8 0),(.int .u8 0),(.int .u8 0),(.int .u8 0),(.int .u8 0)])])])])])]),(.bool false),(.int .i64 1),(.int .i64 3),(.list 2 [])])]=some [((.agg [(.int .i64 1),(.int .i64 2),(.int .i64 0),(.list 1 []),(.list 3 [(.agg [(.int .i64 0),(.int .i64 1),(.list 8 [(.agg [(.int .u8 2),(.int .u8 0),(.int .u8 0),(.int .u8 0),(.int .u8 0),(.int .u8 0),(.int .u8 0),(.int .u8 0)])])])])]),false),((.bool true),false)]:=cal_of_vmCall (n:=400) (by kernel_rfl)
theorem aw11:cal env 37 [(.list 3 [(.agg [(.int .i64 0),(.int .i64 0),(.list 8 [(.agg [(.int .u8 1),(.int .u8 0),(.int .u8 0),(.int .u8 0),(.int .u8 0),(.int .u8 0),(.int .u8 0),(.int .u8 0)]),(.agg [(.int .u8 2),(.int .u8 0),(.int .u8 0),(.int .u8 0),(.int .u8 0),(.int .u8 0),(.int .u8 0),(.int .u8 0)])])]),(.agg [(.int .i64 0),(.int .i64 3),(.list 8 [(.agg [(.int .u8 9),(.int .u8 0),(.int .u8 0),(.int .u8 0),(.int .u8 0),(.int .u8 0),(.int .u8 0),(.int .u8 0)])])])]),(.list 3 [(.agg [(.int .i64 0),(.int .i64 0),(.list 8 [(.agg [(.int .u8 1),(.int .u8 0),(.int .u8 0),(.int .u8 0),(.int .u8 0),(.int .u8 0),(.int .u8 0),(.int .u8 0)]),(.agg [(.int .u8 2),(.int .u8 0),(.int .u8 0),(.int .u8 0),(.int .u8 0),(.int .u8 0),(.int .u8 0),(.int .u8 0)])])]),(.agg [(.int .i64 0),(.int .i64 3),(.list 8 [(.agg [(.int .u8 9),(.int .u8 0),(.int .u8 0),(.int .u8 0),(.int .u8 0),(.int .u8 0),(.int .u8 0),(.int .u8 0)])])])])]=some [((.bool true),false)]:=cal_of_vmCall (n:=400) (by kernel_rfl)
theorem scS (k1 k2 k3 s1 s2 s3 a b c l1 l2 l3 x):(PV.agg [.int k1 a,.list s1 l1,.list s2 l2,.bool x,.int k2 b,.int k3 c,.list s3 l3]).scalar=false:=rfl
theorem scW (k k2 s1 a b l1):(PV.agg [.int k a,.int k2 b,.list s1 l1]).scalar=false:=rfl
theorem scB (k s1 a l1):(PV.agg [.int k a,.list s1 l1]).scalar=false:=rfl
theorem scC (k1 k2 k3 s1 s2 a b c l1 l2):(PV.agg [.int k1 a,.int k2 b,.int k3 c,.list s1 l1,.list s2 l2]).scalar=false:=rfl
theorem w00:IntKind.i64.wrap 0=0:=by decide
def awQ:Nat→List BV
 |0=>[.pv (.int .i64 2),.pv (.list 1 [(.int .i64 4)]),.pv (.list 5 []),.pv (.bool false),.pv (.int .i64 0),.pv (.int .i64 0),.pv (.list 2 [])]
 |1=>[.pv (.int .i64 2),.pv (.list 1 [(.int .i64 4)]),.pv (.list 5 [(.agg [(.int .i64 0),(.int .i64 1),(.int .i64 0),(.list 1 []),(.list 3 [(.agg [(.int .i64 0),(.int .i64 0),(.list 8 [(.agg [(.int .u8 1),(.int .u8 0),(.int .u8 0),(.int .u8 0),(.int .u8 0),(.int .u8 0),(.int .u8 0),(.int .u8 0)])])])])])]),.pv (.bool false),.pv (.int .i64 0),.pv (.int .i64 1),.pv (.list 2 [])]
 |_=>[.pv (.int .i64 2),.pv (.list 1 [(.int .i64 4)]),.pv (.list 5 [(.agg [(.int .i64 0),(.int .i64 1),(.int .i64 0),(.list 1 []),(.list 3 [(.agg [(.int .i64 0),(.int .i64 0),(.list 8 [(.agg [(.int .u8 1),(.int .u8 0),(.int .u8 0),(.int .u8 0),(.int .u8 0),(.int .u8 0),(.int .u8 0),(.int .u8 0)])])])])]),(.agg [(.int .i64 1),(.int .i64 2),(.int .i64 0),(.list 1 []),(.list 3 [(.agg [(.int .i64 0),(.int .i64 1),(.list 8 [(.agg [(.int .u8 2),(.int .u8 0),(.int .u8 0),(.int .u8 0),(.int .u8 0),(.int .u8 0),(.int .u8 0),(.int .u8 0)])])])])])]),.pv (.bool false),.pv (.int .i64 0),.pv (.int .i64 2),.pv (.list 2 [])]
theorem awQ0:awQ 0=[.pv (.int .i64 2),.pv (.list 1 [(.int .i64 4)]),.pv (.list 5 []),.pv (.bool false),.pv (.int .i64 0),.pv (.int .i64 0),.pv (.list 2 [])]:=rfl
theorem awQ1:awQ 1=[.pv (.int .i64 2),.pv (.list 1 [(.int .i64 4)]),.pv (.list 5 [(.agg [(.int .i64 0),(.int .i64 1),(.int .i64 0),(.list 1 []),(.list 3 [(.agg [(.int .i64 0),(.int .i64 0),(.list 8 [(.agg [(.int .u8 1),(.int .u8 0),(.int .u8 0),(.int .u8 0),(.int .u8 0),(.int .u8 0),(.int .u8 0),(.int .u8 0)])])])])])]),.pv (.bool false),.pv (.int .i64 0),.pv (.int .i64 1),.pv (.list 2 [])]:=rfl
theorem awQ2:awQ 2=[.pv (.int .i64 2),.pv (.list 1 [(.int .i64 4)]),.pv (.list 5 [(.agg [(.int .i64 0),(.int .i64 1),(.int .i64 0),(.list 1 []),(.list 3 [(.agg [(.int .i64 0),(.int .i64 0),(.list 8 [(.agg [(.int .u8 1),(.int .u8 0),(.int .u8 0),(.int .u8 0),(.int .u8 0),(.int .u8 0),(.int .u8 0),(.int .u8 0)])])])])]),(.agg [(.int .i64 1),(.int .i64 2),(.int .i64 0),(.list 1 []),(.list 3 [(.agg [(.int .i64 0),(.int .i64 1),(.list 8 [(.agg [(.int .u8 2),(.int .u8 0),(.int .u8 0),(.int .u8 0),(.int .u8 0),(.int .u8 0),(.int .u8 0),(.int .u8 0)])])])])])]),.pv (.bool false),.pv (.int .i64 0),.pv (.int .i64 2),.pv (.list 2 [])]:=rfl
set_option maxRecDepth 20000 in
theorem loop10 (_:True) {st:St} (h:st.head [1,2,3] st.boxes.length=some ⟨sl 146 [(1,.pbox 0 0),(2,.pv (.int .i64 0)),(3,.pv (.int .i64 (0:Nat)))],[⟨false,awQ ((0:Nat))⟩],[],none⟩) :
  den env fn10_l1 st=some (.normal,⟨sl 146 [(0,.any),(1,.pbox 0 0),(2,.pv (.int .i64 0))],[⟨false,awQ 2⟩],[],none⟩):=by
 unfold fn10_l1
 refine clean_up (env:=env) (nb:=1) (2) (fun i=>⟨sl 146 [(1,.pbox 0 0),(2,.pv (.int .i64 0)),(3,.pv (.int .i64 i))],[⟨false,awQ (i)⟩],[],none⟩) (fun i=>some (.normal,⟨sl 146 [(0,.any),(1,.pbox 0 0),(2,.pv (.int .i64 0))],[⟨false,awQ 2⟩],[],none⟩)) h (fun _=>rfl) (fun _=>by simp only [slAll,slsAll,Nat.reduceMul,Nat.reduceBEq,Nat.reduceLT,Nat.reduceLeDiff,Nat.reduceAdd,decide_true,Bool.and_self,Bool.true_and]) ?_ ?_
 ·intro i rb hi ih
  match i,hi with
  |0,_ =>
   simp only [fn10_b0,awQ0,aw0,aw1,aw2,aw3,aw4,aw5,aw6,aw7,aw8,aw9,aw10,aw11,scS,scW,scB,scC,w00,Int.add_zero,show IntKind.i64.wrap (0+1)=1 from rfl,show IntKind.i64.wrap (1+1)=2 from rfl,show IntKind.u8.wrap 1=1 from rfl,show IntKind.u8.wrap 2=2 from rfl,show ((0:Int)<2)=True from by simp,show ((1:Int)<2)=True from by simp,Int.ofNat_zero,Int.ofNat_one,show ((1:Nat):Int)=1 from rfl,show ((0:Nat):Int)=0 from rfl,slAll,slsAll,Nat.reduceMul,Nat.reduceBEq,Nat.reduceLT,Nat.reduceLeDiff,memAll,vAll,reduceCtorEq,Nat.reduceEqDiff,Nat.reduceAdd,Nat.reduceLT,Nat.reduceLeDiff,Nat.beq]
   rw [ih _ (by simp only [show 0+1=1 from rfl,awQ1,slAll,slsAll,Nat.reduceMul,Nat.reduceBEq,Nat.reduceLT,Nat.reduceLeDiff,memAll,vAll,reduceCtorEq,Nat.reduceEqDiff,Nat.reduceAdd,Nat.reduceLT,Nat.reduceLeDiff,Nat.beq]<;>rfl)]
  |1,_ =>
   simp only [fn10_b0,awQ1,aw0,aw1,aw2,aw3,aw4,aw5,aw6,aw7,aw8,aw9,aw10,aw11,scS,scW,scB,scC,w00,Int.add_zero,show IntKind.i64.wrap (0+1)=1 from rfl,show IntKind.i64.wrap (1+1)=2 from rfl,show IntKind.u8.wrap 1=1 from rfl,show IntKind.u8.wrap 2=2 from rfl,show ((0:Int)<2)=True from by simp,show ((1:Int)<2)=True from by simp,Int.ofNat_zero,Int.ofNat_one,show ((1:Nat):Int)=1 from rfl,show ((0:Nat):Int)=0 from rfl,slAll,slsAll,Nat.reduceMul,Nat.reduceBEq,Nat.reduceLT,Nat.reduceLeDiff,memAll,vAll,reduceCtorEq,Nat.reduceEqDiff,Nat.reduceAdd,Nat.reduceLT,Nat.reduceLeDiff,Nat.beq]
   rw [ih _ (by simp only [show 1+1=2 from rfl,awQ2,slAll,slsAll,Nat.reduceMul,Nat.reduceBEq,Nat.reduceLT,Nat.reduceLeDiff,memAll,vAll,reduceCtorEq,Nat.reduceEqDiff,Nat.reduceAdd,Nat.reduceLT,Nat.reduceLeDiff,Nat.beq]<;>rfl)]
 ·intro rb
  simp only [fn10_b0,show (((2:Nat):Int)<2)=False from by simp,slAll,slsAll,Nat.reduceMul,Nat.reduceBEq,Nat.reduceLT,Nat.reduceLeDiff,memAll,vAll,reduceCtorEq,Nat.reduceEqDiff,Nat.reduceAdd,Nat.reduceLT,Nat.reduceLeDiff,Nat.beq]
set_option maxRecDepth 20000 in
theorem calAwake:cal env 10 []=some [(.bool true,false)]:=by
 rw [cal_code env10 rfl];simp only [fn10,slAll,Nat.reduceBEq,Nat.reduceLeDiff,Nat.reduceAdd,List.length_cons,List.length_nil]
 simp only [aw0,aw1,aw2,aw3,aw4,aw5,aw6,aw7,aw8,aw9,aw10,aw11,scS,scW,scB,scC,w00,Int.add_zero,slAll,slsAll,Nat.reduceMul,Nat.reduceBEq,Nat.reduceLT,Nat.reduceLeDiff,memAll,vAll,reduceCtorEq,Nat.reduceEqDiff,Nat.reduceAdd,Nat.reduceLT,Nat.reduceLeDiff,Nat.beq]
 rw [loop10 trivial (by simp only [awQ0];simp only [slAll,slsAll,Nat.reduceMul,Nat.reduceBEq,Nat.reduceLT,Nat.reduceLeDiff,Nat.reduceAdd,decide_true,Bool.and_self,Bool.true_and]<;>rfl)]
 simp only [awQ2,aw0,aw1,aw2,aw3,aw4,aw5,aw6,aw7,aw8,aw9,aw10,aw11,scS,scW,scB,scC,w00,Int.add_zero,slAll,slsAll,Nat.reduceMul,Nat.reduceBEq,Nat.reduceLT,Nat.reduceLeDiff,memAll,vAll,reduceCtorEq,Nat.reduceEqDiff,Nat.reduceAdd,Nat.reduceLT,Nat.reduceLeDiff,Nat.beq]
end Go.Proofs.YtpcncggjmabnaaaGreatDoor.V

namespace Go.Proofs.YtpcncggjmabnaaaGreatDoor.V
theorem eBm_at24 {l:List Bm} {i:Nat} (h:i<l.length):(l.map eBm)[i]?=some (.agg [.int .i64 l[i].size,.list 1 (l[i].ws.map eW)]):=by rw [List.getElem?_map,List.getElem?_eq_getElem h];rfl
theorem loop41 {l:List Bm} (hl:l.length≤lim) (hw:∀ b∈l,b.ws.length≤lim) {st:St} (h:st.head [0,1,5] st.boxes.length=some ⟨sl 27 [(0,.pv (.list 2 (l.map eBm))),(1,.pv (.list 2 (l.map eBm))),(5,.pv (.int .i64 (0:Nat)))],[],[],none⟩) :
  den env fn41_l1 st=some (.normal,⟨sl 27 [(4,.any)],[],[],none⟩):=by
 unfold fn41_l1
 refine clean_up (env:=env) (l.length) (fun i=>⟨sl 27 [(0,.pv (.list 2 (l.map eBm))),(1,.pv (.list 2 (l.map eBm))),(5,.pv (.int .i64 i))],[],[],none⟩) (fun i=>some (.normal,⟨sl 27 [(4,.any)],[],[],none⟩)) h (fun _=>rfl) (fun _=>by simp only [slAll,slsAll,Nat.reduceMul,Nat.reduceBEq,Nat.reduceLT,Nat.reduceLeDiff,Nat.reduceAdd,decide_true,Bool.and_self,Bool.true_and]) ?_ ?_
 ·intro i rb hi ih
  have hi1:=i64_next hi hl
  have F1:((i:Int)<(l.length:Int))=True:=eq_true (by omega)
  have e1:=cal71 (a:=l[i]) (b:=l[i]) (hw _ (List.getElem_mem hi))
  rw [sameB_iff.2 rfl,show eBm l[i]=.agg [.int .i64 l[i].size,.list 1 (l[i].ws.map eW)] from rfl] at e1
  have hx:=eBm_at24 hi
  simp only [fn41_b0,F1,e1,hx,part2,index_nat hi,List.length_map,slAll,slsAll,Nat.reduceMul,Nat.reduceBEq,Nat.reduceLT,Nat.reduceLeDiff,memAll,vAll,reduceCtorEq,Nat.reduceEqDiff,Nat.reduceAdd,Nat.reduceLT,Nat.reduceLeDiff,Nat.beq]
  rw [ih _ (by simp only [hi1,slAll,slsAll,Nat.reduceMul,Nat.reduceBEq,Nat.reduceLT,Nat.reduceLeDiff,memAll,vAll,reduceCtorEq,Nat.reduceEqDiff,Nat.reduceAdd,Nat.reduceLT,Nat.reduceLeDiff,Nat.beq]<;>rfl)]
 ·intro rb
  simp only [fn41_b0,Int.lt_irrefl,List.length_map,slAll,slsAll,Nat.reduceMul,Nat.reduceBEq,Nat.reduceLT,Nat.reduceLeDiff,memAll,vAll,reduceCtorEq,Nat.reduceEqDiff,Nat.reduceAdd,Nat.reduceLT,Nat.reduceLeDiff,Nat.beq]
theorem cal41 {l:List Bm} (hl:l.length≤lim) (hw:∀ b∈l,b.ws.length≤lim):cal env 41 [.list 2 (l.map eBm),.list 2 (l.map eBm)]=some [(.bool true,false)]:=by
 have F1:((l.length:Int) != (l.length:Int))=false:=by simp
 rw [cal_code env41 rfl];simp only [fn41,slAll,Nat.reduceBEq,Nat.reduceLeDiff,Nat.reduceAdd,List.length_cons,List.length_nil]
 simp only [F1,List.length_map,slAll,slsAll,Nat.reduceMul,Nat.reduceBEq,Nat.reduceLT,Nat.reduceLeDiff,memAll,vAll,reduceCtorEq,Nat.reduceEqDiff,Nat.reduceAdd,Nat.reduceLT,Nat.reduceLeDiff,Nat.beq]
 rw [loop41 hl hw (by simp only [slAll,slsAll,Nat.reduceMul,Nat.reduceBEq,Nat.reduceLT,Nat.reduceLeDiff,Nat.reduceAdd,decide_true,Bool.and_self,Bool.true_and]<;>rfl)]
 simp only [F1,List.length_map,slAll,slsAll,Nat.reduceMul,Nat.reduceBEq,Nat.reduceLT,Nat.reduceLeDiff,memAll,vAll,reduceCtorEq,Nat.reduceEqDiff,Nat.reduceAdd,Nat.reduceLT,Nat.reduceLeDiff,Nat.beq]
structure okQ (s:Spl):Prop where
 sz:s.sz.length≤lim
 cy:s.cy.length≤lim
 dt:s.dt.length≤lim
 c1:∀ c∈s.cy,c.pos.length≤lim∧c.ws.length≤lim∧∀ x∈c.ws,x.data.length≤lim
 d1:∀ b∈s.dt,b.ws.length≤lim
def bSpl (s:Spl):List BV:=[.pv (.int .i64 s.lm),.pv (.list 1 (s.sz.map eI)),.pv (.list 5 (s.cy.map eCye)),.pv (.bool s.ov),.pv (.int .i64 s.fs),.pv (.int .i64 s.ls),.pv (.list 2 (s.dt.map eBm))]
theorem bSpl_eq (s:Spl):bSpl s=[.pv (.int .i64 s.lm),.pv (.list 1 (s.sz.map eI)),.pv (.list 5 (s.cy.map eCye)),.pv (.bool s.ov),.pv (.int .i64 s.fs),.pv (.int .i64 s.ls),.pv (.list 2 (s.dt.map eBm))]:=rfl
theorem bbS (b:Bool):(b==b)=true:=by cases b<;>rfl
set_option maxRecDepth 20000 in
theorem loop13 {s:Spl} (hq:okQ s) {st:St} (h:st.head [2,3,5] st.boxes.length=some ⟨sl 76 [(2,.pbox 0 0),(3,.pbox 1 0),(5,.pv (.int .i64 (0:Nat)))],[⟨false,bSpl s⟩,⟨false,bSpl s⟩],[],none⟩) :
  den env fn13_l1 st=some (.normal,⟨sl 76 [(4,.any)],[⟨false,bSpl s⟩,⟨false,bSpl s⟩],[],none⟩):=by
 unfold fn13_l1
 refine clean_up (env:=env) (nb:=2) (s.cy.length) (fun i=>⟨sl 76 [(2,.pbox 0 0),(3,.pbox 1 0),(5,.pv (.int .i64 i))],[⟨false,bSpl s⟩,⟨false,bSpl s⟩],[],none⟩) (fun i=>some (.normal,⟨sl 76 [(4,.any)],[⟨false,bSpl s⟩,⟨false,bSpl s⟩],[],none⟩)) h (fun _=>rfl) (fun _=>by simp only [slAll,slsAll,Nat.reduceMul,Nat.reduceBEq,Nat.reduceLT,Nat.reduceLeDiff,Nat.reduceAdd,decide_true,Bool.and_self,Bool.true_and]) ?_ ?_
 ·intro i rb hi ih
  have hi1:=i64_next hi hq.cy
  have F1:((i:Int)<(s.cy.length:Int))=True:=eq_true (by omega)
  have q:=hq.c1 _ (List.getElem_mem hi)
  have e1:=cal22 (b:=s.cy[i].base) (n:=s.cy[i].num) (t:=s.cy[i].time) (p:=s.cy[i].pos) (w:=s.cy[i].ws) q.1 q.2.1 q.2.2
  unfold eCyc at e1
  have hx:=eCye_at hi
  simp only [fn13_b0,F1,e1,hx,part5,bSpl_eq,index_nat hi,List.length_map,slAll,slsAll,Nat.reduceMul,Nat.reduceBEq,Nat.reduceLT,Nat.reduceLeDiff,memAll,vAll,reduceCtorEq,Nat.reduceEqDiff,Nat.reduceAdd,Nat.reduceLT,Nat.reduceLeDiff,Nat.beq]
  rw [ih _ (by simp only [hi1,bSpl_eq,slAll,slsAll,Nat.reduceMul,Nat.reduceBEq,Nat.reduceLT,Nat.reduceLeDiff,memAll,vAll,reduceCtorEq,Nat.reduceEqDiff,Nat.reduceAdd,Nat.reduceLT,Nat.reduceLeDiff,Nat.beq]<;>rfl)]
  rfl
 ·intro rb
  simp only [fn13_b0,Int.lt_irrefl,bSpl_eq,List.length_map,slAll,slsAll,Nat.reduceMul,Nat.reduceBEq,Nat.reduceLT,Nat.reduceLeDiff,memAll,vAll,reduceCtorEq,Nat.reduceEqDiff,Nat.reduceAdd,Nat.reduceLT,Nat.reduceLeDiff,Nat.beq]
set_option maxRecDepth 20000 in
theorem cal13 {s:Spl} (h:okQ s):cal env 13 [eSpl s,eSpl s]=some [(.bool true,false)]:=by
 have N1:∀ n:Int,(n != n)=false:=fun n=>by simp
 have e1:=cal40 (l:=s.sz) (sz:=1) (.inr rfl) h.sz
 have e2:=cal41 h.dt h.d1
 rw [eSpl_eq]
 rw [cal_code env13 rfl];simp only [fn13,slAll,Nat.reduceBEq,Nat.reduceLeDiff,Nat.reduceAdd,List.length_cons,List.length_nil]
 simp only [N1,e1,e2,bbS,List.length_map,slAll,slsAll,Nat.reduceMul,Nat.reduceBEq,Nat.reduceLT,Nat.reduceLeDiff,memAll,vAll,reduceCtorEq,Nat.reduceEqDiff,Nat.reduceAdd,Nat.reduceLT,Nat.reduceLeDiff,Nat.beq]
 rw [loop13 h (by simp only [bSpl_eq];simp only [slAll,slsAll,Nat.reduceMul,Nat.reduceBEq,Nat.reduceLT,Nat.reduceLeDiff,Nat.reduceAdd,decide_true,Bool.and_self,Bool.true_and]<;>rfl)]
 simp only [N1,e1,e2,bbS,List.length_map,slAll,slsAll,Nat.reduceMul,Nat.reduceBEq,Nat.reduceLT,Nat.reduceLeDiff,memAll,vAll,reduceCtorEq,Nat.reduceEqDiff,Nat.reduceAdd,Nat.reduceLT,Nat.reduceLeDiff,Nat.beq]
end Go.Proofs.YtpcncggjmabnaaaGreatDoor.V

namespace Go.Proofs.YtpcncggjmabnaaaGreatDoor.V
def okCy (c:Cye):Prop:=c.pos.length≤20∧c.ws.length≤1000∧∀ x∈c.ws,x.data.length≤1000
structure smQ (s:Spl):Prop where
 sz:s.sz.length≤1000
 cy:s.cy.length≤1000
 dt:s.dt.length≤1000
 c1:∀ c∈s.cy,okCy c
 d1:∀ b∈s.dt,b.ws.length≤1000
theorem smQ.ok {s:Spl} (h:smQ s):okQ s:=⟨Nat.le_trans h.sz (by decide),Nat.le_trans h.cy (by decide),Nat.le_trans h.dt (by decide),fun c hc=>⟨Nat.le_trans (h.c1 c hc).1 (by decide),Nat.le_trans (h.c1 c hc).2.1 (by decide),fun x hx=>Nat.le_trans ((h.c1 c hc).2.2 x hx) (by decide)⟩,fun b hb=>Nat.le_trans (h.d1 b hb) (by decide)⟩
def ckY (z:List Int) (c:Cye):Int:=ckC z c.base c.num c.time c.pos c.ws
def quX (z:List Int):Int→List Cye→Int→Bool
 |f,[],l=>f==l
 |f,c :: cs,l=>(ckY z c==0)&&((c.base==f)&&quX z c.num cs l)
def quN (f:Int) (cy:List Cye) (i:Nat):Int:=match i with
 |0=>f
 |j+1=>(cy[j]?.map (·.num)).getD 0
def bmsX (dt:List Bm) (z:List Int):Bool:=eqF (fun b n=>(bmE b==0)&&(b.size==n)) dt z
def chkQ (s:Spl):Int:=if sizesErr s.sz=0 then (if s.lm<1∨s.lm > 1024∨s.fs<0∨s.fs > s.ls∨s.ls > 1073741824 then 3 else if s.ov=true then (if (decide (s.cy=[])&&(decide (s.fs≠s.ls)&&bmsX s.dt s.sz))=true then 0 else 3) else (if (decide (s.dt=[])&&(decide ((s.cy.length:Int)≤s.lm)&&quX s.sz s.fs s.cy s.ls))=true then 0 else 3)) else sizesErr s.sz
instance:DecidableEq Cye:=fun a b=>if h:a.base=b.base∧a.num=b.num∧a.time=b.time∧a.pos=b.pos∧a.ws=b.ws then isTrue (by cases a;cases b;simp_all) else isFalse (fun e=>h (by subst e;simp))
theorem eI_at24 {l:List Int} {i:Nat} (h:i<l.length):(l.map eI)[i]?=some (.int .i64 l[i]):=by rw [List.getElem?_map,List.getElem?_eq_getElem h];rfl
def resB (n d:Nat) (b:Bool):Option (Ex × St):=if b then some (.normal,⟨sl n [(d,.any)],[],[],none⟩) else some (.ret,⟨sl n [(d,.pv (.bool false))],[],[],none⟩)
theorem resB_t (n d:Nat):resB n d true=some (.normal,⟨sl n [(d,.any)],[],[],none⟩):=rfl
theorem resB_f (n d:Nat):resB n d false=some (.ret,⟨sl n [(d,.pv (.bool false))],[],[],none⟩):=rfl
def okBN (b:Bm) (n:Int):Bool:=(bmE b==0)&&(b.size==n)
def bmsD (dt:List Bm) (z:List Int) (i:Nat):Bool:=((dt.drop i).zip (z.drop i)).all fun q=>okBN q.1 q.2
theorem bmsD_step {dt:List Bm} {z:List Int} {i:Nat} (h:i<dt.length) (h2:i<z.length):bmsD dt z i=(okBN dt[i] z[i]&&bmsD dt z (i+1)):=by
 unfold bmsD
 rw [List.drop_eq_getElem_cons h,List.drop_eq_getElem_cons h2]
 rfl
theorem bmsD_end (dt:List Bm) (z:List Int):bmsD dt z dt.length=true:=by
 unfold bmsD
 rw [List.drop_length]
 rfl
theorem bmsX_D (dt:List Bm) (z:List Int):bmsX dt z=(decide (dt.length=z.length)&&bmsD dt z 0):=rfl
theorem loop50 {dt:List Bm} {z:List Int} (hl:dt.length≤1000) (hz:dt.length=z.length) {st:St} (h:st.head [0,1,5] st.boxes.length=some ⟨sl 35 [(0,.pv (.list 2 (dt.map eBm))),(1,.pv (.list 1 (z.map eI))),(5,.pv (.int .i64 (0:Nat)))],[],[],none⟩) :
  den env fn50_l1 st=resB 35 4 (bmsD dt z ((0:Nat))):=by
 unfold fn50_l1
 refine clean_up (env:=env) (dt.length) (fun i=>⟨sl 35 [(0,.pv (.list 2 (dt.map eBm))),(1,.pv (.list 1 (z.map eI))),(5,.pv (.int .i64 i))],[],[],none⟩) (fun i=>resB 35 4 (bmsD dt z (i))) h (fun _=>rfl) (fun _=>by simp only [slAll,slsAll,Nat.reduceMul,Nat.reduceBEq,Nat.reduceLT,Nat.reduceLeDiff,Nat.reduceAdd,decide_true,Bool.and_self,Bool.true_and]) ?_ ?_
 ·intro i rb hi ih
  have hi1:=i64_next hi (by unfold lim;omega)
  have hj:i<z.length:=by omega
  have F1:((i:Int)<(dt.length:Int))=True:=eq_true (by omega)
  have e1:=cal92 (b:=dt[i])
  rw [show eBm dt[i]=.agg [.int .i64 dt[i].size,.list 1 (dt[i].ws.map eW)] from rfl] at e1
  have hx:=eBm_at24 hi
  have hy:=eI_at24 hj
  rw [bmsD_step hi hj]
  unfold okBN
  by_cases c:bmE dt[i]=0
  ·rw [c] at e1 ⊢
   have Z:((0:Int) != 0)=false:=rfl
   by_cases c2:dt[i].size=z[i]
   ·have Z2:(dt[i].size != z[i])=false:=by simp [c2]
    have Z3:(dt[i].size==z[i])=true:=by simp [c2]
    rw [Z3,show ((0:Int)==0)=true from rfl,Bool.true_and,Bool.true_and]
    simp only [fn50_b0,F1,e1,Z,Z2,hx,hy,part2,index_nat hi,index_nat hj,List.length_map,slAll,slsAll,Nat.reduceMul,Nat.reduceBEq,Nat.reduceLT,Nat.reduceLeDiff,memAll,vAll,reduceCtorEq,Nat.reduceEqDiff,Nat.reduceAdd,Nat.reduceLT,Nat.reduceLeDiff,Nat.beq]
    rw [ih _ (by simp only [hi1,slAll,slsAll,Nat.reduceMul,Nat.reduceBEq,Nat.reduceLT,Nat.reduceLeDiff,memAll,vAll,reduceCtorEq,Nat.reduceEqDiff,Nat.reduceAdd,Nat.reduceLT,Nat.reduceLeDiff,Nat.beq]<;>rfl)]
   ·have Z2:(dt[i].size != z[i])=true:=by simp [c2]
    have Z3:(dt[i].size==z[i])=false:=by simp [c2]
    rw [Z3,Bool.and_false,Bool.false_and,resB_f]
    simp only [fn50_b0,F1,e1,Z,Z2,hx,hy,part2,index_nat hi,index_nat hj,List.length_map,slAll,slsAll,Nat.reduceMul,Nat.reduceBEq,Nat.reduceLT,Nat.reduceLeDiff,memAll,vAll,reduceCtorEq,Nat.reduceEqDiff,Nat.reduceAdd,Nat.reduceLT,Nat.reduceLeDiff,Nat.beq]
  ·have Z:(bmE dt[i] != 0)=true:=by simp [c]
   have Z3:(bmE dt[i]==0)=false:=by simp [c]
   rw [Z3,Bool.false_and,Bool.false_and,resB_f]
   simp only [fn50_b0,F1,e1,Z,hx,hy,part2,index_nat hi,index_nat hj,List.length_map,slAll,slsAll,Nat.reduceMul,Nat.reduceBEq,Nat.reduceLT,Nat.reduceLeDiff,memAll,vAll,reduceCtorEq,Nat.reduceEqDiff,Nat.reduceAdd,Nat.reduceLT,Nat.reduceLeDiff,Nat.beq]
 ·intro rb
  rw [bmsD_end,resB_t]
  simp only [fn50_b0,Int.lt_irrefl,List.length_map,slAll,slsAll,Nat.reduceMul,Nat.reduceBEq,Nat.reduceLT,Nat.reduceLeDiff,memAll,vAll,reduceCtorEq,Nat.reduceEqDiff,Nat.reduceAdd,Nat.reduceLT,Nat.reduceLeDiff,Nat.beq]
theorem cal50 {dt:List Bm} {z:List Int} (hl:dt.length≤1000):cal env 50 [.list 2 (dt.map eBm),.list 1 (z.map eI)]=some [(.bool (bmsX dt z),false)]:=by
 rw [bmsX_D]
 by_cases c:dt.length=z.length
 ·have F1:((dt.length:Int) != (z.length:Int))=false:=by simp [c]
  rw [decide_eq_true c,Bool.true_and]
  rw [cal_code env50 rfl];simp only [fn50,slAll,Nat.reduceBEq,Nat.reduceLeDiff,Nat.reduceAdd,List.length_cons,List.length_nil]
  simp only [F1,List.length_map,slAll,slsAll,Nat.reduceMul,Nat.reduceBEq,Nat.reduceLT,Nat.reduceLeDiff,memAll,vAll,reduceCtorEq,Nat.reduceEqDiff,Nat.reduceAdd,Nat.reduceLT,Nat.reduceLeDiff,Nat.beq]
  rw [loop50 hl c (by simp only [slAll,slsAll,Nat.reduceMul,Nat.reduceBEq,Nat.reduceLT,Nat.reduceLeDiff,Nat.reduceAdd,decide_true,Bool.and_self,Bool.true_and]<;>rfl)]
  cases bmsD dt z 0 with
  |true=>rw [resB_t];simp only [F1,List.length_map,slAll,slsAll,Nat.reduceMul,Nat.reduceBEq,Nat.reduceLT,Nat.reduceLeDiff,memAll,vAll,reduceCtorEq,Nat.reduceEqDiff,Nat.reduceAdd,Nat.reduceLT,Nat.reduceLeDiff,Nat.beq]
  |false=>rw [resB_f];simp only [F1,List.length_map,slAll,slsAll,Nat.reduceMul,Nat.reduceBEq,Nat.reduceLT,Nat.reduceLeDiff,memAll,vAll,reduceCtorEq,Nat.reduceEqDiff,Nat.reduceAdd,Nat.reduceLT,Nat.reduceLeDiff,Nat.beq]
 ·have F1:((dt.length:Int) != (z.length:Int))=true:=by simp;omega
  rw [decide_eq_false c,Bool.false_and]
  rw [cal_code env50 rfl];simp only [fn50,slAll,Nat.reduceBEq,Nat.reduceLeDiff,Nat.reduceAdd,List.length_cons,List.length_nil]
  simp only [F1,List.length_map,slAll,slsAll,Nat.reduceMul,Nat.reduceBEq,Nat.reduceLT,Nat.reduceLeDiff,memAll,vAll,reduceCtorEq,Nat.reduceEqDiff,Nat.reduceAdd,Nat.reduceLT,Nat.reduceLeDiff,Nat.beq]
theorem cal90 {b:Bm} {n:Int}:cal env 90 [eBm b,eI n]=some [(.bool (okBN b n),false)]:=by
 have e1:=cal91 (b:=b)
 rw [show eBm b=.agg [.int .i64 b.size,.list 1 (b.ws.map eW)] from rfl] at e1 ⊢
 unfold okBN eI
 by_cases c:bmE b=0
 ·rw [c] at e1 ⊢
  have Z:((0:Int)==0)=true:=rfl
  rw [Z,Bool.true_and]
  rw [cal_code env90 rfl];simp only [fn90,slAll,Nat.reduceBEq,Nat.reduceLeDiff,Nat.reduceAdd,List.length_cons,List.length_nil]
  simp only [e1,Z,part2,slAll,slsAll,Nat.reduceMul,Nat.reduceBEq,Nat.reduceLT,Nat.reduceLeDiff,memAll,vAll,reduceCtorEq,Nat.reduceEqDiff,Nat.reduceAdd,Nat.reduceLT,Nat.reduceLeDiff,Nat.beq]
 ·have Z:(bmE b==0)=false:=by simp [c]
  rw [Z,Bool.false_and]
  rw [cal_code env90 rfl];simp only [fn90,slAll,Nat.reduceBEq,Nat.reduceLeDiff,Nat.reduceAdd,List.length_cons,List.length_nil]
  simp only [e1,Z,part2,slAll,slsAll,Nat.reduceMul,Nat.reduceBEq,Nat.reduceLT,Nat.reduceLeDiff,memAll,vAll,reduceCtorEq,Nat.reduceEqDiff,Nat.reduceAdd,Nat.reduceLT,Nat.reduceLeDiff,Nat.beq]
theorem loop89 {dt:List Bm} {z:List Int} (hl:dt.length≤1000) (hz:dt.length=z.length) {st:St} (h:st.head [0,1,2,15,16,17] st.boxes.length=some ⟨sl 32 [(0,.pv (.list 2 (dt.map eBm))),(1,.pv (.list 1 (z.map eI))),(2,.pv (.func 90 [])),(15,.pv (.list 2 (dt.map eBm))),(16,.pv (.int .i64 dt.length)),(17,.pv (.int .i64 (0:Nat)))],[],[],none⟩) :
  den env fn89_l1 st=resB 32 6 (bmsD dt z ((0:Nat))):=by
 unfold fn89_l1
 refine clean_up (env:=env) (dt.length) (fun i=>⟨sl 32 [(0,.pv (.list 2 (dt.map eBm))),(1,.pv (.list 1 (z.map eI))),(2,.pv (.func 90 [])),(15,.pv (.list 2 (dt.map eBm))),(16,.pv (.int .i64 dt.length)),(17,.pv (.int .i64 i))],[],[],none⟩) (fun i=>resB 32 6 (bmsD dt z (i))) h (fun _=>rfl) (fun _=>by simp only [slAll,slsAll,Nat.reduceMul,Nat.reduceBEq,Nat.reduceLT,Nat.reduceLeDiff,Nat.reduceAdd,decide_true,Bool.and_self,Bool.true_and]) ?_ ?_
 ·intro i rb hi ih
  have hi1:=i64_next hi (by unfold lim;omega)
  have hj:i<z.length:=by omega
  have F1:((i:Int)<(dt.length:Int))=True:=eq_true (by omega)
  have e1:=cal90 (b:=dt[i]) (n:=z[i])
  rw [show eBm dt[i]=.agg [.int .i64 dt[i].size,.list 1 (dt[i].ws.map eW)] from rfl,show eI z[i]=.int .i64 z[i] from rfl] at e1
  have hx:=eBm_at24 hi
  have hy:=eI_at24 hj
  rw [bmsD_step hi hj]
  cases c:okBN dt[i] z[i] with
  |true =>
   rw [c] at e1
   rw [Bool.true_and]
   simp only [fn89_b0,F1,e1,hx,hy,part2,index_nat hi,index_nat hj,List.length_map,slAll,slsAll,Nat.reduceMul,Nat.reduceBEq,Nat.reduceLT,Nat.reduceLeDiff,memAll,vAll,reduceCtorEq,Nat.reduceEqDiff,Nat.reduceAdd,Nat.reduceLT,Nat.reduceLeDiff,Nat.beq]
   rw [ih _ (by simp only [hi1,slAll,slsAll,Nat.reduceMul,Nat.reduceBEq,Nat.reduceLT,Nat.reduceLeDiff,memAll,vAll,reduceCtorEq,Nat.reduceEqDiff,Nat.reduceAdd,Nat.reduceLT,Nat.reduceLeDiff,Nat.beq]<;>rfl)]
  |false =>
   rw [c] at e1
   rw [Bool.false_and,resB_f]
   simp only [fn89_b0,F1,e1,hx,hy,part2,index_nat hi,index_nat hj,List.length_map,slAll,slsAll,Nat.reduceMul,Nat.reduceBEq,Nat.reduceLT,Nat.reduceLeDiff,memAll,vAll,reduceCtorEq,Nat.reduceEqDiff,Nat.reduceAdd,Nat.reduceLT,Nat.reduceLeDiff,Nat.beq]
 ·intro rb
  rw [bmsD_end,resB_t]
  simp only [fn89_b0,Int.lt_irrefl,List.length_map,slAll,slsAll,Nat.reduceMul,Nat.reduceBEq,Nat.reduceLT,Nat.reduceLeDiff,memAll,vAll,reduceCtorEq,Nat.reduceEqDiff,Nat.reduceAdd,Nat.reduceLT,Nat.reduceLeDiff,Nat.beq]
theorem cal89 {dt:List Bm} {z:List Int} (hl:dt.length≤1000):cal env 89 [.list 2 (dt.map eBm),.list 1 (z.map eI),.func 90 []]=some [(.bool (bmsX dt z),false)]:=by
 rw [bmsX_D]
 by_cases c:dt.length=z.length
 ·have F1:((dt.length:Int) != (z.length:Int))=false:=by simp [c]
  rw [decide_eq_true c,Bool.true_and]
  rw [cal_code env89 rfl];simp only [fn89,slAll,Nat.reduceBEq,Nat.reduceLeDiff,Nat.reduceAdd,List.length_cons,List.length_nil]
  simp only [F1,List.length_map,slAll,slsAll,Nat.reduceMul,Nat.reduceBEq,Nat.reduceLT,Nat.reduceLeDiff,memAll,vAll,reduceCtorEq,Nat.reduceEqDiff,Nat.reduceAdd,Nat.reduceLT,Nat.reduceLeDiff,Nat.beq]
  rw [loop89 hl c (by simp only [slAll,slsAll,Nat.reduceMul,Nat.reduceBEq,Nat.reduceLT,Nat.reduceLeDiff,Nat.reduceAdd,decide_true,Bool.and_self,Bool.true_and]<;>rfl)]
  cases bmsD dt z 0 with
  |true=>rw [resB_t];simp only [F1,List.length_map,slAll,slsAll,Nat.reduceMul,Nat.reduceBEq,Nat.reduceLT,Nat.reduceLeDiff,memAll,vAll,reduceCtorEq,Nat.reduceEqDiff,Nat.reduceAdd,Nat.reduceLT,Nat.reduceLeDiff,Nat.beq]
  |false=>rw [resB_f];simp only [F1,List.length_map,slAll,slsAll,Nat.reduceMul,Nat.reduceBEq,Nat.reduceLT,Nat.reduceLeDiff,memAll,vAll,reduceCtorEq,Nat.reduceEqDiff,Nat.reduceAdd,Nat.reduceLT,Nat.reduceLeDiff,Nat.beq]
 ·have F1:((dt.length:Int) != (z.length:Int))=true:=by simp;omega
  rw [decide_eq_false c,Bool.false_and]
  rw [cal_code env89 rfl];simp only [fn89,slAll,Nat.reduceBEq,Nat.reduceLeDiff,Nat.reduceAdd,List.length_cons,List.length_nil]
  simp only [F1,List.length_map,slAll,slsAll,Nat.reduceMul,Nat.reduceBEq,Nat.reduceLT,Nat.reduceLeDiff,memAll,vAll,reduceCtorEq,Nat.reduceEqDiff,Nat.reduceAdd,Nat.reduceLT,Nat.reduceLeDiff,Nat.beq]
end Go.Proofs.YtpcncggjmabnaaaGreatDoor.V

namespace Go.Proofs.YtpcncggjmabnaaaGreatDoor.V
def quG (z:List Int):Int→List Cye→Bool
 |_,[]=>true
 |f,c :: cs=>(ckY z c==0)&&((c.base==f)&&quG z c.num cs)
def lastN:Int→List Cye→Int
 |f,[]=>f
 |_,c :: cs=>lastN c.num cs
theorem quX_G (z:List Int) (l:Int):∀ (cy:List Cye) (f:Int),quX z f cy l=(quG z f cy&&(lastN f cy==l))
 |[],f=>by simp [quX,quG,lastN]
 |c :: cs,f=>by rw [quX,quX_G z l cs,quG,lastN,Bool.and_assoc,Bool.and_assoc]
theorem quN_succ {f:Int} {cy:List Cye} {i:Nat} (h:i<cy.length):quN f cy (i+1)=cy[i].num:=by simp [quN,List.getElem?_eq_getElem h]
theorem lastN_N (f:Int) (cy:List Cye):lastN f cy=quN f cy cy.length:=by
 induction cy generalizing f with
 |nil=>rfl
 |cons c cs ih =>
  rw [lastN,ih]
  cases cs with
  |nil=>rfl
  |cons d ds=>simp [quN]
def quD (z:List Int) (f:Int) (cy:List Cye) (i:Nat):Bool:=quG z (quN f cy i) (cy.drop i)
theorem quD_step {z:List Int} {f:Int} {cy:List Cye} {i:Nat} (h:i<cy.length):quD z f cy i=((ckY z cy[i]==0)&&((cy[i].base==quN f cy i)&&quD z f cy (i+1))):=by
 unfold quD
 rw [List.drop_eq_getElem_cons h,quG,quN_succ h]
theorem quD_end (z:List Int) (f:Int) (cy:List Cye):quD z f cy cy.length=true:=by
 unfold quD
 rw [List.drop_length]
 rfl
theorem quX_D (z:List Int) (f l:Int) (cy:List Cye):quX z f cy l=(quD z f cy 0&&(quN f cy cy.length==l)):=by
 rw [quX_G,lastN_N]
 rfl
def quV (z:List Int):Int→List Cye→Int
 |f,[]=>f
 |f,c :: cs=>if ((ckY z c==0)&&(c.base==f))=true then quV z c.num cs else f
def quW (z:List Int) (f:Int) (cy:List Cye) (i:Nat):Int:=quV z (quN f cy i) (cy.drop i)
theorem quW_go {z:List Int} {f:Int} {cy:List Cye} {i:Nat} (h:i<cy.length) (h1:(ckY z cy[i]==0)=true) (h2:(cy[i].base==quN f cy i)=true):quW z f cy i=quW z f cy (i+1):=by
 unfold quW
 rw [List.drop_eq_getElem_cons h,quV,h1,h2,quN_succ h]
 rfl
theorem quW_no {z:List Int} {f:Int} {cy:List Cye} {i:Nat} (h:i<cy.length) (h1:((ckY z cy[i]==0)&&(cy[i].base==quN f cy i))=false):quW z f cy i=quN f cy i:=by
 unfold quW
 rw [List.drop_eq_getElem_cons h,quV,h1]
 rfl
def resQ (z:List Int) (f l:Int) (cy:List Cye) (i:Nat) (b:Bool):Option (Ex × St):=if b then some (.normal,⟨sl 40 [(2,.pv (.int .i64 (quN f cy cy.length))),(3,.pv (.int .i64 l)),(8,.any)],[],[],none⟩) else some (.ret,⟨sl 40 [(2,.pv (.int .i64 (quW z f cy i))),(3,.pv (.int .i64 l)),(8,.pv (.bool false))],[],[],none⟩)
theorem resQ_t (z:List Int) (f l:Int) (cy:List Cye) (i:Nat):resQ z f l cy i true=some (.normal,⟨sl 40 [(2,.pv (.int .i64 (quN f cy cy.length))),(3,.pv (.int .i64 l)),(8,.any)],[],[],none⟩):=rfl
theorem resQ_f (z:List Int) (f l:Int) (cy:List Cye) (i:Nat):resQ z f l cy i false=some (.ret,⟨sl 40 [(2,.pv (.int .i64 (quW z f cy i))),(3,.pv (.int .i64 l)),(8,.pv (.bool false))],[],[],none⟩):=rfl
theorem resQ_go {z:List Int} {f l:Int} {cy:List Cye} {i:Nat} (h:quW z f cy i=quW z f cy (i+1)) (b:Bool):resQ z f l cy i b=resQ z f l cy (i+1) b:=by cases b<;>simp [resQ,h]
set_option maxRecDepth 20000 in
theorem loop51 {z:List Int} {f l:Int} {cy:List Cye} (hz:z.length≤1000) (hl:cy.length≤1000) (hc:∀ c∈cy,okCy c) {st:St} (h:st.head [0,1,2,3,9] st.boxes.length=some ⟨sl 40 [(0,.pv (.list 5 (cy.map eCye))),(1,.pv (.list 1 (z.map eI))),(2,.pv (.int .i64 (quN f cy ((0:Nat))))),(3,.pv (.int .i64 l)),(9,.pv (.int .i64 (0:Nat)))],[],[],none⟩) :
  den env fn51_l1 st=resQ z f l cy ((0:Nat)) (quD z f cy ((0:Nat))):=by
 unfold fn51_l1
 refine clean_up (env:=env) (cy.length) (fun i=>⟨sl 40 [(0,.pv (.list 5 (cy.map eCye))),(1,.pv (.list 1 (z.map eI))),(2,.pv (.int .i64 (quN f cy (i)))),(3,.pv (.int .i64 l)),(9,.pv (.int .i64 i))],[],[],none⟩) (fun i=>resQ z f l cy (i) (quD z f cy (i))) h (fun _=>rfl) (fun _=>by simp only [slAll,slsAll,Nat.reduceMul,Nat.reduceBEq,Nat.reduceLT,Nat.reduceLeDiff,Nat.reduceAdd,decide_true,Bool.and_self,Bool.true_and]) ?_ ?_
 ·intro i rb hi ih
  have hi1:=i64_next hi (by unfold lim;omega)
  have F1:((i:Int)<(cy.length:Int))=True:=eq_true (by omega)
  have q:=hc _ (List.getElem_mem hi)
  have e1:=cal46q (z:=z) (b:=cy[i].base) (n:=cy[i].num) (t:=cy[i].time) (p:=cy[i].pos) (w:=cy[i].ws) (by unfold lim;omega) (Nat.le_trans q.2.1 (by decide)) (fun x hx=>Nat.le_trans (q.2.2 x hx) (by decide)) q.1
  rw [show ckC z cy[i].base cy[i].num cy[i].time cy[i].pos cy[i].ws=ckY z cy[i] from rfl] at e1
  unfold eCyc at e1
  have hx:=eCye_at hi
  rw [quD_step hi]
  by_cases c:ckY z cy[i]=0
  ·have Z:((0:Int) != 0)=false:=rfl
   have Z0:(ckY z cy[i]==0)=true:=by simp [c]
   rw [c] at e1
   by_cases c2:cy[i].base=quN f cy i
   ·have Z1:(cy[i].base != quN f cy i)=false:=by simp [c2]
    have Z2:(cy[i].base==quN f cy i)=true:=by simp [c2]
    rw [Z0,Z2,Bool.true_and,Bool.true_and,resQ_go (quW_go hi Z0 Z2)]
    simp only [fn51_b0,F1,e1,hx,Z,Z1,part5,index_nat hi,List.length_map,slAll,slsAll,Nat.reduceMul,Nat.reduceBEq,Nat.reduceLT,Nat.reduceLeDiff,memAll,vAll,reduceCtorEq,Nat.reduceEqDiff,Nat.reduceAdd,Nat.reduceLT,Nat.reduceLeDiff,Nat.beq]
    rw [ih _ (by simp only [hi1,quN_succ hi,slAll,slsAll,Nat.reduceMul,Nat.reduceBEq,Nat.reduceLT,Nat.reduceLeDiff,memAll,vAll,reduceCtorEq,Nat.reduceEqDiff,Nat.reduceAdd,Nat.reduceLT,Nat.reduceLeDiff,Nat.beq]<;>rfl)]
   ·have Z1:(cy[i].base != quN f cy i)=true:=by simp [c2]
    have Z2:(cy[i].base==quN f cy i)=false:=by simp [c2]
    rw [Z0,Z2,Bool.true_and,Bool.false_and,resQ_f,quW_no hi (by rw [Z0,Z2];rfl)]
    simp only [fn51_b0,F1,e1,hx,Z,Z1,part5,index_nat hi,List.length_map,slAll,slsAll,Nat.reduceMul,Nat.reduceBEq,Nat.reduceLT,Nat.reduceLeDiff,memAll,vAll,reduceCtorEq,Nat.reduceEqDiff,Nat.reduceAdd,Nat.reduceLT,Nat.reduceLeDiff,Nat.beq]
  ·have Z:(ckY z cy[i] != 0)=true:=by simp [c]
   have Z0:(ckY z cy[i]==0)=false:=by simp [c]
   rw [Z0,Bool.false_and,resQ_f,quW_no hi (by rw [Z0];rfl)]
   simp only [fn51_b0,F1,e1,hx,Z,part5,index_nat hi,List.length_map,slAll,slsAll,Nat.reduceMul,Nat.reduceBEq,Nat.reduceLT,Nat.reduceLeDiff,memAll,vAll,reduceCtorEq,Nat.reduceEqDiff,Nat.reduceAdd,Nat.reduceLT,Nat.reduceLeDiff,Nat.beq]
 ·intro rb
  rw [quD_end,resQ_t]
  simp only [fn51_b0,Int.lt_irrefl,List.length_map,slAll,slsAll,Nat.reduceMul,Nat.reduceBEq,Nat.reduceLT,Nat.reduceLeDiff,memAll,vAll,reduceCtorEq,Nat.reduceEqDiff,Nat.reduceAdd,Nat.reduceLT,Nat.reduceLeDiff,Nat.beq]
set_option maxRecDepth 20000 in
theorem cal51 {z:List Int} {f l:Int} {cy:List Cye} (hz:z.length≤1000) (hl:cy.length≤1000) (hc:∀ c∈cy,okCy c):cal env 51 [.list 5 (cy.map eCye),.list 1 (z.map eI),.int .i64 f,.int .i64 l]=some [(.bool (quX z f cy l),false)]:=by
 rw [quX_D]
 rw [cal_code env51 rfl];simp only [fn51,slAll,Nat.reduceBEq,Nat.reduceLeDiff,Nat.reduceAdd,List.length_cons,List.length_nil]
 simp only [ slAll,slsAll,Nat.reduceMul,Nat.reduceBEq,Nat.reduceLT,Nat.reduceLeDiff,memAll,vAll,reduceCtorEq,Nat.reduceEqDiff,Nat.reduceAdd,Nat.reduceLT,Nat.reduceLeDiff,Nat.beq]
 rw [loop51 (z:=z) (f:=f) (l:=l) (cy:=cy) hz hl hc (by simp only [slAll,slsAll,Nat.reduceMul,Nat.reduceBEq,Nat.reduceLT,Nat.reduceLeDiff,Nat.reduceAdd,decide_true,Bool.and_self,Bool.true_and]<;>rfl)]
 cases quD z f cy 0 with
 |true=>rw [resQ_t,Bool.true_and];simp only [ slAll,slsAll,Nat.reduceMul,Nat.reduceBEq,Nat.reduceLT,Nat.reduceLeDiff,memAll,vAll,reduceCtorEq,Nat.reduceEqDiff,Nat.reduceAdd,Nat.reduceLT,Nat.reduceLeDiff,Nat.beq]
 |false=>rw [resQ_f,Bool.false_and];simp only [ slAll,slsAll,Nat.reduceMul,Nat.reduceBEq,Nat.reduceLT,Nat.reduceLeDiff,memAll,vAll,reduceCtorEq,Nat.reduceEqDiff,Nat.reduceAdd,Nat.reduceLT,Nat.reduceLeDiff,Nat.beq]
def resK (z:List Int) (f:Int) (cy:List Cye) (i:Nat) (bx:List Box) (b:Bool):Option (Ex × St):=if b then some (.normal,⟨sl 47 [(1,.pbox 0 0),(2,.any),(3,.pv (.int .i64 (quN f cy cy.length)))],bx,[],none⟩) else some (.ret,⟨sl 47 [(1,.pbox 0 0),(2,.pv (.bool false)),(3,.pv (.int .i64 (quW z f cy i)))],bx,[],none⟩)
theorem resK_t (z:List Int) (f:Int) (cy:List Cye) (i:Nat) (bx:List Box):resK z f cy i bx true=some (.normal,⟨sl 47 [(1,.pbox 0 0),(2,.any),(3,.pv (.int .i64 (quN f cy cy.length)))],bx,[],none⟩):=rfl
theorem resK_f (z:List Int) (f:Int) (cy:List Cye) (i:Nat) (bx:List Box):resK z f cy i bx false=some (.ret,⟨sl 47 [(1,.pbox 0 0),(2,.pv (.bool false)),(3,.pv (.int .i64 (quW z f cy i)))],bx,[],none⟩):=rfl
theorem resK_go {z:List Int} {f:Int} {cy:List Cye} {i:Nat} (h:quW z f cy i=quW z f cy (i+1)) (bx:List Box) (b:Bool):resK z f cy i bx b=resK z f cy (i+1) bx b:=by cases b<;>simp [resK,h]
set_option maxRecDepth 20000 in
theorem loop87 {s:Spl} (hq:smQ s) {st:St} (h:st.head [1,3,9,10,11] st.boxes.length=some ⟨sl 47 [(1,.pbox 0 0),(3,.pv (.int .i64 (quN s.fs s.cy ((0:Nat))))),(9,.pv (.list 5 (s.cy.map eCye))),(10,.pv (.int .i64 s.cy.length)),(11,.pv (.int .i64 (0:Nat)))],[⟨false,bSpl s⟩],[],none⟩) :
  den env fn87_l1 st=resK s.sz s.fs s.cy ((0:Nat)) [⟨false,bSpl s⟩] (quD s.sz s.fs s.cy ((0:Nat))):=by
 unfold fn87_l1
 refine clean_up (env:=env) (nb:=1) (s.cy.length) (fun i=>⟨sl 47 [(1,.pbox 0 0),(3,.pv (.int .i64 (quN s.fs s.cy (i)))),(9,.pv (.list 5 (s.cy.map eCye))),(10,.pv (.int .i64 s.cy.length)),(11,.pv (.int .i64 i))],[⟨false,bSpl s⟩],[],none⟩) (fun i=>resK s.sz s.fs s.cy (i) [⟨false,bSpl s⟩] (quD s.sz s.fs s.cy (i))) h (fun _=>rfl) (fun _=>by simp only [slAll,slsAll,Nat.reduceMul,Nat.reduceBEq,Nat.reduceLT,Nat.reduceLeDiff,Nat.reduceAdd,decide_true,Bool.and_self,Bool.true_and]) ?_ ?_
 ·intro i rb hi ih
  have hi1:=i64_next hi (by have:=hq.cy;unfold lim;omega)
  have F1:((i:Int)<(s.cy.length:Int))=True:=eq_true (by omega)
  have q:=hq.c1 _ (List.getElem_mem hi)
  have e1:=cal42q (z:=s.sz) (b:=s.cy[i].base) (n:=s.cy[i].num) (t:=s.cy[i].time) (p:=s.cy[i].pos) (w:=s.cy[i].ws) (by have:=hq.sz;unfold lim;omega) (Nat.le_trans q.2.1 (by decide)) (fun x hx=>Nat.le_trans (q.2.2 x hx) (by decide)) q.1
  rw [show ckC s.sz s.cy[i].base s.cy[i].num s.cy[i].time s.cy[i].pos s.cy[i].ws=ckY s.sz s.cy[i] from rfl] at e1
  unfold eCyc at e1
  have hx:=eCye_at hi
  rw [quD_step hi]
  by_cases c:ckY s.sz s.cy[i]=0
  ·have Z:((0:Int) != 0)=false:=rfl
   have Z0:(ckY s.sz s.cy[i]==0)=true:=by simp [c]
   rw [c] at e1
   by_cases c2:s.cy[i].base=quN s.fs s.cy i
   ·have Z1:(s.cy[i].base != quN s.fs s.cy i)=false:=by simp [c2]
    have Z2:(s.cy[i].base==quN s.fs s.cy i)=true:=by simp [c2]
    rw [Z0,Z2,Bool.true_and,Bool.true_and,resK_go (quW_go hi Z0 Z2)]
    simp only [fn87_b0,F1,e1,hx,Z,Z1,part5,bSpl_eq,index_nat hi,List.length_map,slAll,slsAll,Nat.reduceMul,Nat.reduceBEq,Nat.reduceLT,Nat.reduceLeDiff,memAll,vAll,reduceCtorEq,Nat.reduceEqDiff,Nat.reduceAdd,Nat.reduceLT,Nat.reduceLeDiff,Nat.beq]
    rw [ih _ (by simp only [hi1,quN_succ hi,bSpl_eq,slAll,slsAll,Nat.reduceMul,Nat.reduceBEq,Nat.reduceLT,Nat.reduceLeDiff,memAll,vAll,reduceCtorEq,Nat.reduceEqDiff,Nat.reduceAdd,Nat.reduceLT,Nat.reduceLeDiff,Nat.beq]<;>rfl)]
    rfl
   ·have Z1:(s.cy[i].base != quN s.fs s.cy i)=true:=by simp [c2]
    have Z2:(s.cy[i].base==quN s.fs s.cy i)=false:=by simp [c2]
    rw [Z0,Z2,Bool.true_and,Bool.false_and,resK_f,quW_no hi (by rw [Z0,Z2];rfl)]
    simp only [fn87_b0,F1,e1,hx,Z,Z1,part5,bSpl_eq,index_nat hi,List.length_map,slAll,slsAll,Nat.reduceMul,Nat.reduceBEq,Nat.reduceLT,Nat.reduceLeDiff,memAll,vAll,reduceCtorEq,Nat.reduceEqDiff,Nat.reduceAdd,Nat.reduceLT,Nat.reduceLeDiff,Nat.beq]
  ·have Z:(ckY s.sz s.cy[i] != 0)=true:=by simp [c]
   have Z0:(ckY s.sz s.cy[i]==0)=false:=by simp [c]
   rw [Z0,Bool.false_and,resK_f,quW_no hi (by rw [Z0];rfl)]
   simp only [fn87_b0,F1,e1,hx,Z,part5,bSpl_eq,index_nat hi,List.length_map,slAll,slsAll,Nat.reduceMul,Nat.reduceBEq,Nat.reduceLT,Nat.reduceLeDiff,memAll,vAll,reduceCtorEq,Nat.reduceEqDiff,Nat.reduceAdd,Nat.reduceLT,Nat.reduceLeDiff,Nat.beq]
 ·intro rb
  rw [quD_end,resK_t]
  simp only [fn87_b0,Int.lt_irrefl,List.length_map,slAll,slsAll,Nat.reduceMul,Nat.reduceBEq,Nat.reduceLT,Nat.reduceLeDiff,memAll,vAll,reduceCtorEq,Nat.reduceEqDiff,Nat.reduceAdd,Nat.reduceLT,Nat.reduceLeDiff,Nat.beq]
def ckA (s:Spl):Bool:=quD s.sz s.fs s.cy 0&&(decide (s.dt=[])&&(decide ((s.cy.length:Int)≤s.lm)&&(quN s.fs s.cy s.cy.length==s.ls)))
set_option maxRecDepth 20000 in
theorem cal87 {s:Spl} (hq:smQ s):cal env 87 [eSpl s]=some [(.bool (ckA s),false)]:=by
 rw [eSpl_eq]
 unfold ckA
 rw [cal_code env87 rfl];simp only [fn87,slAll,Nat.reduceBEq,Nat.reduceLeDiff,Nat.reduceAdd,List.length_cons,List.length_nil]
 simp only [ slAll,slsAll,Nat.reduceMul,Nat.reduceBEq,Nat.reduceLT,Nat.reduceLeDiff,memAll,vAll,reduceCtorEq,Nat.reduceEqDiff,Nat.reduceAdd,Nat.reduceLT,Nat.reduceLeDiff,Nat.beq]
 rw [loop87 (s:=s) hq (by simp only [bSpl_eq];simp only [slAll,slsAll,Nat.reduceMul,Nat.reduceBEq,Nat.reduceLT,Nat.reduceLeDiff,Nat.reduceAdd,decide_true,Bool.and_self,Bool.true_and]<;>rfl)]
 cases quD s.sz s.fs s.cy 0 with
 |false=>rw [resK_f,Bool.false_and];simp only [bSpl_eq,slAll,slsAll,Nat.reduceMul,Nat.reduceBEq,Nat.reduceLT,Nat.reduceLeDiff,memAll,vAll,reduceCtorEq,Nat.reduceEqDiff,Nat.reduceAdd,Nat.reduceLT,Nat.reduceLeDiff,Nat.beq]
 |true =>
  rw [resK_t,Bool.true_and]
  by_cases c1:s.dt=[]
  ·have G1:((s.dt.length:Int)==0)=true:=by simp [c1]
   rw [decide_eq_true c1,Bool.true_and]
   by_cases c2:(s.cy.length:Int)≤s.lm
   ·have G2:=eq_true c2
    rw [decide_eq_true c2,Bool.true_and]
    simp only [bSpl_eq,G1,G2,List.length_map,slAll,slsAll,Nat.reduceMul,Nat.reduceBEq,Nat.reduceLT,Nat.reduceLeDiff,memAll,vAll,reduceCtorEq,Nat.reduceEqDiff,Nat.reduceAdd,Nat.reduceLT,Nat.reduceLeDiff,Nat.beq]
   ·have G2:=eq_false c2
    rw [decide_eq_false c2,Bool.false_and]
    simp only [bSpl_eq,G1,G2,List.length_map,slAll,slsAll,Nat.reduceMul,Nat.reduceBEq,Nat.reduceLT,Nat.reduceLeDiff,memAll,vAll,reduceCtorEq,Nat.reduceEqDiff,Nat.reduceAdd,Nat.reduceLT,Nat.reduceLeDiff,Nat.beq]
  ·have G1:((s.dt.length:Int)==0)=false:=by
    have:s.dt.length≠0:=fun e=>c1 (List.eq_nil_of_length_eq_zero e)
    simp;omega
   rw [decide_eq_false c1,Bool.false_and]
   simp only [bSpl_eq,G1,List.length_map,slAll,slsAll,Nat.reduceMul,Nat.reduceBEq,Nat.reduceLT,Nat.reduceLeDiff,memAll,vAll,reduceCtorEq,Nat.reduceEqDiff,Nat.reduceAdd,Nat.reduceLT,Nat.reduceLeDiff,Nat.beq]
def ckB (s:Spl):Bool:=bmsX s.dt s.sz&&(decide (s.cy=[])&&decide (s.fs<s.ls))
theorem cal88 {s:Spl} (hq:smQ s):cal env 88 [eSpl s]=some [(.bool (ckB s),false)]:=by
 have e1:=cal89 (dt:=s.dt) (z:=s.sz) hq.dt
 rw [eSpl_eq]
 unfold ckB
 cases c0:bmsX s.dt s.sz with
 |false =>
  rw [c0] at e1
  rw [Bool.false_and]
  rw [cal_code env88 rfl];simp only [fn88,slAll,Nat.reduceBEq,Nat.reduceLeDiff,Nat.reduceAdd,List.length_cons,List.length_nil]
  simp only [e1,slAll,slsAll,Nat.reduceMul,Nat.reduceBEq,Nat.reduceLT,Nat.reduceLeDiff,memAll,vAll,reduceCtorEq,Nat.reduceEqDiff,Nat.reduceAdd,Nat.reduceLT,Nat.reduceLeDiff,Nat.beq]
 |true =>
  rw [c0] at e1
  rw [Bool.true_and]
  by_cases c1:s.cy=[]
  ·have G1:((s.cy.length:Int)==0)=true:=by simp [c1]
   rw [decide_eq_true c1,Bool.true_and]
   by_cases c2:s.fs<s.ls
   ·have G2:=eq_true c2
    rw [decide_eq_true c2]
    rw [cal_code env88 rfl];simp only [fn88,slAll,Nat.reduceBEq,Nat.reduceLeDiff,Nat.reduceAdd,List.length_cons,List.length_nil]
    simp only [e1,G1,G2,List.length_map,slAll,slsAll,Nat.reduceMul,Nat.reduceBEq,Nat.reduceLT,Nat.reduceLeDiff,memAll,vAll,reduceCtorEq,Nat.reduceEqDiff,Nat.reduceAdd,Nat.reduceLT,Nat.reduceLeDiff,Nat.beq]
   ·have G2:=eq_false c2
    rw [decide_eq_false c2]
    rw [cal_code env88 rfl];simp only [fn88,slAll,Nat.reduceBEq,Nat.reduceLeDiff,Nat.reduceAdd,List.length_cons,List.length_nil]
    simp only [e1,G1,G2,List.length_map,slAll,slsAll,Nat.reduceMul,Nat.reduceBEq,Nat.reduceLT,Nat.reduceLeDiff,memAll,vAll,reduceCtorEq,Nat.reduceEqDiff,Nat.reduceAdd,Nat.reduceLT,Nat.reduceLeDiff,Nat.beq]
  ·have G1:((s.cy.length:Int)==0)=false:=by
    have:s.cy.length≠0:=fun e=>c1 (List.eq_nil_of_length_eq_zero e)
    simp;omega
   rw [decide_eq_false c1,Bool.false_and]
   rw [cal_code env88 rfl];simp only [fn88,slAll,Nat.reduceBEq,Nat.reduceLeDiff,Nat.reduceAdd,List.length_cons,List.length_nil]
   simp only [e1,G1,List.length_map,slAll,slsAll,Nat.reduceMul,Nat.reduceBEq,Nat.reduceLT,Nat.reduceLeDiff,memAll,vAll,reduceCtorEq,Nat.reduceEqDiff,Nat.reduceAdd,Nat.reduceLT,Nat.reduceLeDiff,Nat.beq]
theorem cal44 {s:Spl}:cal env 44 [eSpl s]=some [(.int .i64 (if s.ov then 1 else 0),false)]:=by
 rw [eSpl_eq]
 cases c:s.ov with
 |true =>
  rw [cal_code env44 rfl];simp only [fn44,slAll,Nat.reduceBEq,Nat.reduceLeDiff,Nat.reduceAdd,List.length_cons,List.length_nil]
  simp only [ slAll,slsAll,Nat.reduceMul,Nat.reduceBEq,Nat.reduceLT,Nat.reduceLeDiff,memAll,vAll,reduceCtorEq,Nat.reduceEqDiff,Nat.reduceAdd,Nat.reduceLT,Nat.reduceLeDiff,Nat.beq]
 |false =>
  rw [cal_code env44 rfl];simp only [fn44,slAll,Nat.reduceBEq,Nat.reduceLeDiff,Nat.reduceAdd,List.length_cons,List.length_nil]
  simp only [ slAll,slsAll,Nat.reduceMul,Nat.reduceBEq,Nat.reduceLT,Nat.reduceLeDiff,memAll,vAll,reduceCtorEq,Nat.reduceEqDiff,Nat.reduceAdd,Nat.reduceLT,Nat.reduceLeDiff,Nat.beq]
theorem cal49:cal env 49 []=some [(.agg [.func 87 [],.func 88 []],false)]:=by
 have P2:∀ a b:PV,part [a,b] 0 (some 2)=some (.agg [a,b]):=fun _ _=>rfl
 rw [cal_code env49 rfl];simp only [fn49,slAll,Nat.reduceBEq,Nat.reduceLeDiff,Nat.reduceAdd,List.length_cons,List.length_nil]
 simp only [P2,slAll,slsAll,Nat.reduceMul,Nat.reduceBEq,Nat.reduceLT,Nat.reduceLeDiff,memAll,vAll,reduceCtorEq,Nat.reduceEqDiff,Nat.reduceAdd,Nat.reduceLT,Nat.reduceLeDiff,Nat.beq]
end Go.Proofs.YtpcncggjmabnaaaGreatDoor.V

namespace Go.Proofs.YtpcncggjmabnaaaGreatDoor.V
set_option maxRecDepth 20000 in
theorem cal20 {s:Spl} (hq:smQ s):cal env 20 [eSpl s]=some [(.int .i64 (chkQ s),false)]:=by
 have e1:=cal38 (l:=s.sz) (by have:=hq.sz;unfold lim;omega)
 have e2:=cal49
 have e3:=cal44 (s:=s)
 have e4:=cal87 hq
 have e5:=cal88 hq
 have Z0:((0:Int) != 0)=false:=rfl
 have I0:index (.int .i64 0) 2=some 0:=rfl
 have I1:index (.int .i64 1) 2=some 1:=rfl
 rw [eSpl_eq] at e3 e4 e5 ⊢
 unfold chkQ
 by_cases cz:sizesErr s.sz=0
 rotate_left
 ·rw [if_neg cz] at e1 ⊢
  have Z:(sizesErr s.sz != 0)=true:=by simp [cz]
  rw [cal_code env20 rfl];simp only [fn20,slAll,Nat.reduceBEq,Nat.reduceLeDiff,Nat.reduceAdd,List.length_cons,List.length_nil]
  simp only [e1,Z,slAll,slsAll,Nat.reduceMul,Nat.reduceBEq,Nat.reduceLT,Nat.reduceLeDiff,memAll,vAll,reduceCtorEq,Nat.reduceEqDiff,Nat.reduceAdd,Nat.reduceLT,Nat.reduceLeDiff,Nat.beq]
 rw [cz,if_pos rfl] at e1
 rw [if_pos cz]
 by_cases c1:s.lm<1
 ·have F1:=eq_true c1
  rw [if_pos (Or.inl c1:s.lm<1∨s.lm > 1024∨s.fs<0∨s.fs > s.ls∨s.ls > 1073741824)]
  rw [cal_code env20 rfl];simp only [fn20,slAll,Nat.reduceBEq,Nat.reduceLeDiff,Nat.reduceAdd,List.length_cons,List.length_nil]
  simp only [e1,Z0,part7,F1,slAll,slsAll,Nat.reduceMul,Nat.reduceBEq,Nat.reduceLT,Nat.reduceLeDiff,memAll,vAll,reduceCtorEq,Nat.reduceEqDiff,Nat.reduceAdd,Nat.reduceLT,Nat.reduceLeDiff,Nat.beq]
 ·have F1:=eq_false c1
  by_cases c2:s.lm > 1024
  ·have F2:=eq_true c2
   rw [if_pos (Or.inr (Or.inl c2):s.lm<1∨s.lm > 1024∨s.fs<0∨s.fs > s.ls∨s.ls > 1073741824)]
   rw [cal_code env20 rfl];simp only [fn20,slAll,Nat.reduceBEq,Nat.reduceLeDiff,Nat.reduceAdd,List.length_cons,List.length_nil]
   simp only [e1,Z0,part7,F1,F2,slAll,slsAll,Nat.reduceMul,Nat.reduceBEq,Nat.reduceLT,Nat.reduceLeDiff,memAll,vAll,reduceCtorEq,Nat.reduceEqDiff,Nat.reduceAdd,Nat.reduceLT,Nat.reduceLeDiff,Nat.beq]
  ·have F2:=eq_false c2
   by_cases c3:s.fs<0
   ·have F3:=eq_true c3
    rw [if_pos (Or.inr (Or.inr (Or.inl c3)):s.lm<1∨s.lm > 1024∨s.fs<0∨s.fs > s.ls∨s.ls > 1073741824)]
    rw [cal_code env20 rfl];simp only [fn20,slAll,Nat.reduceBEq,Nat.reduceLeDiff,Nat.reduceAdd,List.length_cons,List.length_nil]
    simp only [e1,Z0,part7,F1,F2,F3,slAll,slsAll,Nat.reduceMul,Nat.reduceBEq,Nat.reduceLT,Nat.reduceLeDiff,memAll,vAll,reduceCtorEq,Nat.reduceEqDiff,Nat.reduceAdd,Nat.reduceLT,Nat.reduceLeDiff,Nat.beq]
   ·have F3:=eq_false c3
    by_cases c4:s.fs > s.ls
    ·have F4:=eq_true c4
     rw [if_pos (Or.inr (Or.inr (Or.inr (Or.inl c4))):s.lm<1∨s.lm > 1024∨s.fs<0∨s.fs > s.ls∨s.ls > 1073741824)]
     rw [cal_code env20 rfl];simp only [fn20,slAll,Nat.reduceBEq,Nat.reduceLeDiff,Nat.reduceAdd,List.length_cons,List.length_nil]
     simp only [e1,Z0,part7,F1,F2,F3,F4,slAll,slsAll,Nat.reduceMul,Nat.reduceBEq,Nat.reduceLT,Nat.reduceLeDiff,memAll,vAll,reduceCtorEq,Nat.reduceEqDiff,Nat.reduceAdd,Nat.reduceLT,Nat.reduceLeDiff,Nat.beq]
    ·have F4:=eq_false c4
     by_cases c5:s.ls > 1073741824
     ·have F5:=eq_true c5
      rw [if_pos (Or.inr (Or.inr (Or.inr (Or.inr c5))):s.lm<1∨s.lm > 1024∨s.fs<0∨s.fs > s.ls∨s.ls > 1073741824)]
      rw [cal_code env20 rfl];simp only [fn20,slAll,Nat.reduceBEq,Nat.reduceLeDiff,Nat.reduceAdd,List.length_cons,List.length_nil]
      simp only [e1,Z0,part7,F1,F2,F3,F4,F5,slAll,slsAll,Nat.reduceMul,Nat.reduceBEq,Nat.reduceLT,Nat.reduceLeDiff,memAll,vAll,reduceCtorEq,Nat.reduceEqDiff,Nat.reduceAdd,Nat.reduceLT,Nat.reduceLeDiff,Nat.beq]
     ·have F5:=eq_false c5
      rw [if_neg (show ¬ (s.lm<1∨s.lm > 1024∨s.fs<0∨s.fs > s.ls∨s.ls > 1073741824) by omega)]
      cases co:s.ov with
      |true =>
       rw [if_pos rfl]
       rw [co,if_pos rfl] at e3
       rw [co] at e5
       have hk:ckB s=(decide (s.cy=[])&&(decide (s.fs≠s.ls)&&bmsX s.dt s.sz)):=by
        unfold ckB
        rw [show decide (s.fs<s.ls)=decide (s.fs≠s.ls) from decide_eq_decide.2 (by omega)]
        cases bmsX s.dt s.sz<;>cases decide (s.cy=[])<;>cases decide (s.fs≠s.ls)<;>rfl
       rw [← hk]
       cases ck:ckB s with
       |true =>
        rw [ck] at e5
        rw [if_pos rfl]
        rw [cal_code env20 rfl];simp only [fn20,slAll,Nat.reduceBEq,Nat.reduceLeDiff,Nat.reduceAdd,List.length_cons,List.length_nil]
        simp only [co,e1,e2,e3,e5,I1,Z0,F1,F2,F3,F4,F5,part7,slAll,slsAll,Nat.reduceMul,Nat.reduceBEq,Nat.reduceLT,Nat.reduceLeDiff,memAll,vAll,reduceCtorEq,Nat.reduceEqDiff,Nat.reduceAdd,Nat.reduceLT,Nat.reduceLeDiff,Nat.beq]
       |false =>
        rw [ck] at e5
        rw [if_neg Bool.false_ne_true]
        rw [cal_code env20 rfl];simp only [fn20,slAll,Nat.reduceBEq,Nat.reduceLeDiff,Nat.reduceAdd,List.length_cons,List.length_nil]
        simp only [co,e1,e2,e3,e5,I1,Z0,F1,F2,F3,F4,F5,part7,slAll,slsAll,Nat.reduceMul,Nat.reduceBEq,Nat.reduceLT,Nat.reduceLeDiff,memAll,vAll,reduceCtorEq,Nat.reduceEqDiff,Nat.reduceAdd,Nat.reduceLT,Nat.reduceLeDiff,Nat.beq]
      |false =>
       rw [if_neg Bool.false_ne_true]
       rw [co,if_neg Bool.false_ne_true] at e3
       rw [co] at e4
       have hk:ckA s=(decide (s.dt=[])&&(decide ((s.cy.length:Int)≤s.lm)&&quX s.sz s.fs s.cy s.ls)):=by
        unfold ckA
        rw [quX_D]
        cases quD s.sz s.fs s.cy 0<;>cases decide (s.dt=[])<;>cases decide ((s.cy.length:Int)≤s.lm)<;>rfl
       rw [← hk]
       cases ck:ckA s with
       |true =>
        rw [ck] at e4
        rw [if_pos rfl]
        rw [cal_code env20 rfl];simp only [fn20,slAll,Nat.reduceBEq,Nat.reduceLeDiff,Nat.reduceAdd,List.length_cons,List.length_nil]
        simp only [co,e1,e2,e3,e4,I0,Z0,F1,F2,F3,F4,F5,part7,slAll,slsAll,Nat.reduceMul,Nat.reduceBEq,Nat.reduceLT,Nat.reduceLeDiff,memAll,vAll,reduceCtorEq,Nat.reduceEqDiff,Nat.reduceAdd,Nat.reduceLT,Nat.reduceLeDiff,Nat.beq]
       |false =>
        rw [ck] at e4
        rw [if_neg Bool.false_ne_true]
        rw [cal_code env20 rfl];simp only [fn20,slAll,Nat.reduceBEq,Nat.reduceLeDiff,Nat.reduceAdd,List.length_cons,List.length_nil]
        simp only [co,e1,e2,e3,e4,I0,Z0,F1,F2,F3,F4,F5,part7,slAll,slsAll,Nat.reduceMul,Nat.reduceBEq,Nat.reduceLT,Nat.reduceLeDiff,memAll,vAll,reduceCtorEq,Nat.reduceEqDiff,Nat.reduceAdd,Nat.reduceLT,Nat.reduceLeDiff,Nat.beq]
set_option maxRecDepth 20000 in
theorem cal21 {s:Spl} (hq:smQ s):cal env 21 [eSpl s]=some [(.int .i64 (chkQ s),false)]:=by
 have e1:=cal31 (z:=s.sz) hq.sz
 have e2:=cal50 (dt:=s.dt) (z:=s.sz) hq.dt
 have e3:=cal51 (z:=s.sz) (f:=s.fs) (l:=s.ls) (cy:=s.cy) hq.sz hq.cy hq.c1
 have Z0:((0:Int) != 0)=false:=rfl
 rw [eSpl_eq]
 unfold chkQ
 by_cases cz:sizesErr s.sz=0
 rotate_left
 ·rw [if_neg cz] at e1 ⊢
  have Z:(sizesErr s.sz != 0)=true:=by simp [cz]
  rw [cal_code env21 rfl];simp only [fn21,slAll,Nat.reduceBEq,Nat.reduceLeDiff,Nat.reduceAdd,List.length_cons,List.length_nil]
  simp only [e1,Z,slAll,slsAll,Nat.reduceMul,Nat.reduceBEq,Nat.reduceLT,Nat.reduceLeDiff,memAll,vAll,reduceCtorEq,Nat.reduceEqDiff,Nat.reduceAdd,Nat.reduceLT,Nat.reduceLeDiff,Nat.beq]
 rw [cz,if_pos rfl] at e1
 rw [if_pos cz]
 by_cases c1:s.lm<1
 ·have F1:=eq_true c1
  rw [if_pos (Or.inl c1:s.lm<1∨s.lm > 1024∨s.fs<0∨s.fs > s.ls∨s.ls > 1073741824)]
  rw [cal_code env21 rfl];simp only [fn21,slAll,Nat.reduceBEq,Nat.reduceLeDiff,Nat.reduceAdd,List.length_cons,List.length_nil]
  simp only [e1,Z0,F1,slAll,slsAll,Nat.reduceMul,Nat.reduceBEq,Nat.reduceLT,Nat.reduceLeDiff,memAll,vAll,reduceCtorEq,Nat.reduceEqDiff,Nat.reduceAdd,Nat.reduceLT,Nat.reduceLeDiff,Nat.beq]
 ·have F1:=eq_false c1
  by_cases c2:s.lm > 1024
  ·have F2:=eq_true c2
   rw [if_pos (Or.inr (Or.inl c2):s.lm<1∨s.lm > 1024∨s.fs<0∨s.fs > s.ls∨s.ls > 1073741824)]
   rw [cal_code env21 rfl];simp only [fn21,slAll,Nat.reduceBEq,Nat.reduceLeDiff,Nat.reduceAdd,List.length_cons,List.length_nil]
   simp only [e1,Z0,F1,F2,slAll,slsAll,Nat.reduceMul,Nat.reduceBEq,Nat.reduceLT,Nat.reduceLeDiff,memAll,vAll,reduceCtorEq,Nat.reduceEqDiff,Nat.reduceAdd,Nat.reduceLT,Nat.reduceLeDiff,Nat.beq]
  ·have F2:=eq_false c2
   by_cases c3:s.fs<0
   ·have F3:=eq_true c3
    rw [if_pos (Or.inr (Or.inr (Or.inl c3)):s.lm<1∨s.lm > 1024∨s.fs<0∨s.fs > s.ls∨s.ls > 1073741824)]
    rw [cal_code env21 rfl];simp only [fn21,slAll,Nat.reduceBEq,Nat.reduceLeDiff,Nat.reduceAdd,List.length_cons,List.length_nil]
    simp only [e1,Z0,F1,F2,F3,slAll,slsAll,Nat.reduceMul,Nat.reduceBEq,Nat.reduceLT,Nat.reduceLeDiff,memAll,vAll,reduceCtorEq,Nat.reduceEqDiff,Nat.reduceAdd,Nat.reduceLT,Nat.reduceLeDiff,Nat.beq]
   ·have F3:=eq_false c3
    by_cases c4:s.fs > s.ls
    ·have F4:=eq_true c4
     rw [if_pos (Or.inr (Or.inr (Or.inr (Or.inl c4))):s.lm<1∨s.lm > 1024∨s.fs<0∨s.fs > s.ls∨s.ls > 1073741824)]
     rw [cal_code env21 rfl];simp only [fn21,slAll,Nat.reduceBEq,Nat.reduceLeDiff,Nat.reduceAdd,List.length_cons,List.length_nil]
     simp only [e1,Z0,F1,F2,F3,F4,slAll,slsAll,Nat.reduceMul,Nat.reduceBEq,Nat.reduceLT,Nat.reduceLeDiff,memAll,vAll,reduceCtorEq,Nat.reduceEqDiff,Nat.reduceAdd,Nat.reduceLT,Nat.reduceLeDiff,Nat.beq]
    ·have F4:=eq_false c4
     by_cases c5:s.ls > 1073741824
     ·have F5:=eq_true c5
      rw [if_pos (Or.inr (Or.inr (Or.inr (Or.inr c5))):s.lm<1∨s.lm > 1024∨s.fs<0∨s.fs > s.ls∨s.ls > 1073741824)]
      rw [cal_code env21 rfl];simp only [fn21,slAll,Nat.reduceBEq,Nat.reduceLeDiff,Nat.reduceAdd,List.length_cons,List.length_nil]
      simp only [e1,Z0,F1,F2,F3,F4,F5,slAll,slsAll,Nat.reduceMul,Nat.reduceBEq,Nat.reduceLT,Nat.reduceLeDiff,memAll,vAll,reduceCtorEq,Nat.reduceEqDiff,Nat.reduceAdd,Nat.reduceLT,Nat.reduceLeDiff,Nat.beq]
     ·have F5:=eq_false c5
      rw [if_neg (show ¬ (s.lm<1∨s.lm > 1024∨s.fs<0∨s.fs > s.ls∨s.ls > 1073741824) by omega)]
      cases co:s.ov with
      |true =>
       rw [if_pos rfl]
       by_cases d1:s.cy=[]
       ·have G1:((s.cy.length:Int) > 0)=False:=by simp [d1]
        rw [decide_eq_true d1,Bool.true_and]
        by_cases d2:s.fs=s.ls
        ·have G2:(s.fs==s.ls)=true:=by simp [d2]
         rw [decide_eq_false (fun h=>h d2),Bool.false_and,if_neg Bool.false_ne_true]
         rw [cal_code env21 rfl];simp only [fn21,slAll,Nat.reduceBEq,Nat.reduceLeDiff,Nat.reduceAdd,List.length_cons,List.length_nil]
         simp only [co,e1,Z0,F1,F2,F3,F4,F5,G1,G2,List.length_map,slAll,slsAll,Nat.reduceMul,Nat.reduceBEq,Nat.reduceLT,Nat.reduceLeDiff,memAll,vAll,reduceCtorEq,Nat.reduceEqDiff,Nat.reduceAdd,Nat.reduceLT,Nat.reduceLeDiff,Nat.beq]
        ·have G2:(s.fs==s.ls)=false:=by simp [d2]
         rw [decide_eq_true d2,Bool.true_and]
         cases d3:bmsX s.dt s.sz with
         |true =>
          rw [d3] at e2
          rw [if_pos rfl]
          rw [cal_code env21 rfl];simp only [fn21,slAll,Nat.reduceBEq,Nat.reduceLeDiff,Nat.reduceAdd,List.length_cons,List.length_nil]
          simp only [co,e1,e2,Z0,F1,F2,F3,F4,F5,G1,G2,List.length_map,slAll,slsAll,Nat.reduceMul,Nat.reduceBEq,Nat.reduceLT,Nat.reduceLeDiff,memAll,vAll,reduceCtorEq,Nat.reduceEqDiff,Nat.reduceAdd,Nat.reduceLT,Nat.reduceLeDiff,Nat.beq]
         |false =>
          rw [d3] at e2
          rw [if_neg Bool.false_ne_true]
          rw [cal_code env21 rfl];simp only [fn21,slAll,Nat.reduceBEq,Nat.reduceLeDiff,Nat.reduceAdd,List.length_cons,List.length_nil]
          simp only [co,e1,e2,Z0,F1,F2,F3,F4,F5,G1,G2,List.length_map,slAll,slsAll,Nat.reduceMul,Nat.reduceBEq,Nat.reduceLT,Nat.reduceLeDiff,memAll,vAll,reduceCtorEq,Nat.reduceEqDiff,Nat.reduceAdd,Nat.reduceLT,Nat.reduceLeDiff,Nat.beq]
       ·have G1:((s.cy.length:Int) > 0)=True:=eq_true (by
         have:s.cy.length≠0:=fun e=>d1 (List.eq_nil_of_length_eq_zero e)
         omega)
        rw [decide_eq_false d1,Bool.false_and,if_neg Bool.false_ne_true]
        rw [cal_code env21 rfl];simp only [fn21,slAll,Nat.reduceBEq,Nat.reduceLeDiff,Nat.reduceAdd,List.length_cons,List.length_nil]
        simp only [co,e1,Z0,F1,F2,F3,F4,F5,G1,List.length_map,slAll,slsAll,Nat.reduceMul,Nat.reduceBEq,Nat.reduceLT,Nat.reduceLeDiff,memAll,vAll,reduceCtorEq,Nat.reduceEqDiff,Nat.reduceAdd,Nat.reduceLT,Nat.reduceLeDiff,Nat.beq]
      |false =>
       rw [if_neg Bool.false_ne_true]
       by_cases d1:s.dt=[]
       ·have G1:((s.dt.length:Int) > 0)=False:=by simp [d1]
        rw [decide_eq_true d1,Bool.true_and]
        by_cases d2:(s.cy.length:Int)≤s.lm
        ·have G2:((s.cy.length:Int) > s.lm)=False:=eq_false (by omega)
         rw [decide_eq_true d2,Bool.true_and]
         cases d3:quX s.sz s.fs s.cy s.ls with
         |true =>
          rw [d3] at e3
          rw [if_pos rfl]
          rw [cal_code env21 rfl];simp only [fn21,slAll,Nat.reduceBEq,Nat.reduceLeDiff,Nat.reduceAdd,List.length_cons,List.length_nil]
          simp only [co,e1,e3,Z0,F1,F2,F3,F4,F5,G1,G2,List.length_map,slAll,slsAll,Nat.reduceMul,Nat.reduceBEq,Nat.reduceLT,Nat.reduceLeDiff,memAll,vAll,reduceCtorEq,Nat.reduceEqDiff,Nat.reduceAdd,Nat.reduceLT,Nat.reduceLeDiff,Nat.beq]
         |false =>
          rw [d3] at e3
          rw [if_neg Bool.false_ne_true]
          rw [cal_code env21 rfl];simp only [fn21,slAll,Nat.reduceBEq,Nat.reduceLeDiff,Nat.reduceAdd,List.length_cons,List.length_nil]
          simp only [co,e1,e3,Z0,F1,F2,F3,F4,F5,G1,G2,List.length_map,slAll,slsAll,Nat.reduceMul,Nat.reduceBEq,Nat.reduceLT,Nat.reduceLeDiff,memAll,vAll,reduceCtorEq,Nat.reduceEqDiff,Nat.reduceAdd,Nat.reduceLT,Nat.reduceLeDiff,Nat.beq]
        ·have G2:((s.cy.length:Int) > s.lm)=True:=eq_true (by omega)
         rw [decide_eq_false d2,Bool.false_and,if_neg Bool.false_ne_true]
         rw [cal_code env21 rfl];simp only [fn21,slAll,Nat.reduceBEq,Nat.reduceLeDiff,Nat.reduceAdd,List.length_cons,List.length_nil]
         simp only [co,e1,Z0,F1,F2,F3,F4,F5,G1,G2,List.length_map,slAll,slsAll,Nat.reduceMul,Nat.reduceBEq,Nat.reduceLT,Nat.reduceLeDiff,memAll,vAll,reduceCtorEq,Nat.reduceEqDiff,Nat.reduceAdd,Nat.reduceLT,Nat.reduceLeDiff,Nat.beq]
       ·have G1:((s.dt.length:Int) > 0)=True:=eq_true (by
         have:s.dt.length≠0:=fun e=>d1 (List.eq_nil_of_length_eq_zero e)
         omega)
        rw [decide_eq_false d1,Bool.false_and,if_neg Bool.false_ne_true]
        rw [cal_code env21 rfl];simp only [fn21,slAll,Nat.reduceBEq,Nat.reduceLeDiff,Nat.reduceAdd,List.length_cons,List.length_nil]
        simp only [co,e1,Z0,F1,F2,F3,F4,F5,G1,List.length_map,slAll,slsAll,Nat.reduceMul,Nat.reduceBEq,Nat.reduceLT,Nat.reduceLeDiff,memAll,vAll,reduceCtorEq,Nat.reduceEqDiff,Nat.reduceAdd,Nat.reduceLT,Nat.reduceLeDiff,Nat.beq]
end Go.Proofs.YtpcncggjmabnaaaGreatDoor.V

namespace Go.Proofs.YtpcncggjmabnaaaGreatDoor.V
def bCye (c:Cye):List BV:=[.pv (.int .i64 c.base),.pv (.int .i64 c.num),.pv (.int .i64 c.time),.pv (.list 1 (c.pos.map eI)),.pv (.list 3 (c.ws.map eWr))]
theorem bCye_eq (c:Cye):bCye c=[.pv (.int .i64 c.base),.pv (.int .i64 c.num),.pv (.int .i64 c.time),.pv (.list 1 (c.pos.map eI)),.pv (.list 3 (c.ws.map eWr))]:=rfl
def zCy:List BV:=[.pv (.int .i64 0),.pv (.int .i64 0),.pv (.int .i64 0),.row 1 [],.row 3 []]
theorem zCy_eq:zCy=[.pv (.int .i64 0),.pv (.int .i64 0),.pv (.int .i64 0),.row 1 [],.row 3 []]:=rfl
theorem wTake {l:List Wrt} {i:Nat} (h:i<l.length):(l.take (i+1)).map eWr=(l.take i).map eWr++[.agg [.int .i64 l[i].volume,.int .i64 l[i].start,.list 8 (l[i].data.map eSec)]]:=by
 rw [List.take_succ_eq_append_getElem h,List.map_append];rfl
theorem cTake {l:List Cye} {i:Nat} (h:i<l.length):(l.take (i+1)).map eCye=(l.take i).map eCye++[.agg [.int .i64 l[i].base,.int .i64 l[i].num,.int .i64 l[i].time,.list 1 (l[i].pos.map eI),.list 3 (l[i].ws.map eWr)]]:=by
 rw [List.take_succ_eq_append_getElem h,List.map_append];rfl
theorem bTake {l:List Bm} {i:Nat} (h:i<l.length):(l.take (i+1)).map eBm=(l.take i).map eBm++[.agg [.int .i64 l[i].size,.list 1 (l[i].ws.map eW)]]:=by
 rw [List.take_succ_eq_append_getElem h,List.map_append];rfl
theorem part3 (a b c:PV):part [a,b,c] 0 (some 3)=some (.agg [a,b,c]):=rfl
theorem cal86q {es:List PV} (hl:es.length≤lim):cal env 86 [.list 8 es]=some [(.list 8 es,true)]:=(cal_ext env86).trans (if_pos ⟨rfl,hl⟩)
theorem cal80q {es:List PV} (hl:es.length≤lim):cal env 80 [.list 1 es]=some [(.list 1 es,true)]:=(cal_ext env80).trans (if_pos ⟨rfl,hl⟩)
theorem loop48 {c:Cye} (ho:okCy c) {st:St} (h:st.head [1,2,3,7,8,9,20] st.boxes.length=some ⟨sl 29 [(1,.pbox 0 0),(2,.pbox 1 0),(3,.row 3 ((c.ws.take ((0:Nat))).map eWr)),(7,.pv (.list 3 (c.ws.map eWr))),(8,.pv (.int .i64 c.ws.length)),(9,.pv (.int .i64 (0:Nat))),(20,.any)],[⟨false,bCye c⟩,⟨false,zCy⟩],[],none⟩) :
  den env fn48_l1 st=some (.normal,⟨sl 29 [(1,.pbox 0 0),(2,.pbox 1 0),(3,.row 3 (c.ws.map eWr))],[⟨false,bCye c⟩,⟨false,zCy⟩],[],none⟩):=by
 unfold fn48_l1
 refine clean_up (env:=env) (c.ws.length) (fun i=>⟨sl 29 [(1,.pbox 0 0),(2,.pbox 1 0),(3,.row 3 ((c.ws.take (i)).map eWr)),(7,.pv (.list 3 (c.ws.map eWr))),(8,.pv (.int .i64 c.ws.length)),(9,.pv (.int .i64 i)),(20,.any)],[⟨false,bCye c⟩,⟨false,zCy⟩],[],none⟩) (fun i=>some (.normal,⟨sl 29 [(1,.pbox 0 0),(2,.pbox 1 0),(3,.row 3 (c.ws.map eWr))],[⟨false,bCye c⟩,⟨false,zCy⟩],[],none⟩)) h (fun _=>rfl) (fun _=>by simp only [slAll,slsAll,Nat.reduceMul,Nat.reduceBEq,Nat.reduceLT,Nat.reduceLeDiff,Nat.reduceAdd,decide_true,Bool.and_self,Bool.true_and]) ?_ ?_
 ·intro i rb hi ih
  have h1:=ho.2.1
  have hi1:=i64_next hi (by unfold lim;omega)
  have F1:((i:Int)<(c.ws.length:Int))=True:=eq_true (by omega)
  have q:=ho.2.2 _ (List.getElem_mem hi)
  have e1:=cal86q (es:=c.ws[i].data.map eSec) (by rw [List.length_map];unfold lim;omega)
  have hx:=eWr_at hi
  have F5:((c.ws.take i).length+1≤lim)=True:=eq_true (by rw [List.length_take];unfold lim;omega)
  rw [wTake hi] at ih
  simp only [fn48_b0,F1,F5,e1,hx,part3,bCye_eq,zCy_eq,index_nat hi,List.length_map,slAll,slsAll,Nat.reduceMul,Nat.reduceBEq,Nat.reduceLT,Nat.reduceLeDiff,memAll,vAll,reduceCtorEq,Nat.reduceEqDiff,Nat.reduceAdd,Nat.reduceLT,Nat.reduceLeDiff,Nat.beq] at *
  rw [ih _ (by simp only [hi1,bCye_eq,zCy_eq,slAll,slsAll,Nat.reduceMul,Nat.reduceBEq,Nat.reduceLT,Nat.reduceLeDiff,memAll,vAll,reduceCtorEq,Nat.reduceEqDiff,Nat.reduceAdd,Nat.reduceLT,Nat.reduceLeDiff,Nat.beq]<;>rfl)]
 ·intro rb
  rw [List.take_length]
  simp only [fn48_b0,Int.lt_irrefl,bCye_eq,zCy_eq,List.length_map,slAll,slsAll,Nat.reduceMul,Nat.reduceBEq,Nat.reduceLT,Nat.reduceLeDiff,memAll,vAll,reduceCtorEq,Nat.reduceEqDiff,Nat.reduceAdd,Nat.reduceLT,Nat.reduceLeDiff,Nat.beq]
theorem cal48 {c:Cye} (ho:okCy c):cal env 48 [eCye c]=some [(eCye c,false)]:=by
 have e1:=cal39q (es:=c.pos.map eI) (by have:=ho.1;rw [List.length_map];unfold lim;omega)
 rw [eCye_eq]
 rw [cal_code env48 rfl];simp only [fn48,slAll,Nat.reduceBEq,Nat.reduceLeDiff,Nat.reduceAdd,List.length_cons,List.length_nil]
 simp only [e1,part5,slAll,slsAll,Nat.reduceMul,Nat.reduceBEq,Nat.reduceLT,Nat.reduceLeDiff,memAll,vAll,reduceCtorEq,Nat.reduceEqDiff,Nat.reduceAdd,Nat.reduceLT,Nat.reduceLeDiff,Nat.beq]
 rw [loop48 ho (by simp only [bCye_eq,zCy_eq];simp only [slAll,slsAll,Nat.reduceMul,Nat.reduceBEq,Nat.reduceLT,Nat.reduceLeDiff,Nat.reduceAdd,decide_true,Bool.and_self,Bool.true_and]<;>rfl)]
 simp only [e1,part5,bCye_eq,zCy_eq,slAll,slsAll,Nat.reduceMul,Nat.reduceBEq,Nat.reduceLT,Nat.reduceLeDiff,memAll,vAll,reduceCtorEq,Nat.reduceEqDiff,Nat.reduceAdd,Nat.reduceLT,Nat.reduceLeDiff,Nat.beq]
def zSp:List BV:=[.pv (.int .i64 0),.row 1 [],.row 5 [],.pv (.bool false),.pv (.int .i64 0),.pv (.int .i64 0),.row 2 []]
theorem zSp_eq:zSp=[.pv (.int .i64 0),.row 1 [],.row 5 [],.pv (.bool false),.pv (.int .i64 0),.pv (.int .i64 0),.row 2 []]:=rfl
theorem loop45 {s:Spl} (hq:smQ s) {st:St} (h:st.head [1,2,3,10,11,12,20,37] st.boxes.length=some ⟨sl 48 [(1,.pbox 0 0),(2,.pbox 1 0),(3,.row 5 ((s.cy.take ((0:Nat))).map eCye)),(10,.pv (.list 5 (s.cy.map eCye))),(11,.pv (.int .i64 s.cy.length)),(12,.pv (.int .i64 (0:Nat))),(20,.any),(37,.any)],[⟨false,bSpl s⟩,⟨false,zSp⟩],[],none⟩) :
  den env fn45_l1 st=some (.normal,⟨sl 48 [(1,.pbox 0 0),(2,.pbox 1 0),(3,.row 5 (s.cy.map eCye)),(20,.any),(37,.any)],[⟨false,bSpl s⟩,⟨false,zSp⟩],[],none⟩):=by
 unfold fn45_l1
 refine clean_up (env:=env) (s.cy.length) (fun i=>⟨sl 48 [(1,.pbox 0 0),(2,.pbox 1 0),(3,.row 5 ((s.cy.take (i)).map eCye)),(10,.pv (.list 5 (s.cy.map eCye))),(11,.pv (.int .i64 s.cy.length)),(12,.pv (.int .i64 i)),(20,.any),(37,.any)],[⟨false,bSpl s⟩,⟨false,zSp⟩],[],none⟩) (fun i=>some (.normal,⟨sl 48 [(1,.pbox 0 0),(2,.pbox 1 0),(3,.row 5 (s.cy.map eCye)),(20,.any),(37,.any)],[⟨false,bSpl s⟩,⟨false,zSp⟩],[],none⟩)) h (fun _=>rfl) (fun _=>by simp only [slAll,slsAll,Nat.reduceMul,Nat.reduceBEq,Nat.reduceLT,Nat.reduceLeDiff,Nat.reduceAdd,decide_true,Bool.and_self,Bool.true_and]) ?_ ?_
 ·intro i rb hi ih
  have h1:=hq.cy
  have hi1:=i64_next hi (by unfold lim;omega)
  have F1:((i:Int)<(s.cy.length:Int))=True:=eq_true (by omega)
  have e1:=cal48 (hq.c1 _ (List.getElem_mem hi))
  rw [eCye_eq] at e1
  have hx:=eCye_at hi
  have F5:((s.cy.take i).length+1≤lim)=True:=eq_true (by rw [List.length_take];unfold lim;omega)
  rw [cTake hi] at ih
  simp only [fn45_b0,F1,F5,e1,hx,part5,bSpl_eq,zSp_eq,index_nat hi,List.length_map,slAll,slsAll,Nat.reduceMul,Nat.reduceBEq,Nat.reduceLT,Nat.reduceLeDiff,memAll,vAll,reduceCtorEq,Nat.reduceEqDiff,Nat.reduceAdd,Nat.reduceLT,Nat.reduceLeDiff,Nat.beq] at *
  rw [ih _ (by simp only [hi1,bSpl_eq,zSp_eq,slAll,slsAll,Nat.reduceMul,Nat.reduceBEq,Nat.reduceLT,Nat.reduceLeDiff,memAll,vAll,reduceCtorEq,Nat.reduceEqDiff,Nat.reduceAdd,Nat.reduceLT,Nat.reduceLeDiff,Nat.beq]<;>rfl)]
 ·intro rb
  rw [List.take_length]
  simp only [fn45_b0,Int.lt_irrefl,bSpl_eq,zSp_eq,List.length_map,slAll,slsAll,Nat.reduceMul,Nat.reduceBEq,Nat.reduceLT,Nat.reduceLeDiff,memAll,vAll,reduceCtorEq,Nat.reduceEqDiff,Nat.reduceAdd,Nat.reduceLT,Nat.reduceLeDiff,Nat.beq]
theorem loop45l3 {s:Spl} (hq:smQ s) {L:List PV} {st:St} (h:st.head [1,2,3,6,20,23,24,25,37] st.boxes.length=some ⟨sl 48 [(1,.pbox 0 0),(2,.pbox 1 0),(3,.row 5 L),(6,.row 2 ((s.dt.take ((0:Nat))).map eBm)),(20,.any),(23,.pv (.list 2 (s.dt.map eBm))),(24,.pv (.int .i64 s.dt.length)),(25,.pv (.int .i64 (0:Nat))),(37,.any)],[⟨false,bSpl s⟩,⟨false,zSp⟩],[],none⟩) :
  den env fn45_l3 st=some (.normal,⟨sl 48 [(1,.pbox 0 0),(2,.pbox 1 0),(3,.row 5 L),(6,.row 2 (s.dt.map eBm))],[⟨false,bSpl s⟩,⟨false,zSp⟩],[],none⟩):=by
 unfold fn45_l3
 refine clean_up (env:=env) (s.dt.length) (fun i=>⟨sl 48 [(1,.pbox 0 0),(2,.pbox 1 0),(3,.row 5 L),(6,.row 2 ((s.dt.take (i)).map eBm)),(20,.any),(23,.pv (.list 2 (s.dt.map eBm))),(24,.pv (.int .i64 s.dt.length)),(25,.pv (.int .i64 i)),(37,.any)],[⟨false,bSpl s⟩,⟨false,zSp⟩],[],none⟩) (fun i=>some (.normal,⟨sl 48 [(1,.pbox 0 0),(2,.pbox 1 0),(3,.row 5 L),(6,.row 2 (s.dt.map eBm))],[⟨false,bSpl s⟩,⟨false,zSp⟩],[],none⟩)) h (fun _=>rfl) (fun _=>by simp only [slAll,slsAll,Nat.reduceMul,Nat.reduceBEq,Nat.reduceLT,Nat.reduceLeDiff,Nat.reduceAdd,decide_true,Bool.and_self,Bool.true_and]) ?_ ?_
 ·intro i rb hi ih
  have h1:=hq.dt
  have hi1:=i64_next hi (by unfold lim;omega)
  have F1:((i:Int)<(s.dt.length:Int))=True:=eq_true (by omega)
  have q:=hq.d1 _ (List.getElem_mem hi)
  have e1:=cal80q (es:=s.dt[i].ws.map eW) (by rw [List.length_map];unfold lim;omega)
  have hx:=eBm_at24 hi
  have F5:((s.dt.take i).length+1≤lim)=True:=eq_true (by rw [List.length_take];unfold lim;omega)
  rw [bTake hi] at ih
  simp only [fn45_b2,F1,F5,e1,hx,part2,bSpl_eq,zSp_eq,index_nat hi,List.length_map,slAll,slsAll,Nat.reduceMul,Nat.reduceBEq,Nat.reduceLT,Nat.reduceLeDiff,memAll,vAll,reduceCtorEq,Nat.reduceEqDiff,Nat.reduceAdd,Nat.reduceLT,Nat.reduceLeDiff,Nat.beq] at *
  rw [ih _ (by simp only [hi1,bSpl_eq,zSp_eq,slAll,slsAll,Nat.reduceMul,Nat.reduceBEq,Nat.reduceLT,Nat.reduceLeDiff,memAll,vAll,reduceCtorEq,Nat.reduceEqDiff,Nat.reduceAdd,Nat.reduceLT,Nat.reduceLeDiff,Nat.beq]<;>rfl)]
 ·intro rb
  rw [List.take_length]
  simp only [fn45_b2,Int.lt_irrefl,bSpl_eq,zSp_eq,List.length_map,slAll,slsAll,Nat.reduceMul,Nat.reduceBEq,Nat.reduceLT,Nat.reduceLeDiff,memAll,vAll,reduceCtorEq,Nat.reduceEqDiff,Nat.reduceAdd,Nat.reduceLT,Nat.reduceLeDiff,Nat.beq]
theorem cal45 {s:Spl} (hq:smQ s):cal env 45 [eSpl s]=some [(eSpl s,true)]:=by
 have e1:=cal39q (es:=s.sz.map eI) (by have:=hq.sz;rw [List.length_map];unfold lim;omega)
 rw [eSpl_eq]
 rw [cal_code env45 rfl];simp only [fn45,slAll,Nat.reduceBEq,Nat.reduceLeDiff,Nat.reduceAdd,List.length_cons,List.length_nil]
 simp only [e1,part7,slAll,slsAll,Nat.reduceMul,Nat.reduceBEq,Nat.reduceLT,Nat.reduceLeDiff,memAll,vAll,reduceCtorEq,Nat.reduceEqDiff,Nat.reduceAdd,Nat.reduceLT,Nat.reduceLeDiff,Nat.beq]
 rw [loop45 hq (by simp only [bSpl_eq,zSp_eq];simp only [slAll,slsAll,Nat.reduceMul,Nat.reduceBEq,Nat.reduceLT,Nat.reduceLeDiff,Nat.reduceAdd,decide_true,Bool.and_self,Bool.true_and]<;>rfl)]
 simp only [bSpl_eq,zSp_eq,slAll,slsAll,Nat.reduceMul,Nat.reduceBEq,Nat.reduceLT,Nat.reduceLeDiff,memAll,vAll,reduceCtorEq,Nat.reduceEqDiff,Nat.reduceAdd,Nat.reduceLT,Nat.reduceLeDiff,Nat.beq]
 rw [loop45l3 hq (by simp only [bSpl_eq,zSp_eq];simp only [slAll,slsAll,Nat.reduceMul,Nat.reduceBEq,Nat.reduceLT,Nat.reduceLeDiff,Nat.reduceAdd,decide_true,Bool.and_self,Bool.true_and]<;>rfl)]
 simp only [e1,part7,bSpl_eq,zSp_eq,slAll,slsAll,Nat.reduceMul,Nat.reduceBEq,Nat.reduceLT,Nat.reduceLeDiff,memAll,vAll,reduceCtorEq,Nat.reduceEqDiff,Nat.reduceAdd,Nat.reduceLT,Nat.reduceLeDiff,Nat.beq]
end Go.Proofs.YtpcncggjmabnaaaGreatDoor.V

namespace Go.Proofs.YtpcncggjmabnaaaGreatDoor.V
def bmFit (size:Int) (e:Exn):Bool:=decide (0≤e.start)&&decide (0≤e.count)&&decide (e.start≤size)&&decide (e.count≤size - e.start)
end Go.Proofs.YtpcncggjmabnaaaGreatDoor.V

namespace Go.Proofs.YtpcncggjmabnaaaGreatDoor.V
end Go.Proofs.YtpcncggjmabnaaaGreatDoor.V

namespace Go.Proofs.YtpcncggjmabnaaaGreatDoor.V
end Go.Proofs.YtpcncggjmabnaaaGreatDoor.V

namespace Go.Proofs.YtpcncggjmabnaaaGreatDoor.V
def inE (e:Exn) (s:Nat):Bool:=decide (0<e.count)&&(decide (e.start≤(s:Int))&&decide ((s:Int)<e.start+e.count))
end Go.Proofs.YtpcncggjmabnaaaGreatDoor.V

namespace Go.Proofs
open Go.Shelf
def Tryz.sortEnd_ren:Go.Shelf.Ren:=⟨fun|6=>136|15=>140|14=>139|28=>150|29=>151|20=>142|21=>143|22=>144|23=>145|24=>146|25=>147|26=>148|27=>149|46=>152|47=>153|48=>154|49=>155|50=>156|57=>157|n=>n,fun|22=>188|24=>192|25=>198|3=>3|39=>176|0=>0|53=>209|55=>134|4=>4|46=>203|45=>202|50=>119|5=>5|9=>9|66=>210|70=>214|76=>216|77=>217|n=>n,fun|n=>n⟩
theorem Tryz.sortEnd:Go.Proofs.SlLaysF0.n6 Tryz.prog Tryz.sortEnd_ren:={
 mixed:=by kernel_rfl
 f6:=⟨Tryz.f136.name,by decide,Tryz.func136.trans (congrArg some (by kernel_rfl))⟩
 f14:=⟨Tryz.f139.name,by decide,Tryz.func139.trans (congrArg some (by kernel_rfl))⟩
 f15:=Tryz.func140.trans (congrArg some (by kernel_rfl))
 f20:=⟨Tryz.f142.name,by decide,Tryz.func142.trans (congrArg some (by kernel_rfl))⟩
 f21:=⟨Tryz.f143.name,by decide,Tryz.func143.trans (congrArg some (by kernel_rfl))⟩
 f22:=⟨Tryz.f144.name,by decide,Tryz.func144.trans (congrArg some (by kernel_rfl))⟩
 f23:=⟨Tryz.f145.name,by decide,Tryz.func145.trans (congrArg some (by kernel_rfl))⟩
 f24:=⟨Tryz.f146.name,by decide,Tryz.func146.trans (congrArg some (by kernel_rfl))⟩
 f25:=⟨Tryz.f147.name,by decide,Tryz.func147.trans (congrArg some (by kernel_rfl))⟩
 f26:=⟨Tryz.f148.name,by decide,Tryz.func148.trans (congrArg some (by kernel_rfl))⟩
 f27:=⟨Tryz.f149.name,by decide,Tryz.func149.trans (congrArg some (by kernel_rfl))⟩
 f28:=Tryz.func150.trans (congrArg some (by kernel_rfl))
 f29:=Tryz.func151.trans (congrArg some (by kernel_rfl))
 f46:=⟨Tryz.f152.name,by decide,Tryz.func152.trans (congrArg some (by kernel_rfl))⟩
 f47:=Tryz.func153.trans (congrArg some (by kernel_rfl))
 f48:=Tryz.func154.trans (congrArg some (by kernel_rfl))
 f49:=⟨Tryz.f155.name,by decide,Tryz.func155.trans (congrArg some (by kernel_rfl))⟩
 f50:=⟨Tryz.f156.name,by decide,Tryz.func156.trans (congrArg some (by kernel_rfl))⟩
 f57:=⟨Tryz.f157.name,by decide,Tryz.func157.trans (congrArg some (by kernel_rfl))⟩
 t0:=Tryz.underlying0
 a0:=Tryz.isAgg0
 z0:=Tryz.sizeOf0
 v0:=Tryz.zeroValue0
 t3:=Tryz.underlying3
 a3:=Tryz.isAgg3
 z3:=Tryz.sizeOf3
 v3:=Tryz.zeroValue3
 t4:=Tryz.underlying4
 a4:=Tryz.isAgg4
 z4:=Tryz.sizeOf4
 v4:=Tryz.zeroValue4
 t5:=Tryz.underlying5
 a5:=Tryz.isAgg5
 z5:=Tryz.sizeOf5
 v5:=Tryz.zeroValue5
 t9:=Tryz.underlying9
 a9:=Tryz.isAgg9
 z9:=Tryz.sizeOf9
 v9:=Tryz.zeroValue9
 t22:=Tryz.underlying188
 a22:=Tryz.isAgg188
 z22:=Tryz.sizeOf188
 v22:=Tryz.zeroValue188
 t25:=Tryz.underlying198
 a25:=Tryz.isAgg198
 z25:=Tryz.sizeOf198
 v25:=Tryz.zeroValue198
 t39:=Tryz.underlying176
 a39:=Tryz.isAgg176
 z39:=Tryz.sizeOf176
 v39:=Tryz.zeroValue176
 t45:=Tryz.underlying202
 a45:=Tryz.isAgg202
 z45:=Tryz.sizeOf202
 v45:=Tryz.zeroValue202
 t46:=Tryz.underlying203
 a46:=Tryz.isAgg203
 z46:=Tryz.sizeOf203
 v46:=Tryz.zeroValue203
 t50:=Tryz.underlying119
 a50:=Tryz.isAgg119
 z50:=Tryz.sizeOf119
 v50:=Tryz.zeroValue119
 t53:=Tryz.underlying209
 a53:=Tryz.isAgg209
 z53:=Tryz.sizeOf209
 v53:=Tryz.zeroValue209
 t55:=Tryz.underlying134
 a55:=Tryz.isAgg134
 z55:=Tryz.sizeOf134
 v55:=Tryz.zeroValue134
 t66:=Tryz.underlying210
 a66:=Tryz.isAgg210
 z66:=Tryz.sizeOf210
 v66:=Tryz.zeroValue210
 t70:=Tryz.underlying214
 a70:=Tryz.isAgg214
 z70:=Tryz.sizeOf214
 v70:=Tryz.zeroValue214
 t76:=Tryz.underlying216
 a76:=Tryz.isAgg216
 z76:=Tryz.sizeOf216
 v76:=Tryz.zeroValue216
 t77:=Tryz.underlying217
 a77:=Tryz.isAgg217
 z77:=Tryz.sizeOf217
 v77:=Tryz.zeroValue217 }
def Tryz.cmpInt_ren:Go.Shelf.Ren:=⟨fun|5=>138|7=>141|n=>n,fun|22=>3|3=>3|4=>4|n=>n,fun|n=>n⟩
theorem Tryz.cmpInt:Go.Proofs.SlLaysC2.n5 Tryz.prog Tryz.cmpInt_ren:={
 mixed:=by kernel_rfl
 f5:=⟨Tryz.f138.name,by decide,Tryz.func138.trans (congrArg some (by kernel_rfl))⟩
 f7:=⟨Tryz.f141.name,by decide,Tryz.func141.trans (congrArg some (by kernel_rfl))⟩
 t3:=Tryz.underlying3
 a3:=Tryz.isAgg3
 z3:=Tryz.sizeOf3
 v3:=Tryz.zeroValue3
 t4:=Tryz.underlying4
 a4:=Tryz.isAgg4
 z4:=Tryz.sizeOf4
 v4:=Tryz.zeroValue4
 t22:=Tryz.underlying3
 a22:=Tryz.isAgg3
 z22:=Tryz.sizeOf3
 v22:=Tryz.zeroValue3 }
end Go.Proofs
