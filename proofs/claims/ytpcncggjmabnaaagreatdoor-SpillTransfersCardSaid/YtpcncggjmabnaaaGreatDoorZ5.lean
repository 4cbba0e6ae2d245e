/-
  Part 5 of the texts that the statement stands on.
-/
import Derived.Test.YtpcncggjmabnaaaGreatDoorZ4
import Derived.Test.YtpcncggjmabnaaaGreatDoorProg
import Derived.Shelf.SlSortCmp.WholeK
import Derived.Shelf.SlSortCmp.NoneTotal
import Derived.Shelf.SlicesG.Cmp
import Derived.Shelf.Small.Bits
import Derived.Ground.SlsfProg
import Derived.Ground.SlgcProg
import Derived.Ground.NamesProg
set_option linter.all false
namespace Go.Proofs.YtpcncggjmabnaaaGreatDoor.V
theorem aw0:cal env 11 [(.list 1 [(.int .i64 4)]),(.int .i64 2)]=some [((.agg [(.int .i64 2),(.list 1 [(.int .i64 4)]),(.list 5 []),(.bool false),(.int .i64 0),(.int .i64 0),(.list 2 [])]),false),((.int .i64 0),false)]:=dM (n:=400) (by kernel_rfl)
theorem aw1:cal env 36 [(.int .i64 0),(.int .i64 1),(.int .i64 0),(.int .u8 1)]=some [((.agg [(.int .i64 0),(.int .i64 1),(.int .i64 0),(.list 1 []),(.list 3 [(.agg [(.int .i64 0),(.int .i64 0),(.list 8 [(.agg [(.int .u8 1),(.int .u8 0),(.int .u8 0),(.int .u8 0),(.int .u8 0),(.int .u8 0),(.int .u8 0),(.int .u8 0)])])])])]),false)]:=dM (n:=400) (by kernel_rfl)
theorem aw2:cal env 16 [(.agg [(.int .i64 2),(.list 1 [(.int .i64 4)]),(.list 5 []),(.bool false),(.int .i64 0),(.int .i64 0),(.list 2 [])]),(.agg [(.int .i64 0),(.int .i64 1),(.int .i64 0),(.list 1 []),(.list 3 [(.agg [(.int .i64 0),(.int .i64 0),(.list 8 [(.agg [(.int .u8 1),(.int .u8 0),(.int .u8 0),(.int .u8 0),(.int .u8 0),(.int .u8 0),(.int .u8 0),(.int .u8 0)])])])])])]=some [((.agg [(.int .i64 2),(.list 1 [(.int .i64 4)]),(.list 5 [(.agg [(.int .i64 0),(.int .i64 1),(.int .i64 0),(.list 1 []),(.list 3 [(.agg [(.int .i64 0),(.int .i64 0),(.list 8 [(.agg [(.int .u8 1),(.int .u8 0),(.int .u8 0),(.int .u8 0),(.int .u8 0),(.int .u8 0),(.int .u8 0),(.int .u8 0)])])])])])]),(.bool false),(.int .i64 0),(.int .i64 1),(.list 2 [])]),false),((.int .i64 0),false)]:=dM (n:=400) (by kernel_rfl)
theorem aw3:cal env 36 [(.int .i64 1),(.int .i64 2),(.int .i64 1),(.int .u8 2)]=some [((.agg [(.int .i64 1),(.int .i64 2),(.int .i64 0),(.list 1 []),(.list 3 [(.agg [(.int .i64 0),(.int .i64 1),(.list 8 [(.agg [(.int .u8 2),(.int .u8 0),(.int .u8 0),(.int .u8 0),(.int .u8 0),(.int .u8 0),(.int .u8 0),(.int .u8 0)])])])])]),false)]:=dM (n:=400) (by kernel_rfl)
theorem aw4:cal env 16 [(.agg [(.int .i64 2),(.list 1 [(.int .i64 4)]),(.list 5 [(.agg [(.int .i64 0),(.int .i64 1),(.int .i64 0),(.list 1 []),(.list 3 [(.agg [(.int .i64 0),(.int .i64 0),(.list 8 [(.agg [(.int .u8 1),(.int .u8 0),(.int .u8 0),(.int .u8 0),(.int .u8 0),(.int .u8 0),(.int .u8 0),(.int .u8 0)])])])])])]),(.bool false),(.int .i64 0),(.int .i64 1),(.list 2 [])]),(.agg [(.int .i64 1),(.int .i64 2),(.int .i64 0),(.list 1 []),(.list 3 [(.agg [(.int .i64 0),(.int .i64 1),(.list 8 [(.agg [(.int .u8 2),(.int .u8 0),(.int .u8 0),(.int .u8 0),(.int .u8 0),(.int .u8 0),(.int .u8 0),(.int .u8 0)])])])])])]=some [((.agg [(.int .i64 2),(.list 1 [(.int .i64 4)]),(.list 5 [(.agg [(.int .i64 0),(.int .i64 1),(.int .i64 0),(.list 1 []),(.list 3 [(.agg [(.int .i64 0),(.int .i64 0),(.list 8 [(.agg [(.int .u8 1),(.int .u8 0),(.int .u8 0),(.int .u8 0),(.int .u8 0),(.int .u8 0),(.int .u8 0),(.int .u8 0)])])])])]),(.agg [(.int .i64 1),(.int .i64 2),(.int .i64 0),(.list 1 []),(.list 3 [(.agg [(.int .i64 0),(.int .i64 1),(.list 8 [(.agg [(.int .u8 2),(.int .u8 0),(.int .u8 0),(.int .u8 0),(.int .u8 0),(.int .u8 0),(.int .u8 0),(.int .u8 0)])])])])])]),(.bool false),(.int .i64 0),(.int .i64 2),(.list 2 [])]),false),((.int .i64 0),false)]:=dM (n:=400) (by kernel_rfl)
theorem aw5:cal env 36 [(.int .i64 2),(.int .i64 3),(.int .i64 3),(.int .u8 9)]=some [((.agg [(.int .i64 2),(.int .i64 3),(.int .i64 0),(.list 1 []),(.list 3 [(.agg [(.int .i64 0),(.int .i64 3),(.list 8 [(.agg [(.int .u8 9),(.int .u8 0),(.int .u8 0),(.int .u8 0),(.int .u8 0),(.int .u8 0),(.int .u8 0),(.int .u8 0)])])])])]),false)]:=dM (n:=400) (by kernel_rfl)
theorem aw6:cal env 16 [(.agg [(.int .i64 2),(.list 1 [(.int .i64 4)]),(.list 5 [(.agg [(.int .i64 0),(.int .i64 1),(.int .i64 0),(.list 1 []),(.list 3 [(.agg [(.int .i64 0),(.int .i64 0),(.list 8 [(.agg [(.int .u8 1),(.int .u8 0),(.int .u8 0),(.int .u8 0),(.int .u8 0),(.int .u8 0),(.int .u8 0),(.int .u8 0)])])])])]),(.agg [(.int .i64 1),(.int .i64 2),(.int .i64 0),(.list 1 []),(.list 3 [(.agg [(.int .i64 0),(.int .i64 1),(.list 8 [(.agg [(.int .u8 2),(.int .u8 0),(.int .u8 0),(.int .u8 0),(.int .u8 0),(.int .u8 0),(.int .u8 0),(.int .u8 0)])])])])])]),(.bool false),(.int .i64 0),(.int .i64 2),(.list 2 [])]),(.agg [(.int .i64 2),(.int .i64 3),(.int .i64 0),(.list 1 []),(.list 3 [(.agg [(.int .i64 0),(.int .i64 3),(.list 8 [(.agg [(.int .u8 9),(.int .u8 0),(.int .u8 0),(.int .u8 0),(.int .u8 0),(.int .u8 0),(.int .u8 0),(.int .u8 0)])])])])])]=some [((.agg [(.int .i64 2),(.list 1 [(.int .i64 4)]),(.list 5 []),(.bool true),(.int .i64 0),(.int .i64 3),(.list 2 [(.agg [(.int .i64 4),(.list 1 [(.int .u64 11)])])])]),false),((.int .i64 0),false)]:=dM (n:=400) (by kernel_rfl)
theorem aw7:cal env 26 [(.agg [(.int .i64 2),(.list 1 [(.int .i64 4)]),(.list 5 []),(.bool true),(.int .i64 0),(.int .i64 3),(.list 2 [(.agg [(.int .i64 4),(.list 1 [(.int .u64 11)])])])]),(.list 1 [(.list 8 [(.agg [(.int .u8 1),(.int .u8 0),(.int .u8 0),(.int .u8 0),(.int .u8 0),(.int .u8 0),(.int .u8 0),(.int .u8 0)]),(.agg [(.int .u8 2),(.int .u8 0),(.int .u8 0),(.int .u8 0),(.int .u8 0),(.int .u8 0),(.int .u8 0),(.int .u8 0)]),(.agg [(.int .u8 0),(.int .u8 0),(.int .u8 0),(.int .u8 0),(.int .u8 0),(.int .u8 0),(.int .u8 0),(.int .u8 0)]),(.agg [(.int .u8 9),(.int .u8 0),(.int .u8 0),(.int .u8 0),(.int .u8 0),(.int .u8 0),(.int .u8 0),(.int .u8 0)])])]),(.int .i64 5)]=some [((.agg [(.int .i64 2),(.list 1 [(.int .i64 4)]),(.list 5 [(.agg [(.int .i64 0),(.int .i64 3),(.int .i64 5),(.list 1 []),(.list 3 [(.agg [(.int .i64 0),(.int .i64 0),(.list 8 [(.agg [(.int .u8 1),(.int .u8 0),(.int .u8 0),(.int .u8 0),(.int .u8 0),(.int .u8 0),(.int .u8 0),(.int .u8 0)]),(.agg [(.int .u8 2),(.int .u8 0),(.int .u8 0),(.int .u8 0),(.int .u8 0),(.int .u8 0),(.int .u8 0),(.int .u8 0)])])]),(.agg [(.int .i64 0),(.int .i64 3),(.list 8 [(.agg [(.int .u8 9),(.int .u8 0),(.int .u8 0),(.int .u8 0),(.int .u8 0),(.int .u8 0),(.int .u8 0),(.int .u8 0)])])])])])]),(.bool false),(.int .i64 0),(.int .i64 3),(.list 2 [])]),false),((.agg [(.int .i64 0),(.int .i64 3),(.int .i64 5),(.list 1 []),(.list 3 [(.agg [(.int .i64 0),(.int .i64 0),(.list 8 [(.agg [(.int .u8 1),(.int .u8 0),(.int .u8 0),(.int .u8 0),(.int .u8 0),(.int .u8 0),(.int .u8 0),(.int .u8 0)]),(.agg [(.int .u8 2),(.int .u8 0),(.int .u8 0),(.int .u8 0),(.int .u8 0),(.int .u8 0),(.int .u8 0),(.int .u8 0)])])]),(.agg [(.int .i64 0),(.int .i64 3),(.list 8 [(.agg [(.int .u8 9),(.int .u8 0),(.int .u8 0),(.int .u8 0),(.int .u8 0),(.int .u8 0),(.int .u8 0),(.int .u8 0)])])])])]),false),((.int .i64 0),false)]:=dM (n:=400) (by kernel_rfl)
theorem aw8:cal env 23 [(.agg [(.int .i64 2),(.list 1 [(.int .i64 4)]),(.list 5 [(.agg [(.int .i64 0),(.int .i64 1),(.int .i64 0),(.list 1 []),(.list 3 [(.agg [(.int .i64 0),(.int .i64 0),(.list 8 [(.agg [(.int .u8 1),(.int .u8 0),(.int .u8 0),(.int .u8 0),(.int .u8 0),(.int .u8 0),(.int .u8 0),(.int .u8 0)])])])])]),(.agg [(.int .i64 1),(.int .i64 2),(.int .i64 0),(.list 1 []),(.list 3 [(.agg [(.int .i64 0),(.int .i64 1),(.list 8 [(.agg [(.int .u8 2),(.int .u8 0),(.int .u8 0),(.int .u8 0),(.int .u8 0),(.int .u8 0),(.int .u8 0),(.int .u8 0)])])])])])]),(.bool false),(.int .i64 0),(.int .i64 2),(.list 2 [])]),(.int .i64 1)]=some [((.agg [(.int .i64 2),(.list 1 [(.int .i64 4)]),(.list 5 [(.agg [(.int .i64 1),(.int .i64 2),(.int .i64 0),(.list 1 []),(.list 3 [(.agg [(.int .i64 0),(.int .i64 1),(.list 8 [(.agg [(.int .u8 2),(.int .u8 0),(.int .u8 0),(.int .u8 0),(.int .u8 0),(.int .u8 0),(.int .u8 0),(.int .u8 0)])])])])])]),(.bool false),(.int .i64 1),(.int .i64 2),(.list 2 [])]),false),((.int .i64 0),false)]:=dM (n:=400) (by kernel_rfl)
theorem aw9:cal env 16 [(.agg [(.int .i64 2),(.list 1 [(.int .i64 4)]),(.list 5 [(.agg [(.int .i64 1),(.int .i64 2),(.int .i64 0),(.list 1 []),(.list 3 [(.agg [(.int .i64 0),(.int .i64 1),(.list 8 [(.agg [(.int .u8 2),(.int .u8 0),(.int .u8 0),(.int .u8 0),(.int .u8 0),(.int .u8 0),(.int .u8 0),(.int .u8 0)])])])])])]),(.bool false),(.int .i64 1),(.int .i64 2),(.list 2 [])]),(.agg [(.int .i64 2),(.int .i64 3),(.int .i64 0),(.list 1 []),(.list 3 [(.agg [(.int .i64 0),(.int .i64 3),(.list 8 [(.agg [(.int .u8 9),(.int .u8 0),(.int .u8 0),(.int .u8 0),(.int .u8 0),(.int .u8 0),(.int .u8 0),(.int .u8 0)])])])])])]=some [((.agg [(.int .i64 2),(.list 1 [(.int .i64 4)]),(.list 5 [(.agg [(.int .i64 1),(.int .i64 2),(.int .i64 0),(.list 1 []),(.list 3 [(.agg [(.int .i64 0),(.int .i64 1),(.list 8 [(.agg [(.int .u8 2),(.int .u8 0),(.int .u8 0),(.int .u8 0),(.int .u8 0),(.int .u8 0),(.int .u8 0),(.int .u8 0)])])])])]),(.agg [(.int .i64 2),(.int .i64 3),(.int .i64 0),(.list 1 []),(.list 3 [(.agg [(.int .i64 0),(.int .i64 3),(.list 8 [(.agg [(.int .u8 9),(.int .u8 0),(.int .u8 0),(.int .u8 0),(.int .u8 0),(.int .u8 0),(.int .u8 0),(.int .u8 0)])])])])])]),(.bool false),(.int .i64 1),(.int .i64 3),(.list 2 [])]),false),((.int .i64 0),false)]:=dM (n:=400) (by kernel_rfl)
theorem af4:cal env 18 [(.agg [(.int .i64 2),(.list 1 [(.int .i64 4)]),(.list 5 [(.agg [(.int .i64 1),(.int .i64 2),(.int .i64 0),(.list 1 []),(.list 3 [(.agg [(.int .i64 0),(.int .i64 1),(.list 8 [(.agg [(.int .u8 2),(.int .u8 0),(.int .u8 0),(.int .u8 0),(.int .u8 0),(.int .u8 0),(.int .u8 0),(.int .u8 0)])])])])]),(.agg [(.int .i64 2),(.int .i64 3),(.int .i64 0),(.list 1 []),(.list 3 [(.agg [(.int .i64 0),(.int .i64 3),(.list 8 [(.agg [(.int .u8 9),(.int .u8 0),(.int .u8 0),(.int .u8 0),(.int .u8 0),(.int .u8 0),(.int .u8 0),(.int .u8 0)])])])])])]),(.bool false),(.int .i64 1),(.int .i64 3),(.list 2 [])])]=some [((.agg [(.int .i64 1),(.int .i64 2),(.int .i64 0),(.list 1 []),(.list 3 [(.agg [(.int .i64 0),(.int .i64 1),(.list 8 [(.agg [(.int .u8 2),(.int .u8 0),(.int .u8 0),(.int .u8 0),(.int .u8 0),(.int .u8 0),(.int .u8 0),(.int .u8 0)])])])])]),false),((.bool true),false)]:=dM (n:=400) (by kernel_rfl)
theorem af5:cal env 37 [(.list 3 [(.agg [(.int .i64 0),(.int .i64 0),(.list 8 [(.agg [(.int .u8 1),(.int .u8 0),(.int .u8 0),(.int .u8 0),(.int .u8 0),(.int .u8 0),(.int .u8 0),(.int .u8 0)]),(.agg [(.int .u8 2),(.int .u8 0),(.int .u8 0),(.int .u8 0),(.int .u8 0),(.int .u8 0),(.int .u8 0),(.int .u8 0)])])]),(.agg [(.int .i64 0),(.int .i64 3),(.list 8 [(.agg [(.int .u8 9),(.int .u8 0),(.int .u8 0),(.int .u8 0),(.int .u8 0),(.int .u8 0),(.int .u8 0),(.int .u8 0)])])])]),(.list 3 [(.agg [(.int .i64 0),(.int .i64 0),(.list 8 [(.agg [(.int .u8 1),(.int .u8 0),(.int .u8 0),(.int .u8 0),(.int .u8 0),(.int .u8 0),(.int .u8 0),(.int .u8 0)]),(.agg [(.int .u8 2),(.int .u8 0),(.int .u8 0),(.int .u8 0),(.int .u8 0),(.int .u8 0),(.int .u8 0),(.int .u8 0)])])]),(.agg [(.int .i64 0),(.int .i64 3),(.list 8 [(.agg [(.int .u8 9),(.int .u8 0),(.int .u8 0),(.int .u8 0),(.int .u8 0),(.int .u8 0),(.int .u8 0),(.int .u8 0)])])])])]=some [((.bool true),false)]:=dM (n:=400) (by kernel_rfl)
theorem scS (k1 k2 k3 s1 s2 s3 a b c l1 l2 l3 x):(PV.agg [.int k1 a,.list s1 l1,.list s2 l2,.bool x,.int k2 b,.int k3 c,.list s3 l3]).scalar=false:=rfl
theorem scW (k k2 s1 a b l1):(PV.agg [.int k a,.int k2 b,.list s1 l1]).scalar=false:=rfl
theorem scB (k s1 a l1):(PV.agg [.int k a,.list s1 l1]).scalar=false:=rfl
theorem scC (k1 k2 k3 s1 s2 a b c l1 l2):(PV.agg [.int k1 a,.int k2 b,.int k3 c,.list s1 l1,.list s2 l2]).scalar=false:=rfl
theorem w00:IntKind.i64.wrap 0=0:=by decide
def awQ:Nat→List BV
 |0=>[.pv (.int .i64 2),.pv (.list 1 [(.int .i64 4)]),.pv (.list 5 []),.pv (.bool false),.pv (.int .i64 0),.pv (.int .i64 0),.pv (.list 2 [])]
 |1=>[.pv (.int .i64 2),.pv (.list 1 [(.int .i64 4)]),.pv (.list 5 [(.agg [(.int .i64 0),(.int .i64 1),(.int .i64 0),(.list 1 []),(.list 3 [(.agg [(.int .i64 0),(.int .i64 0),(.list 8 [(.agg [(.int .u8 1),(.int .u8 0),(.int .u8 0),(.int .u8 0),(.int .u8 0),(.int .u8 0),(.int .u8 0),(.int .u8 0)])])])])])]),.pv (.bool false),.pv (.int .i64 0),.pv (.int .i64 1),.pv (.list 2 [])]
 |_=>[.pv (.int .i64 2),.pv (.list 1 [(.int .i64 4)]),.pv (.list 5 [(.agg [(.int .i64 0),(.int .i64 1),(.int .i64 0),(.list 1 []),(.list 3 [(.agg [(.int .i64 0),(.int .i64 0),(.list 8 [(.agg [(.int .u8 1),(.int .u8 0),(.int .u8 0),(.int .u8 0),(.int .u8 0),(.int .u8 0),(.int .u8 0),(.int .u8 0)])])])])]),(.agg [(.int .i64 1),(.int .i64 2),(.int .i64 0),(.list 1 []),(.list 3 [(.agg [(.int .i64 0),(.int .i64 1),(.list 8 [(.agg [(.int .u8 2),(.int .u8 0),(.int .u8 0),(.int .u8 0),(.int .u8 0),(.int .u8 0),(.int .u8 0),(.int .u8 0)])])])])])]),.pv (.bool false),.pv (.int .i64 0),.pv (.int .i64 2),.pv (.list 2 [])]
theorem al0:awQ 0=[.pv (.int .i64 2),.pv (.list 1 [(.int .i64 4)]),.pv (.list 5 []),.pv (.bool false),.pv (.int .i64 0),.pv (.int .i64 0),.pv (.list 2 [])]:=rfl
theorem al1:awQ 1=[.pv (.int .i64 2),.pv (.list 1 [(.int .i64 4)]),.pv (.list 5 [(.agg [(.int .i64 0),(.int .i64 1),(.int .i64 0),(.list 1 []),(.list 3 [(.agg [(.int .i64 0),(.int .i64 0),(.list 8 [(.agg [(.int .u8 1),(.int .u8 0),(.int .u8 0),(.int .u8 0),(.int .u8 0),(.int .u8 0),(.int .u8 0),(.int .u8 0)])])])])])]),.pv (.bool false),.pv (.int .i64 0),.pv (.int .i64 1),.pv (.list 2 [])]:=rfl
theorem al2:awQ 2=[.pv (.int .i64 2),.pv (.list 1 [(.int .i64 4)]),.pv (.list 5 [(.agg [(.int .i64 0),(.int .i64 1),(.int .i64 0),(.list 1 []),(.list 3 [(.agg [(.int .i64 0),(.int .i64 0),(.list 8 [(.agg [(.int .u8 1),(.int .u8 0),(.int .u8 0),(.int .u8 0),(.int .u8 0),(.int .u8 0),(.int .u8 0),(.int .u8 0)])])])])]),(.agg [(.int .i64 1),(.int .i64 2),(.int .i64 0),(.list 1 []),(.list 3 [(.agg [(.int .i64 0),(.int .i64 1),(.list 8 [(.agg [(.int .u8 2),(.int .u8 0),(.int .u8 0),(.int .u8 0),(.int .u8 0),(.int .u8 0),(.int .u8 0),(.int .u8 0)])])])])])]),.pv (.bool false),.pv (.int .i64 0),.pv (.int .i64 2),.pv (.list 2 [])]:=rfl
set_option maxRecDepth 20000 in
theorem aji (_:True) {st:St} (h:st.head [1,2,3] st.boxes.length=some ⟨sl 146 [(1,.aF 0 0),(2,.pv (.int .i64 0)),(3,.pv (.int .i64 (0:Nat)))],[⟨false,awQ ((0:Nat))⟩],[],none⟩) :
  den env JQ st=some (.normal,⟨sl 146 [(0,.any),(1,.aF 0 0),(2,.pv (.int .i64 0))],[⟨false,awQ 2⟩],[],none⟩):=by
 unfold JQ
 refine bC (env:=env) (nb:=1) (2) (fun i=>⟨sl 146 [(1,.aF 0 0),(2,.pv (.int .i64 0)),(3,.pv (.int .i64 i))],[⟨false,awQ (i)⟩],[],none⟩) (fun i=>some (.normal,⟨sl 146 [(0,.any),(1,.aF 0 0),(2,.pv (.int .i64 0))],[⟨false,awQ 2⟩],[],none⟩)) h (fun _=>rfl) (fun _=>by simp only [aB,bg,Nat.reduceMul,Nat.reduceBEq,Nat.reduceLT,Nat.reduceLeDiff,Nat.reduceAdd,decide_true,Bool.and_self,Bool.true_and]) ?_ ?_
 ·intro i rb hi ih
  match i,hi with
  |0,_ =>
   simp only [CW,al0,aw0,aw1,aw2,aw3,aw4,aw5,aw6,aw7,aw8,aw9,af4,af5,scS,scW,scB,scC,w00,Int.add_zero,show IntKind.i64.wrap (0+1)=1 from rfl,show IntKind.i64.wrap (1+1)=2 from rfl,show IntKind.u8.wrap 1=1 from rfl,show IntKind.u8.wrap 2=2 from rfl,show ((0:Int)<2)=True from by simp,show ((1:Int)<2)=True from by simp,Int.ofNat_zero,Int.ofNat_one,show ((1:Nat):Int)=1 from rfl,show ((0:Nat):Int)=0 from rfl,au,Nat.reduceMul,Nat.reduceBEq,Nat.reduceLT,Nat.reduceLeDiff,reduceCtorEq,Nat.reduceEqDiff,Nat.reduceAdd,Nat.beq]
   rw [ih _ (by simp only [show 0+1=1 from rfl,al1,au,Nat.reduceMul,Nat.reduceBEq,Nat.reduceLT,Nat.reduceLeDiff,reduceCtorEq,Nat.reduceEqDiff,Nat.reduceAdd,Nat.beq]<;>rfl)]
  |1,_ =>
   simp only [CW,al1,aw0,aw1,aw2,aw3,aw4,aw5,aw6,aw7,aw8,aw9,af4,af5,scS,scW,scB,scC,w00,Int.add_zero,show IntKind.i64.wrap (0+1)=1 from rfl,show IntKind.i64.wrap (1+1)=2 from rfl,show IntKind.u8.wrap 1=1 from rfl,show IntKind.u8.wrap 2=2 from rfl,show ((0:Int)<2)=True from by simp,show ((1:Int)<2)=True from by simp,Int.ofNat_zero,Int.ofNat_one,show ((1:Nat):Int)=1 from rfl,show ((0:Nat):Int)=0 from rfl,au,Nat.reduceMul,Nat.reduceBEq,Nat.reduceLT,Nat.reduceLeDiff,reduceCtorEq,Nat.reduceEqDiff,Nat.reduceAdd,Nat.beq]
   rw [ih _ (by simp only [show 1+1=2 from rfl,al2,au,Nat.reduceMul,Nat.reduceBEq,Nat.reduceLT,Nat.reduceLeDiff,reduceCtorEq,Nat.reduceEqDiff,Nat.reduceAdd,Nat.beq]<;>rfl)]
 ·intro rb
  simp only [CW,show (((2:Nat):Int)<2)=False from by simp,au,Nat.reduceMul,Nat.reduceBEq,Nat.reduceLT,Nat.reduceLeDiff,reduceCtorEq,Nat.reduceEqDiff,Nat.reduceAdd,Nat.beq]
set_option maxRecDepth 20000 in
theorem acI:cal env 10 []=some [(.bool true,false)]:=by
 rw [ah alg rfl];simp only [abf,aB,Nat.reduceBEq,Nat.reduceLeDiff,Nat.reduceAdd,List.length_cons,List.length_nil]
 simp only [aw0,aw1,aw2,aw3,aw4,aw5,aw6,aw7,aw8,aw9,af4,af5,scS,scW,scB,scC,w00,Int.add_zero,au,Nat.reduceMul,Nat.reduceBEq,Nat.reduceLT,Nat.reduceLeDiff,reduceCtorEq,Nat.reduceEqDiff,Nat.reduceAdd,Nat.beq]
 rw [aji trivial (by simp only [al0];simp only [aB,bg,Nat.reduceMul,Nat.reduceBEq,Nat.reduceLT,Nat.reduceLeDiff,Nat.reduceAdd,decide_true,Bool.and_self,Bool.true_and]<;>rfl)]
 simp only [al2,aw0,aw1,aw2,aw3,aw4,aw5,aw6,aw7,aw8,aw9,af4,af5,scS,scW,scB,scC,w00,Int.add_zero,au,Nat.reduceMul,Nat.reduceBEq,Nat.reduceLT,Nat.reduceLeDiff,reduceCtorEq,Nat.reduceEqDiff,Nat.reduceAdd,Nat.beq]
end Go.Proofs.YtpcncggjmabnaaaGreatDoor.V

namespace Go.Proofs.YtpcncggjmabnaaaGreatDoor.V
theorem Fb {l:List Bm} {i:Nat} (h:i<l.length):(l.map jg)[i]?=some (.agg [.int .i64 l[i].size,.list 1 (l[i].ws.map eW)]):=by rw [List.getElem?_map,List.getElem?_eq_getElem h];rfl
structure okQ (s:og):Prop where
 sz:s.sz.length≤lim
 cy:s.cy.length≤lim
 dt:s.dt.length≤lim
 c1:∀ c∈s.cy,c.pos.length≤lim∧c.ws.length≤lim∧∀ x∈c.ws,x.data.length≤lim
 d1:∀ b∈s.dt,b.ws.length≤lim
def Ak (s:og):List BV:=[.pv (.int .i64 s.lm),.pv (.list 1 (s.sz.map eI)),.pv (.list 5 (s.cy.map gU)),.pv (.bool s.ov),.pv (.int .i64 s.fs),.pv (.int .i64 s.ls),.pv (.list 2 (s.dt.map jg))]
theorem gV (s:og):Ak s=[.pv (.int .i64 s.lm),.pv (.list 1 (s.sz.map eI)),.pv (.list 5 (s.cy.map gU)),.pv (.bool s.ov),.pv (.int .i64 s.fs),.pv (.int .i64 s.ls),.pv (.list 2 (s.dt.map jg))]:=rfl
end Go.Proofs.YtpcncggjmabnaaaGreatDoor.V

namespace Go.Proofs.YtpcncggjmabnaaaGreatDoor.V
def Am (c:kX):Prop:=c.pos.length≤20∧c.ws.length≤10000∧∀ x∈c.ws,x.data.length≤10000
structure MQ (s:og):Prop where
 sz:s.sz.length≤1000
 cy:s.cy.length≤1000
 dt:s.dt.length≤1000
 c1:∀ c∈s.cy,Am c
 d1:∀ b∈s.dt,b.ws.length≤1000
theorem MQ.ok {s:og} (h:MQ s):okQ s:=⟨Nat.le_trans h.sz (by decide),Nat.le_trans h.cy (by decide),Nat.le_trans h.dt (by decide),fun c hc=>⟨Nat.le_trans (h.c1 c hc).1 (by decide),Nat.le_trans (h.c1 c hc).2.1 (by decide),fun x hx=>Nat.le_trans ((h.c1 c hc).2.2 x hx) (by decide)⟩,fun b hb=>Nat.le_trans (h.d1 b hb) (by decide)⟩
def zA (z:List Int) (c:kX):Int:=ckC z c.base c.num c.time c.pos c.ws
def QG (z:List Int):Int→List kX→Int→Bool
 |f,[],l=>f==l
 |f,c :: cs,l=>(zA z c==0)&&((c.base==f)&&QG z c.num cs l)
def GL (f:Int) (cy:List kX) (i:Nat):Int:=match i with
 |0=>f
 |j+1=>(cy[j]?.map (·.num)).getD 0
def xg (dt:List Bm) (z:List Int):Bool:=eqF (fun b n=>(Ui b==0)&&(b.size==n)) dt z
def rZ (s:og):Int:=if aN s.sz=0 then (if s.lm<1∨s.lm > 1024∨s.fs<0∨s.fs > s.ls∨s.ls > 1073741824 then 3 else if s.ov=true then (if (decide (s.cy=[])&&(decide (s.fs≠s.ls)&&xg s.dt s.sz))=true then 0 else 3) else (if (decide (s.dt=[])&&(decide ((s.cy.length:Int)≤s.lm)&&QG s.sz s.fs s.cy s.ls))=true then 0 else 3)) else aN s.sz
instance:DecidableEq kX:=fun a b=>if h:a.base=b.base∧a.num=b.num∧a.time=b.time∧a.pos=b.pos∧a.ws=b.ws then isTrue (by cases a;cases b;simp_all) else isFalse (fun e=>h (by subst e;simp))
theorem LC {l:List Int} {i:Nat} (h:i<l.length):(l.map eI)[i]?=some (.int .i64 l[i]):=by rw [List.getElem?_map,List.getElem?_eq_getElem h];rfl
def YR (n d:Nat) (b:Bool):Option (Ex × St):=if b then some (.normal,⟨sl n [(d,.any)],[],[],none⟩) else some (.ret,⟨sl n [(d,.pv (.bool false))],[],[],none⟩)
theorem LD (n d:Nat):YR n d true=some (.normal,⟨sl n [(d,.any)],[],[],none⟩):=rfl
theorem LG (n d:Nat):YR n d false=some (.ret,⟨sl n [(d,.pv (.bool false))],[],[],none⟩):=rfl
def Uo (b:Bm) (n:Int):Bool:=(Ui b==0)&&(b.size==n)
def Fe (dt:List Bm) (z:List Int) (i:Nat):Bool:=((dt.drop i).zip (z.drop i)).all fun q=>Uo q.1 q.2
theorem YS {dt:List Bm} {z:List Int} {i:Nat} (h:i<dt.length) (h2:i<z.length):Fe dt z i=(Uo dt[i] z[i]&&Fe dt z (i+1)):=by
 unfold Fe
 rw [List.drop_eq_getElem_cons h,List.drop_eq_getElem_cons h2]
 rfl
theorem acJ (dt:List Bm) (z:List Int):Fe dt z dt.length=true:=by
 unfold Fe
 rw [List.drop_length]
 rfl
theorem Ur (dt:List Bm) (z:List Int):xg dt z=(decide (dt.length=z.length)&&Fe dt z 0):=rfl
theorem al3 {b:Bm} {n:Int}:cal env 90 [jg b,eI n]=some [(.bool (Uo b n),false)]:=by
 have e1:=acg (b:=b)
 rw [show jg b=.agg [.int .i64 b.size,.list 1 (b.ws.map eW)] from rfl] at e1 ⊢
 unfold Uo eI
 by_cases c:Ui b=0
 ·rw [c] at e1 ⊢
  have Z:((0:Int)==0)=true:=rfl
  rw [Z,Bool.true_and]
  rw [ah ahl rfl];simp only [Yu,aB,Nat.reduceBEq,Nat.reduceLeDiff,Nat.reduceAdd,List.length_cons,List.length_nil]
  simp only [e1,Z,rY,au,Nat.reduceMul,Nat.reduceBEq,Nat.reduceLT,Nat.reduceLeDiff,reduceCtorEq,Nat.reduceEqDiff,Nat.reduceAdd,Nat.beq]
 ·have Z:(Ui b==0)=false:=by simp [c]
  rw [Z,Bool.false_and]
  rw [ah ahl rfl];simp only [Yu,aB,Nat.reduceBEq,Nat.reduceLeDiff,Nat.reduceAdd,List.length_cons,List.length_nil]
  simp only [e1,Z,rY,au,Nat.reduceMul,Nat.reduceBEq,Nat.reduceLT,Nat.reduceLeDiff,reduceCtorEq,Nat.reduceEqDiff,Nat.reduceAdd,Nat.beq]
theorem ajj {dt:List Bm} {z:List Int} (hl:dt.length≤1000) (hz:dt.length=z.length) {st:St} (h:st.head [0,1,2,15,16,17] st.boxes.length=some ⟨sl 32 [(0,.pv (.list 2 (dt.map jg))),(1,.pv (.list 1 (z.map eI))),(2,.pv (.func 90 [])),(15,.pv (.list 2 (dt.map jg))),(16,.pv (.int .i64 dt.length)),(17,.pv (.int .i64 (0:Nat)))],[],[],none⟩) :
  den env KW st=YR 32 6 (Fe dt z ((0:Nat))):=by
 unfold KW
 refine bC (env:=env) (dt.length) (fun i=>⟨sl 32 [(0,.pv (.list 2 (dt.map jg))),(1,.pv (.list 1 (z.map eI))),(2,.pv (.func 90 [])),(15,.pv (.list 2 (dt.map jg))),(16,.pv (.int .i64 dt.length)),(17,.pv (.int .i64 i))],[],[],none⟩) (fun i=>YR 32 6 (Fe dt z (i))) h (fun _=>rfl) (fun _=>by simp only [aB,bg,Nat.reduceMul,Nat.reduceBEq,Nat.reduceLT,Nat.reduceLeDiff,Nat.reduceAdd,decide_true,Bool.and_self,Bool.true_and]) ?_ ?_
 ·intro i rb hi ih
  have hi1:=bG hi (by unfold lim;omega)
  have hj:i<z.length:=by omega
  have F1:((i:Int)<(dt.length:Int))=True:=eq_true (by omega)
  have e1:=al3 (b:=dt[i]) (n:=z[i])
  rw [show jg dt[i]=.agg [.int .i64 dt[i].size,.list 1 (dt[i].ws.map eW)] from rfl,show eI z[i]=.int .i64 z[i] from rfl] at e1
  have hx:=Fb hi
  have hy:=LC hj
  rw [YS hi hj]
  cases c:Uo dt[i] z[i] with
  |true =>
   rw [c] at e1
   rw [Bool.true_and]
   simp only [CZ,F1,e1,hx,hy,rY,aj hi,aj hj,List.length_map,au,Nat.reduceMul,Nat.reduceBEq,Nat.reduceLT,Nat.reduceLeDiff,reduceCtorEq,Nat.reduceEqDiff,Nat.reduceAdd,Nat.beq]
   rw [ih _ (by simp only [hi1,au,Nat.reduceMul,Nat.reduceBEq,Nat.reduceLT,Nat.reduceLeDiff,reduceCtorEq,Nat.reduceEqDiff,Nat.reduceAdd,Nat.beq]<;>rfl)]
  |false =>
   rw [c] at e1
   rw [Bool.false_and,LG]
   simp only [CZ,F1,e1,hx,hy,rY,aj hi,aj hj,List.length_map,au,Nat.reduceMul,Nat.reduceBEq,Nat.reduceLT,Nat.reduceLeDiff,reduceCtorEq,Nat.reduceEqDiff,Nat.reduceAdd,Nat.beq]
 ·intro rb
  rw [acJ,LD]
  simp only [CZ,Int.lt_irrefl,List.length_map,au,Nat.reduceMul,Nat.reduceBEq,Nat.reduceLT,Nat.reduceLeDiff,reduceCtorEq,Nat.reduceEqDiff,Nat.reduceAdd,Nat.beq]
theorem al4 {dt:List Bm} {z:List Int} (hl:dt.length≤1000):cal env 89 [.list 2 (dt.map jg),.list 1 (z.map eI),.func 90 []]=some [(.bool (xg dt z),false)]:=by
 rw [Ur]
 by_cases c:dt.length=z.length
 ·have F1:((dt.length:Int) != (z.length:Int))=false:=by simp [c]
  rw [decide_eq_true c,Bool.true_and]
  rw [ah ahk rfl];simp only [Yt,aB,Nat.reduceBEq,Nat.reduceLeDiff,Nat.reduceAdd,List.length_cons,List.length_nil]
  simp only [F1,List.length_map,au,Nat.reduceMul,Nat.reduceBEq,Nat.reduceLT,Nat.reduceLeDiff,reduceCtorEq,Nat.reduceEqDiff,Nat.reduceAdd,Nat.beq]
  rw [ajj hl c (by simp only [aB,bg,Nat.reduceMul,Nat.reduceBEq,Nat.reduceLT,Nat.reduceLeDiff,Nat.reduceAdd,decide_true,Bool.and_self,Bool.true_and]<;>rfl)]
  cases Fe dt z 0 with
  |true=>rw [LD];simp only [F1,List.length_map,au,Nat.reduceMul,Nat.reduceBEq,Nat.reduceLT,Nat.reduceLeDiff,reduceCtorEq,Nat.reduceEqDiff,Nat.reduceAdd,Nat.beq]
  |false=>rw [LG];simp only [F1,List.length_map,au,Nat.reduceMul,Nat.reduceBEq,Nat.reduceLT,Nat.reduceLeDiff,reduceCtorEq,Nat.reduceEqDiff,Nat.reduceAdd,Nat.beq]
 ·have F1:((dt.length:Int) != (z.length:Int))=true:=by simp;omega
  rw [decide_eq_false c,Bool.false_and]
  rw [ah ahk rfl];simp only [Yt,aB,Nat.reduceBEq,Nat.reduceLeDiff,Nat.reduceAdd,List.length_cons,List.length_nil]
  simp only [F1,List.length_map,au,Nat.reduceMul,Nat.reduceBEq,Nat.reduceLT,Nat.reduceLeDiff,reduceCtorEq,Nat.reduceEqDiff,Nat.reduceAdd,Nat.beq]
end Go.Proofs.YtpcncggjmabnaaaGreatDoor.V

namespace Go.Proofs.YtpcncggjmabnaaaGreatDoor.V
def quG (z:List Int):Int→List kX→Bool
 |_,[]=>true
 |f,c :: cs=>(zA z c==0)&&((c.base==f)&&quG z c.num cs)
def IK:Int→List kX→Int
 |f,[]=>f
 |_,c :: cs=>IK c.num cs
theorem ahu (z:List Int) (l:Int):∀ (cy:List kX) (f:Int),QG z f cy l=(quG z f cy&&(IK f cy==l))
 |[],f=>by simp [QG,quG,IK]
 |c :: cs,f=>by rw [QG,ahu z l cs,quG,IK,Bool.and_assoc,Bool.and_assoc]
theorem Fg {f:Int} {cy:List kX} {i:Nat} (h:i<cy.length):GL f cy (i+1)=cy[i].num:=by simp [GL,List.getElem?_eq_getElem h]
theorem af6 (f:Int) (cy:List kX):IK f cy=GL f cy cy.length:=by
 induction cy generalizing f with
 |nil=>rfl
 |cons c cs ih =>
  rw [IK,ih]
  cases cs with
  |nil=>rfl
  |cons d ds=>simp [GL]
def quD (z:List Int) (f:Int) (cy:List kX) (i:Nat):Bool:=quG z (GL f cy i) (cy.drop i)
theorem acL {z:List Int} {f:Int} {cy:List kX} {i:Nat} (h:i<cy.length):quD z f cy i=((zA z cy[i]==0)&&((cy[i].base==GL f cy i)&&quD z f cy (i+1))):=by
 unfold quD
 rw [List.drop_eq_getElem_cons h,quG,Fg h]
theorem af7 (z:List Int) (f:Int) (cy:List kX):quD z f cy cy.length=true:=by
 unfold quD
 rw [List.drop_length]
 rfl
theorem al5 (z:List Int) (f l:Int) (cy:List kX):QG z f cy l=(quD z f cy 0&&(GL f cy cy.length==l)):=by
 rw [ahu,af6]
 rfl
def quV (z:List Int):Int→List kX→Int
 |f,[]=>f
 |f,c :: cs=>if ((zA z c==0)&&(c.base==f))=true then quV z c.num cs else f
def quW (z:List Int) (f:Int) (cy:List kX) (i:Nat):Int:=quV z (GL f cy i) (cy.drop i)
theorem ajk {z:List Int} {f:Int} {cy:List kX} {i:Nat} (h:i<cy.length) (h1:(zA z cy[i]==0)=true) (h2:(cy[i].base==GL f cy i)=true):quW z f cy i=quW z f cy (i+1):=by
 unfold quW
 rw [List.drop_eq_getElem_cons h,quV,h1,h2,Fg h]
 rfl
theorem acM {z:List Int} {f:Int} {cy:List kX} {i:Nat} (h:i<cy.length) (h1:((zA z cy[i]==0)&&(cy[i].base==GL f cy i))=false):quW z f cy i=GL f cy i:=by
 unfold quW
 rw [List.drop_eq_getElem_cons h,quV,h1]
 rfl
def Us (z:List Int) (f:Int) (cy:List kX) (i:Nat) (bx:List Box) (b:Bool):Option (Ex × St):=if b then some (.normal,⟨sl 47 [(1,.aF 0 0),(2,.any),(3,.pv (.int .i64 (GL f cy cy.length)))],bx,[],none⟩) else some (.ret,⟨sl 47 [(1,.aF 0 0),(2,.pv (.bool false)),(3,.pv (.int .i64 (quW z f cy i)))],bx,[],none⟩)
theorem acN (z:List Int) (f:Int) (cy:List kX) (i:Nat) (bx:List Box):Us z f cy i bx true=some (.normal,⟨sl 47 [(1,.aF 0 0),(2,.any),(3,.pv (.int .i64 (GL f cy cy.length)))],bx,[],none⟩):=rfl
theorem Ut (z:List Int) (f:Int) (cy:List kX) (i:Nat) (bx:List Box):Us z f cy i bx false=some (.ret,⟨sl 47 [(1,.aF 0 0),(2,.pv (.bool false)),(3,.pv (.int .i64 (quW z f cy i)))],bx,[],none⟩):=rfl
theorem af9 {z:List Int} {f:Int} {cy:List kX} {i:Nat} (h:quW z f cy i=quW z f cy (i+1)) (bx:List Box) (b:Bool):Us z f cy i bx b=Us z f cy (i+1) bx b:=by cases b<;>simp [Us,h]
set_option maxRecDepth 20000 in
theorem ajl {s:og} (hq:MQ s) {st:St} (h:st.head [1,3,9,10,11] st.boxes.length=some ⟨sl 47 [(1,.aF 0 0),(3,.pv (.int .i64 (GL s.fs s.cy ((0:Nat))))),(9,.pv (.list 5 (s.cy.map gU))),(10,.pv (.int .i64 s.cy.length)),(11,.pv (.int .i64 (0:Nat)))],[⟨false,Ak s⟩],[],none⟩) :
  den env KU st=Us s.sz s.fs s.cy ((0:Nat)) [⟨false,Ak s⟩] (quD s.sz s.fs s.cy ((0:Nat))):=by
 unfold KU
 refine bC (env:=env) (nb:=1) (s.cy.length) (fun i=>⟨sl 47 [(1,.aF 0 0),(3,.pv (.int .i64 (GL s.fs s.cy (i)))),(9,.pv (.list 5 (s.cy.map gU))),(10,.pv (.int .i64 s.cy.length)),(11,.pv (.int .i64 i))],[⟨false,Ak s⟩],[],none⟩) (fun i=>Us s.sz s.fs s.cy (i) [⟨false,Ak s⟩] (quD s.sz s.fs s.cy (i))) h (fun _=>rfl) (fun _=>by simp only [aB,bg,Nat.reduceMul,Nat.reduceBEq,Nat.reduceLT,Nat.reduceLeDiff,Nat.reduceAdd,decide_true,Bool.and_self,Bool.true_and]) ?_ ?_
 ·intro i rb hi ih
  have hi1:=bG hi (by have:=hq.cy;unfold lim;omega)
  have F1:((i:Int)<(s.cy.length:Int))=True:=eq_true (by omega)
  have q:=hq.c1 _ (List.getElem_mem hi)
  have e1:=Um (z:=s.sz) (b:=s.cy[i].base) (n:=s.cy[i].num) (t:=s.cy[i].time) (p:=s.cy[i].pos) (w:=s.cy[i].ws) (by have:=hq.sz;unfold lim;omega) (Nat.le_trans q.2.1 (by decide)) (fun x hx=>Nat.le_trans (q.2.2 x hx) (by decide)) q.1
  rw [show ckC s.sz s.cy[i].base s.cy[i].num s.cy[i].time s.cy[i].pos s.cy[i].ws=zA s.sz s.cy[i] from rfl] at e1
  unfold YO at e1
  have hx:=Ls hi
  rw [acL hi]
  by_cases c:zA s.sz s.cy[i]=0
  ·have Z:((0:Int) != 0)=false:=rfl
   have Z0:(zA s.sz s.cy[i]==0)=true:=by simp [c]
   rw [c] at e1
   by_cases c2:s.cy[i].base=GL s.fs s.cy i
   ·have Z1:(s.cy[i].base != GL s.fs s.cy i)=false:=by simp [c2]
    have Z2:(s.cy[i].base==GL s.fs s.cy i)=true:=by simp [c2]
    rw [Z0,Z2,Bool.true_and,Bool.true_and,af9 (ajk hi Z0 Z2)]
    simp only [zo,F1,e1,hx,Z,Z1,jB,gV,aj hi,List.length_map,au,Nat.reduceMul,Nat.reduceBEq,Nat.reduceLT,Nat.reduceLeDiff,reduceCtorEq,Nat.reduceEqDiff,Nat.reduceAdd,Nat.beq]
    rw [ih _ (by simp only [hi1,Fg hi,gV,au,Nat.reduceMul,Nat.reduceBEq,Nat.reduceLT,Nat.reduceLeDiff,reduceCtorEq,Nat.reduceEqDiff,Nat.reduceAdd,Nat.beq]<;>rfl)]
    rfl
   ·have Z1:(s.cy[i].base != GL s.fs s.cy i)=true:=by simp [c2]
    have Z2:(s.cy[i].base==GL s.fs s.cy i)=false:=by simp [c2]
    rw [Z0,Z2,Bool.true_and,Bool.false_and,Ut,acM hi (by rw [Z0,Z2];rfl)]
    simp only [zo,F1,e1,hx,Z,Z1,jB,gV,aj hi,List.length_map,au,Nat.reduceMul,Nat.reduceBEq,Nat.reduceLT,Nat.reduceLeDiff,reduceCtorEq,Nat.reduceEqDiff,Nat.reduceAdd,Nat.beq]
  ·have Z:(zA s.sz s.cy[i] != 0)=true:=by simp [c]
   have Z0:(zA s.sz s.cy[i]==0)=false:=by simp [c]
   rw [Z0,Bool.false_and,Ut,acM hi (by rw [Z0];rfl)]
   simp only [zo,F1,e1,hx,Z,jB,gV,aj hi,List.length_map,au,Nat.reduceMul,Nat.reduceBEq,Nat.reduceLT,Nat.reduceLeDiff,reduceCtorEq,Nat.reduceEqDiff,Nat.reduceAdd,Nat.beq]
 ·intro rb
  rw [af7,acN]
  simp only [zo,Int.lt_irrefl,List.length_map,au,Nat.reduceMul,Nat.reduceBEq,Nat.reduceLT,Nat.reduceLeDiff,reduceCtorEq,Nat.reduceEqDiff,Nat.reduceAdd,Nat.beq]
def ckA (s:og):Bool:=quD s.sz s.fs s.cy 0&&(decide (s.dt=[])&&(decide ((s.cy.length:Int)≤s.lm)&&(GL s.fs s.cy s.cy.length==s.ls)))
set_option maxRecDepth 20000 in
theorem al7 {s:og} (hq:MQ s):cal env 87 [oI s]=some [(.bool (ckA s),false)]:=by
 rw [eP]
 unfold ckA
 rw [ah alJ rfl];simp only [abE,aB,Nat.reduceBEq,Nat.reduceLeDiff,Nat.reduceAdd,List.length_cons,List.length_nil]
 simp only [au,Nat.reduceMul,Nat.reduceBEq,Nat.reduceLT,Nat.reduceLeDiff,reduceCtorEq,Nat.reduceEqDiff,Nat.reduceAdd,Nat.beq]
 rw [ajl (s:=s) hq (by simp only [gV];simp only [aB,bg,Nat.reduceMul,Nat.reduceBEq,Nat.reduceLT,Nat.reduceLeDiff,Nat.reduceAdd,decide_true,Bool.and_self,Bool.true_and]<;>rfl)]
 cases quD s.sz s.fs s.cy 0 with
 |false=>rw [Ut,Bool.false_and];simp only [gV,au,Nat.reduceMul,Nat.reduceBEq,Nat.reduceLT,Nat.reduceLeDiff,reduceCtorEq,Nat.reduceEqDiff,Nat.reduceAdd,Nat.beq]
 |true =>
  rw [acN,Bool.true_and]
  by_cases c1:s.dt=[]
  ·have G1:((s.dt.length:Int)==0)=true:=by simp [c1]
   rw [decide_eq_true c1,Bool.true_and]
   by_cases c2:(s.cy.length:Int)≤s.lm
   ·have G2:=eq_true c2
    rw [decide_eq_true c2,Bool.true_and]
    simp only [gV,G1,G2,List.length_map,au,Nat.reduceMul,Nat.reduceBEq,Nat.reduceLT,Nat.reduceLeDiff,reduceCtorEq,Nat.reduceEqDiff,Nat.reduceAdd,Nat.beq]
   ·have G2:=eq_false c2
    rw [decide_eq_false c2,Bool.false_and]
    simp only [gV,G1,G2,List.length_map,au,Nat.reduceMul,Nat.reduceBEq,Nat.reduceLT,Nat.reduceLeDiff,reduceCtorEq,Nat.reduceEqDiff,Nat.reduceAdd,Nat.beq]
  ·have G1:((s.dt.length:Int)==0)=false:=by
    have:s.dt.length≠0:=fun e=>c1 (List.eq_nil_of_length_eq_zero e)
    simp;omega
   rw [decide_eq_false c1,Bool.false_and]
   simp only [gV,G1,List.length_map,au,Nat.reduceMul,Nat.reduceBEq,Nat.reduceLT,Nat.reduceLeDiff,reduceCtorEq,Nat.reduceEqDiff,Nat.reduceAdd,Nat.beq]
def ckB (s:og):Bool:=xg s.dt s.sz&&(decide (s.cy=[])&&decide (s.fs<s.ls))
theorem al9 {s:og} (hq:MQ s):cal env 88 [oI s]=some [(.bool (ckB s),false)]:=by
 have e1:=al4 (dt:=s.dt) (z:=s.sz) hq.dt
 rw [eP]
 unfold ckB
 cases c0:xg s.dt s.sz with
 |false =>
  rw [c0] at e1
  rw [Bool.false_and]
  rw [ah VB rfl];simp only [OT,aB,Nat.reduceBEq,Nat.reduceLeDiff,Nat.reduceAdd,List.length_cons,List.length_nil]
  simp only [e1,au,Nat.reduceMul,Nat.reduceBEq,Nat.reduceLT,Nat.reduceLeDiff,reduceCtorEq,Nat.reduceEqDiff,Nat.reduceAdd,Nat.beq]
 |true =>
  rw [c0] at e1
  rw [Bool.true_and]
  by_cases c1:s.cy=[]
  ·have G1:((s.cy.length:Int)==0)=true:=by simp [c1]
   rw [decide_eq_true c1,Bool.true_and]
   by_cases c2:s.fs<s.ls
   ·have G2:=eq_true c2
    rw [decide_eq_true c2]
    rw [ah VB rfl];simp only [OT,aB,Nat.reduceBEq,Nat.reduceLeDiff,Nat.reduceAdd,List.length_cons,List.length_nil]
    simp only [e1,G1,G2,List.length_map,au,Nat.reduceMul,Nat.reduceBEq,Nat.reduceLT,Nat.reduceLeDiff,reduceCtorEq,Nat.reduceEqDiff,Nat.reduceAdd,Nat.beq]
   ·have G2:=eq_false c2
    rw [decide_eq_false c2]
    rw [ah VB rfl];simp only [OT,aB,Nat.reduceBEq,Nat.reduceLeDiff,Nat.reduceAdd,List.length_cons,List.length_nil]
    simp only [e1,G1,G2,List.length_map,au,Nat.reduceMul,Nat.reduceBEq,Nat.reduceLT,Nat.reduceLeDiff,reduceCtorEq,Nat.reduceEqDiff,Nat.reduceAdd,Nat.beq]
  ·have G1:((s.cy.length:Int)==0)=false:=by
    have:s.cy.length≠0:=fun e=>c1 (List.eq_nil_of_length_eq_zero e)
    simp;omega
   rw [decide_eq_false c1,Bool.false_and]
   rw [ah VB rfl];simp only [OT,aB,Nat.reduceBEq,Nat.reduceLeDiff,Nat.reduceAdd,List.length_cons,List.length_nil]
   simp only [e1,G1,List.length_map,au,Nat.reduceMul,Nat.reduceBEq,Nat.reduceLT,Nat.reduceLeDiff,reduceCtorEq,Nat.reduceEqDiff,Nat.reduceAdd,Nat.beq]
theorem ahv {s:og}:cal env 44 [oI s]=some [(.int .i64 (if s.ov then 1 else 0),false)]:=by
 rw [eP]
 cases c:s.ov with
 |true =>
  rw [ah ahf rfl];simp only [Yn,aB,Nat.reduceBEq,Nat.reduceLeDiff,Nat.reduceAdd,List.length_cons,List.length_nil]
  simp only [au,Nat.reduceMul,Nat.reduceBEq,Nat.reduceLT,Nat.reduceLeDiff,reduceCtorEq,Nat.reduceEqDiff,Nat.reduceAdd,Nat.beq]
 |false =>
  rw [ah ahf rfl];simp only [Yn,aB,Nat.reduceBEq,Nat.reduceLeDiff,Nat.reduceAdd,List.length_cons,List.length_nil]
  simp only [au,Nat.reduceMul,Nat.reduceBEq,Nat.reduceLT,Nat.reduceLeDiff,reduceCtorEq,Nat.reduceEqDiff,Nat.reduceAdd,Nat.beq]
theorem ama:cal env 49 []=some [(.agg [.func 87 [],.func 88 []],false)]:=by
 have P2:∀ a b:PV,part [a,b] 0 (some 2)=some (.agg [a,b]):=fun _ _=>rfl
 rw [ah alq rfl];simp only [abo,aB,Nat.reduceBEq,Nat.reduceLeDiff,Nat.reduceAdd,List.length_cons,List.length_nil]
 simp only [P2,au,Nat.reduceMul,Nat.reduceBEq,Nat.reduceLT,Nat.reduceLeDiff,reduceCtorEq,Nat.reduceEqDiff,Nat.reduceAdd,Nat.beq]
end Go.Proofs.YtpcncggjmabnaaaGreatDoor.V

namespace Go.Proofs.YtpcncggjmabnaaaGreatDoor.V
set_option maxRecDepth 20000 in
theorem ahw {s:og} (hq:MQ s):cal env 20 [oI s]=some [(.int .i64 (rZ s),false)]:=by
 have e1:=VD (l:=s.sz) (by have:=hq.sz;unfold lim;omega)
 have e2:=ama
 have e3:=ahv (s:=s)
 have e4:=al7 hq
 have e5:=al9 hq
 have Z0:((0:Int) != 0)=false:=rfl
 have I0:index (.int .i64 0) 2=some 0:=rfl
 have I1:index (.int .i64 1) 2=some 1:=rfl
 rw [eP] at e3 e4 e5 ⊢
 unfold rZ
 by_cases cz:aN s.sz=0
 rotate_left
 ·rw [if_neg cz] at e1 ⊢
  have Z:(aN s.sz != 0)=true:=by simp [cz]
  rw [ah xq rfl];simp only [zh,aB,Nat.reduceBEq,Nat.reduceLeDiff,Nat.reduceAdd,List.length_cons,List.length_nil]
  simp only [e1,Z,au,Nat.reduceMul,Nat.reduceBEq,Nat.reduceLT,Nat.reduceLeDiff,reduceCtorEq,Nat.reduceEqDiff,Nat.reduceAdd,Nat.beq]
 rw [cz,if_pos rfl] at e1
 rw [if_pos cz]
 by_cases c1:s.lm<1
 ·have F1:=eq_true c1
  rw [if_pos (Or.inl c1:s.lm<1∨s.lm > 1024∨s.fs<0∨s.fs > s.ls∨s.ls > 1073741824)]
  rw [ah xq rfl];simp only [zh,aB,Nat.reduceBEq,Nat.reduceLeDiff,Nat.reduceAdd,List.length_cons,List.length_nil]
  simp only [e1,Z0,fP,F1,au,Nat.reduceMul,Nat.reduceBEq,Nat.reduceLT,Nat.reduceLeDiff,reduceCtorEq,Nat.reduceEqDiff,Nat.reduceAdd,Nat.beq]
 ·have F1:=eq_false c1
  by_cases c2:s.lm > 1024
  ·have F2:=eq_true c2
   rw [if_pos (Or.inr (Or.inl c2):s.lm<1∨s.lm > 1024∨s.fs<0∨s.fs > s.ls∨s.ls > 1073741824)]
   rw [ah xq rfl];simp only [zh,aB,Nat.reduceBEq,Nat.reduceLeDiff,Nat.reduceAdd,List.length_cons,List.length_nil]
   simp only [e1,Z0,fP,F1,F2,au,Nat.reduceMul,Nat.reduceBEq,Nat.reduceLT,Nat.reduceLeDiff,reduceCtorEq,Nat.reduceEqDiff,Nat.reduceAdd,Nat.beq]
  ·have F2:=eq_false c2
   by_cases c3:s.fs<0
   ·have F3:=eq_true c3
    rw [if_pos (Or.inr (Or.inr (Or.inl c3)):s.lm<1∨s.lm > 1024∨s.fs<0∨s.fs > s.ls∨s.ls > 1073741824)]
    rw [ah xq rfl];simp only [zh,aB,Nat.reduceBEq,Nat.reduceLeDiff,Nat.reduceAdd,List.length_cons,List.length_nil]
    simp only [e1,Z0,fP,F1,F2,F3,au,Nat.reduceMul,Nat.reduceBEq,Nat.reduceLT,Nat.reduceLeDiff,reduceCtorEq,Nat.reduceEqDiff,Nat.reduceAdd,Nat.beq]
   ·have F3:=eq_false c3
    by_cases c4:s.fs > s.ls
    ·have F4:=eq_true c4
     rw [if_pos (Or.inr (Or.inr (Or.inr (Or.inl c4))):s.lm<1∨s.lm > 1024∨s.fs<0∨s.fs > s.ls∨s.ls > 1073741824)]
     rw [ah xq rfl];simp only [zh,aB,Nat.reduceBEq,Nat.reduceLeDiff,Nat.reduceAdd,List.length_cons,List.length_nil]
     simp only [e1,Z0,fP,F1,F2,F3,F4,au,Nat.reduceMul,Nat.reduceBEq,Nat.reduceLT,Nat.reduceLeDiff,reduceCtorEq,Nat.reduceEqDiff,Nat.reduceAdd,Nat.beq]
    ·have F4:=eq_false c4
     by_cases c5:s.ls > 1073741824
     ·have F5:=eq_true c5
      rw [if_pos (Or.inr (Or.inr (Or.inr (Or.inr c5))):s.lm<1∨s.lm > 1024∨s.fs<0∨s.fs > s.ls∨s.ls > 1073741824)]
      rw [ah xq rfl];simp only [zh,aB,Nat.reduceBEq,Nat.reduceLeDiff,Nat.reduceAdd,List.length_cons,List.length_nil]
      simp only [e1,Z0,fP,F1,F2,F3,F4,F5,au,Nat.reduceMul,Nat.reduceBEq,Nat.reduceLT,Nat.reduceLeDiff,reduceCtorEq,Nat.reduceEqDiff,Nat.reduceAdd,Nat.beq]
     ·have F5:=eq_false c5
      rw [if_neg (show ¬ (s.lm<1∨s.lm > 1024∨s.fs<0∨s.fs > s.ls∨s.ls > 1073741824) by omega)]
      cases co:s.ov with
      |true =>
       rw [if_pos rfl]
       rw [co,if_pos rfl] at e3
       rw [co] at e5
       have hk:ckB s=(decide (s.cy=[])&&(decide (s.fs≠s.ls)&&xg s.dt s.sz)):=by
        unfold ckB
        rw [show decide (s.fs<s.ls)=decide (s.fs≠s.ls) from decide_eq_decide.2 (by omega)]
        cases xg s.dt s.sz<;>cases decide (s.cy=[])<;>cases decide (s.fs≠s.ls)<;>rfl
       rw [← hk]
       cases ck:ckB s with
       |true =>
        rw [ck] at e5
        rw [if_pos rfl]
        rw [ah xq rfl];simp only [zh,aB,Nat.reduceBEq,Nat.reduceLeDiff,Nat.reduceAdd,List.length_cons,List.length_nil]
        simp only [co,e1,e2,e3,e5,I1,Z0,F1,F2,F3,F4,F5,fP,au,Nat.reduceMul,Nat.reduceBEq,Nat.reduceLT,Nat.reduceLeDiff,reduceCtorEq,Nat.reduceEqDiff,Nat.reduceAdd,Nat.beq]
       |false =>
        rw [ck] at e5
        rw [if_neg Bool.false_ne_true]
        rw [ah xq rfl];simp only [zh,aB,Nat.reduceBEq,Nat.reduceLeDiff,Nat.reduceAdd,List.length_cons,List.length_nil]
        simp only [co,e1,e2,e3,e5,I1,Z0,F1,F2,F3,F4,F5,fP,au,Nat.reduceMul,Nat.reduceBEq,Nat.reduceLT,Nat.reduceLeDiff,reduceCtorEq,Nat.reduceEqDiff,Nat.reduceAdd,Nat.beq]
      |false =>
       rw [if_neg Bool.false_ne_true]
       rw [co,if_neg Bool.false_ne_true] at e3
       rw [co] at e4
       have hk:ckA s=(decide (s.dt=[])&&(decide ((s.cy.length:Int)≤s.lm)&&QG s.sz s.fs s.cy s.ls)):=by
        unfold ckA
        rw [al5]
        cases quD s.sz s.fs s.cy 0<;>cases decide (s.dt=[])<;>cases decide ((s.cy.length:Int)≤s.lm)<;>rfl
       rw [← hk]
       cases ck:ckA s with
       |true =>
        rw [ck] at e4
        rw [if_pos rfl]
        rw [ah xq rfl];simp only [zh,aB,Nat.reduceBEq,Nat.reduceLeDiff,Nat.reduceAdd,List.length_cons,List.length_nil]
        simp only [co,e1,e2,e3,e4,I0,Z0,F1,F2,F3,F4,F5,fP,au,Nat.reduceMul,Nat.reduceBEq,Nat.reduceLT,Nat.reduceLeDiff,reduceCtorEq,Nat.reduceEqDiff,Nat.reduceAdd,Nat.beq]
       |false =>
        rw [ck] at e4
        rw [if_neg Bool.false_ne_true]
        rw [ah xq rfl];simp only [zh,aB,Nat.reduceBEq,Nat.reduceLeDiff,Nat.reduceAdd,List.length_cons,List.length_nil]
        simp only [co,e1,e2,e3,e4,I0,Z0,F1,F2,F3,F4,F5,fP,au,Nat.reduceMul,Nat.reduceBEq,Nat.reduceLT,Nat.reduceLeDiff,reduceCtorEq,Nat.reduceEqDiff,Nat.reduceAdd,Nat.beq]
end Go.Proofs.YtpcncggjmabnaaaGreatDoor.V

namespace Go.Proofs.YtpcncggjmabnaaaGreatDoor.V
def rD (c:kX):List BV:=[.pv (.int .i64 c.base),.pv (.int .i64 c.num),.pv (.int .i64 c.time),.pv (.list 1 (c.pos.map eI)),.pv (.list 3 (c.ws.map dQ))]
theorem dZ (c:kX):rD c=[.pv (.int .i64 c.base),.pv (.int .i64 c.num),.pv (.int .i64 c.time),.pv (.list 1 (c.pos.map eI)),.pv (.list 3 (c.ws.map dQ))]:=rfl
def zCy:List BV:=[.pv (.int .i64 0),.pv (.int .i64 0),.pv (.int .i64 0),.row 1 [],.row 3 []]
theorem Fh:zCy=[.pv (.int .i64 0),.pv (.int .i64 0),.pv (.int .i64 0),.row 1 [],.row 3 []]:=rfl
theorem amc {l:List bK} {i:Nat} (h:i<l.length):(l.take (i+1)).map dQ=(l.take i).map dQ++[.agg [.int .i64 l[i].volume,.int .i64 l[i].start,.list 8 (l[i].data.map iJ)]]:=by
 rw [List.take_succ_eq_append_getElem h,List.map_append];rfl
theorem amd {l:List kX} {i:Nat} (h:i<l.length):(l.take (i+1)).map gU=(l.take i).map gU++[.agg [.int .i64 l[i].base,.int .i64 l[i].num,.int .i64 l[i].time,.list 1 (l[i].pos.map eI),.list 3 (l[i].ws.map dQ)]]:=by
 rw [List.take_succ_eq_append_getElem h,List.map_append];rfl
theorem ame {l:List Bm} {i:Nat} (h:i<l.length):(l.take (i+1)).map jg=(l.take i).map jg++[.agg [.int .i64 l[i].size,.list 1 (l[i].ws.map eW)]]:=by
 rw [List.take_succ_eq_append_getElem h,List.map_append];rfl
theorem iV (a b c:PV):part [a,b,c] 0 (some 3)=some (.agg [a,b,c]):=rfl
theorem acO {es:List PV} (hl:es.length≤lim):cal env 86 [.list 8 es]=some [(.list 8 es,true)]:=(wQ alI).trans (if_pos ⟨rfl,hl⟩)
theorem ajm {es:List PV} (hl:es.length≤lim):cal env 80 [.list 1 es]=some [(.list 1 es,true)]:=(wQ ahj).trans (if_pos ⟨rfl,hl⟩)
theorem ajn {c:kX} (ho:Am c) {st:St} (h:st.head [1,2,3,7,8,9,20] st.boxes.length=some ⟨sl 29 [(1,.aF 0 0),(2,.aF 1 0),(3,.row 3 ((c.ws.take ((0:Nat))).map dQ)),(7,.pv (.list 3 (c.ws.map dQ))),(8,.pv (.int .i64 c.ws.length)),(9,.pv (.int .i64 (0:Nat))),(20,.any)],[⟨false,rD c⟩,⟨false,zCy⟩],[],none⟩) :
  den env J8 st=some (.normal,⟨sl 29 [(1,.aF 0 0),(2,.aF 1 0),(3,.row 3 (c.ws.map dQ))],[⟨false,rD c⟩,⟨false,zCy⟩],[],none⟩):=by
 unfold J8
 refine bC (env:=env) (c.ws.length) (fun i=>⟨sl 29 [(1,.aF 0 0),(2,.aF 1 0),(3,.row 3 ((c.ws.take (i)).map dQ)),(7,.pv (.list 3 (c.ws.map dQ))),(8,.pv (.int .i64 c.ws.length)),(9,.pv (.int .i64 i)),(20,.any)],[⟨false,rD c⟩,⟨false,zCy⟩],[],none⟩) (fun i=>some (.normal,⟨sl 29 [(1,.aF 0 0),(2,.aF 1 0),(3,.row 3 (c.ws.map dQ))],[⟨false,rD c⟩,⟨false,zCy⟩],[],none⟩)) h (fun _=>rfl) (fun _=>by simp only [aB,bg,Nat.reduceMul,Nat.reduceBEq,Nat.reduceLT,Nat.reduceLeDiff,Nat.reduceAdd,decide_true,Bool.and_self,Bool.true_and]) ?_ ?_
 ·intro i rb hi ih
  have h1:=ho.2.1
  have hi1:=bG hi (by unfold lim;omega)
  have F1:((i:Int)<(c.ws.length:Int))=True:=eq_true (by omega)
  have q:=ho.2.2 _ (List.getElem_mem hi)
  have e1:=acO (es:=c.ws[i].data.map iJ) (by rw [List.length_map];unfold lim;omega)
  have hx:=rC hi
  have F5:((c.ws.take i).length+1≤lim)=True:=eq_true (by rw [List.length_take];unfold lim;omega)
  rw [amc hi] at ih
  simp only [J7,F1,F5,e1,hx,iV,dZ,Fh,aj hi,List.length_map,au,Nat.reduceMul,Nat.reduceBEq,Nat.reduceLT,Nat.reduceLeDiff,reduceCtorEq,Nat.reduceEqDiff,Nat.reduceAdd,Nat.beq] at *
  rw [ih _ (by simp only [hi1,dZ,Fh,au,Nat.reduceMul,Nat.reduceBEq,Nat.reduceLT,Nat.reduceLeDiff,reduceCtorEq,Nat.reduceEqDiff,Nat.reduceAdd,Nat.beq]<;>rfl)]
 ·intro rb
  rw [List.take_length]
  simp only [J7,Int.lt_irrefl,dZ,Fh,List.length_map,au,Nat.reduceMul,Nat.reduceBEq,Nat.reduceLT,Nat.reduceLeDiff,reduceCtorEq,Nat.reduceEqDiff,Nat.reduceAdd,Nat.beq]
theorem acP {c:kX} (ho:Am c):cal env 48 [gU c]=some [(gU c,false)]:=by
 have e1:=Un (es:=c.pos.map eI) (by have:=ho.1;rw [List.length_map];unfold lim;omega)
 rw [mO]
 rw [ah alp rfl];simp only [abn,aB,Nat.reduceBEq,Nat.reduceLeDiff,Nat.reduceAdd,List.length_cons,List.length_nil]
 simp only [e1,jB,au,Nat.reduceMul,Nat.reduceBEq,Nat.reduceLT,Nat.reduceLeDiff,reduceCtorEq,Nat.reduceEqDiff,Nat.reduceAdd,Nat.beq]
 rw [ajn ho (by simp only [dZ,Fh];simp only [aB,bg,Nat.reduceMul,Nat.reduceBEq,Nat.reduceLT,Nat.reduceLeDiff,Nat.reduceAdd,decide_true,Bool.and_self,Bool.true_and]<;>rfl)]
 simp only [e1,jB,dZ,Fh,au,Nat.reduceMul,Nat.reduceBEq,Nat.reduceLT,Nat.reduceLeDiff,reduceCtorEq,Nat.reduceEqDiff,Nat.reduceAdd,Nat.beq]
def P6:List BV:=[.pv (.int .i64 0),.row 1 [],.row 5 [],.pv (.bool false),.pv (.int .i64 0),.pv (.int .i64 0),.row 2 []]
theorem iK:P6=[.pv (.int .i64 0),.row 1 [],.row 5 [],.pv (.bool false),.pv (.int .i64 0),.pv (.int .i64 0),.row 2 []]:=rfl
theorem ajo {s:og} (hq:MQ s) {st:St} (h:st.head [1,2,3,10,11,12,20,37] st.boxes.length=some ⟨sl 48 [(1,.aF 0 0),(2,.aF 1 0),(3,.row 5 ((s.cy.take ((0:Nat))).map gU)),(10,.pv (.list 5 (s.cy.map gU))),(11,.pv (.int .i64 s.cy.length)),(12,.pv (.int .i64 (0:Nat))),(20,.any),(37,.any)],[⟨false,Ak s⟩,⟨false,P6⟩],[],none⟩) :
  den env J4 st=some (.normal,⟨sl 48 [(1,.aF 0 0),(2,.aF 1 0),(3,.row 5 (s.cy.map gU)),(20,.any),(37,.any)],[⟨false,Ak s⟩,⟨false,P6⟩],[],none⟩):=by
 unfold J4
 refine bC (env:=env) (s.cy.length) (fun i=>⟨sl 48 [(1,.aF 0 0),(2,.aF 1 0),(3,.row 5 ((s.cy.take (i)).map gU)),(10,.pv (.list 5 (s.cy.map gU))),(11,.pv (.int .i64 s.cy.length)),(12,.pv (.int .i64 i)),(20,.any),(37,.any)],[⟨false,Ak s⟩,⟨false,P6⟩],[],none⟩) (fun i=>some (.normal,⟨sl 48 [(1,.aF 0 0),(2,.aF 1 0),(3,.row 5 (s.cy.map gU)),(20,.any),(37,.any)],[⟨false,Ak s⟩,⟨false,P6⟩],[],none⟩)) h (fun _=>rfl) (fun _=>by simp only [aB,bg,Nat.reduceMul,Nat.reduceBEq,Nat.reduceLT,Nat.reduceLeDiff,Nat.reduceAdd,decide_true,Bool.and_self,Bool.true_and]) ?_ ?_
 ·intro i rb hi ih
  have h1:=hq.cy
  have hi1:=bG hi (by unfold lim;omega)
  have F1:((i:Int)<(s.cy.length:Int))=True:=eq_true (by omega)
  have e1:=acP (hq.c1 _ (List.getElem_mem hi))
  rw [mO] at e1
  have hx:=Ls hi
  have F5:((s.cy.take i).length+1≤lim)=True:=eq_true (by rw [List.length_take];unfold lim;omega)
  rw [amd hi] at ih
  simp only [J3,F1,F5,e1,hx,jB,gV,iK,aj hi,List.length_map,au,Nat.reduceMul,Nat.reduceBEq,Nat.reduceLT,Nat.reduceLeDiff,reduceCtorEq,Nat.reduceEqDiff,Nat.reduceAdd,Nat.beq] at *
  rw [ih _ (by simp only [hi1,gV,iK,au,Nat.reduceMul,Nat.reduceBEq,Nat.reduceLT,Nat.reduceLeDiff,reduceCtorEq,Nat.reduceEqDiff,Nat.reduceAdd,Nat.beq]<;>rfl)]
 ·intro rb
  rw [List.take_length]
  simp only [J3,Int.lt_irrefl,gV,iK,List.length_map,au,Nat.reduceMul,Nat.reduceBEq,Nat.reduceLT,Nat.reduceLeDiff,reduceCtorEq,Nat.reduceEqDiff,Nat.reduceAdd,Nat.beq]
theorem acQ {s:og} (hq:MQ s) {L:List PV} {st:St} (h:st.head [1,2,3,6,20,23,24,25,37] st.boxes.length=some ⟨sl 48 [(1,.aF 0 0),(2,.aF 1 0),(3,.row 5 L),(6,.row 2 ((s.dt.take ((0:Nat))).map jg)),(20,.any),(23,.pv (.list 2 (s.dt.map jg))),(24,.pv (.int .i64 s.dt.length)),(25,.pv (.int .i64 (0:Nat))),(37,.any)],[⟨false,Ak s⟩,⟨false,P6⟩],[],none⟩) :
  den env J6 st=some (.normal,⟨sl 48 [(1,.aF 0 0),(2,.aF 1 0),(3,.row 5 L),(6,.row 2 (s.dt.map jg))],[⟨false,Ak s⟩,⟨false,P6⟩],[],none⟩):=by
 unfold J6
 refine bC (env:=env) (s.dt.length) (fun i=>⟨sl 48 [(1,.aF 0 0),(2,.aF 1 0),(3,.row 5 L),(6,.row 2 ((s.dt.take (i)).map jg)),(20,.any),(23,.pv (.list 2 (s.dt.map jg))),(24,.pv (.int .i64 s.dt.length)),(25,.pv (.int .i64 i)),(37,.any)],[⟨false,Ak s⟩,⟨false,P6⟩],[],none⟩) (fun i=>some (.normal,⟨sl 48 [(1,.aF 0 0),(2,.aF 1 0),(3,.row 5 L),(6,.row 2 (s.dt.map jg))],[⟨false,Ak s⟩,⟨false,P6⟩],[],none⟩)) h (fun _=>rfl) (fun _=>by simp only [aB,bg,Nat.reduceMul,Nat.reduceBEq,Nat.reduceLT,Nat.reduceLeDiff,Nat.reduceAdd,decide_true,Bool.and_self,Bool.true_and]) ?_ ?_
 ·intro i rb hi ih
  have h1:=hq.dt
  have hi1:=bG hi (by unfold lim;omega)
  have F1:((i:Int)<(s.dt.length:Int))=True:=eq_true (by omega)
  have q:=hq.d1 _ (List.getElem_mem hi)
  have e1:=ajm (es:=s.dt[i].ws.map eW) (by rw [List.length_map];unfold lim;omega)
  have hx:=Fb hi
  have F5:((s.dt.take i).length+1≤lim)=True:=eq_true (by rw [List.length_take];unfold lim;omega)
  rw [ame hi] at ih
  simp only [J5,F1,F5,e1,hx,rY,gV,iK,aj hi,List.length_map,au,Nat.reduceMul,Nat.reduceBEq,Nat.reduceLT,Nat.reduceLeDiff,reduceCtorEq,Nat.reduceEqDiff,Nat.reduceAdd,Nat.beq] at *
  rw [ih _ (by simp only [hi1,gV,iK,au,Nat.reduceMul,Nat.reduceBEq,Nat.reduceLT,Nat.reduceLeDiff,reduceCtorEq,Nat.reduceEqDiff,Nat.reduceAdd,Nat.beq]<;>rfl)]
 ·intro rb
  rw [List.take_length]
  simp only [J5,Int.lt_irrefl,gV,iK,List.length_map,au,Nat.reduceMul,Nat.reduceBEq,Nat.reduceLT,Nat.reduceLeDiff,reduceCtorEq,Nat.reduceEqDiff,Nat.reduceAdd,Nat.beq]
theorem ahx {s:og} (hq:MQ s):cal env 45 [oI s]=some [(oI s,true)]:=by
 have e1:=Un (es:=s.sz.map eI) (by have:=hq.sz;rw [List.length_map];unfold lim;omega)
 rw [eP]
 rw [ah alo rfl];simp only [abm,aB,Nat.reduceBEq,Nat.reduceLeDiff,Nat.reduceAdd,List.length_cons,List.length_nil]
 simp only [e1,fP,au,Nat.reduceMul,Nat.reduceBEq,Nat.reduceLT,Nat.reduceLeDiff,reduceCtorEq,Nat.reduceEqDiff,Nat.reduceAdd,Nat.beq]
 rw [ajo hq (by simp only [gV,iK];simp only [aB,bg,Nat.reduceMul,Nat.reduceBEq,Nat.reduceLT,Nat.reduceLeDiff,Nat.reduceAdd,decide_true,Bool.and_self,Bool.true_and]<;>rfl)]
 simp only [gV,iK,au,Nat.reduceMul,Nat.reduceBEq,Nat.reduceLT,Nat.reduceLeDiff,reduceCtorEq,Nat.reduceEqDiff,Nat.reduceAdd,Nat.beq]
 rw [acQ hq (by simp only [gV,iK];simp only [aB,bg,Nat.reduceMul,Nat.reduceBEq,Nat.reduceLT,Nat.reduceLeDiff,Nat.reduceAdd,decide_true,Bool.and_self,Bool.true_and]<;>rfl)]
 simp only [e1,fP,gV,iK,au,Nat.reduceMul,Nat.reduceBEq,Nat.reduceLT,Nat.reduceLeDiff,reduceCtorEq,Nat.reduceEqDiff,Nat.reduceAdd,Nat.beq]
end Go.Proofs.YtpcncggjmabnaaaGreatDoor.V

namespace Go.Proofs.YtpcncggjmabnaaaGreatDoor.V
theorem aga {n:Int} (h:0≤n):((lN n).toNat:Int)=lN n:=by unfold lN;omega
def newE (n:Int):Int:=if n<0∨n > 4096 then 2 else 0
def mW (n:Int):Bm:=if n<0∨n > 4096 then ⟨0,[]⟩ else ⟨n,List.replicate (lN n).toNat 0⟩
theorem amf {n:Int}:cal env 78 [.int .i64 n]=some [(jg (mW n),false),(.int .i64 (newE n),false)]:=by
 have hz:=P5
 unfold newE mW
 by_cases c0:n<0
 ·rw [if_pos (.inl c0),if_pos (.inl c0),hz]
  have F0:(n<0)=True:=eq_true c0
  rw [ah abR rfl];simp only [Ub,aB,Nat.reduceBEq,Nat.reduceLeDiff,Nat.reduceAdd,List.length_cons,List.length_nil]
  simp only [F0,au,Nat.reduceMul,Nat.reduceBEq,Nat.reduceLT,Nat.reduceLeDiff,reduceCtorEq,Nat.reduceEqDiff,Nat.reduceAdd,Nat.beq]
 ·have F0:(n<0)=False:=eq_false c0
  by_cases c1:n > 4096
  ·rw [if_pos (.inr c1),if_pos (.inr c1),hz]
   have F1:(n > 4096)=True:=eq_true c1
   rw [ah abR rfl];simp only [Ub,aB,Nat.reduceBEq,Nat.reduceLeDiff,Nat.reduceAdd,List.length_cons,List.length_nil]
   simp only [F0,F1,au,Nat.reduceMul,Nat.reduceBEq,Nat.reduceLT,Nat.reduceLeDiff,reduceCtorEq,Nat.reduceEqDiff,Nat.reduceAdd,Nat.beq]
  ·have F1:(n > 4096)=False:=eq_false c1
   rw [if_neg (by omega),if_neg (by omega)]
   have e1:=acf (n:=n) (by omega)
   have hw:0≤lN n∧lN n≤64:=by unfold lN;omega
   have F3:(0≤lN n)=True:=eq_true hw.1
   have F4:(lN n≤(lim:Int))=True:=eq_true (by unfold lim;omega)
   have F5:(lN n≤lN n)=True:=eq_true (Int.le_refl _)
   have z0:eW 0=.int .u64 0:=rfl
   unfold jg
   rw [List.map_replicate,z0]
   rw [ah abR rfl];simp only [Ub,aB,Nat.reduceBEq,Nat.reduceLeDiff,Nat.reduceAdd,List.length_cons,List.length_nil]
   simp only [F0,F1,e1,F3,F4,F5,au,Nat.reduceMul,Nat.reduceBEq,Nat.reduceLT,Nat.reduceLeDiff,reduceCtorEq,Nat.reduceEqDiff,Nat.reduceAdd,Nat.beq]
def mZ (size:Int) (e:fG):Bool:=decide (0≤e.start)&&decide (0≤e.count)&&decide (e.start≤size)&&decide (e.count≤size - e.start)
theorem jw {size:Int} {e:fG}:mZ size e=true ↔ 0≤e.start∧0≤e.count∧e.start≤size∧e.count≤size - e.start:=by
 unfold mZ;simp [and_assoc]
theorem ajp {size:Int} {e:fG} (hs:0≤size∧size≤4096):cal env 131 [dw e,.int .i64 size]=some [(.bool (mZ size e),false)]:=by
 unfold mZ dw
 by_cases c0:0≤e.start
 ·have F0:(e.start ≥ 0)=True:=eq_true c0
  rw [decide_eq_true c0]
  by_cases c1:0≤e.count
  ·have F1:(e.count ≥ 0)=True:=eq_true c1
   rw [decide_eq_true c1]
   by_cases c2:e.start≤size
   ·have F2:(e.start≤size)=True:=eq_true c2
    have W:IntKind.i64.wrap (size - e.start)=size - e.start:=bn (by omega)
    rw [decide_eq_true c2]
    rw [ah Lh rfl];simp only [BK,aB,Nat.reduceBEq,Nat.reduceLeDiff,Nat.reduceAdd,List.length_cons,List.length_nil]
    simp only [F0,F1,F2,W,au,Nat.reduceMul,Nat.reduceBEq,Nat.reduceLT,Nat.reduceLeDiff,reduceCtorEq,Nat.reduceEqDiff,Nat.reduceAdd,Nat.beq]
   ·have F2:(e.start≤size)=False:=eq_false c2
    rw [decide_eq_false c2]
    rw [ah Lh rfl];simp only [BK,aB,Nat.reduceBEq,Nat.reduceLeDiff,Nat.reduceAdd,List.length_cons,List.length_nil]
    simp only [F0,F1,F2,au,Nat.reduceMul,Nat.reduceBEq,Nat.reduceLT,Nat.reduceLeDiff,reduceCtorEq,Nat.reduceEqDiff,Nat.reduceAdd,Nat.beq]
  ·have F1:(e.count ≥ 0)=False:=eq_false c1
   rw [decide_eq_false c1]
   rw [ah Lh rfl];simp only [BK,aB,Nat.reduceBEq,Nat.reduceLeDiff,Nat.reduceAdd,List.length_cons,List.length_nil]
   simp only [F0,F1,au,Nat.reduceMul,Nat.reduceBEq,Nat.reduceLT,Nat.reduceLeDiff,reduceCtorEq,Nat.reduceEqDiff,Nat.reduceAdd,Nat.beq]
 ·have F0:(e.start ≥ 0)=False:=eq_false c0
  rw [decide_eq_false c0]
  rw [ah Lh rfl];simp only [BK,aB,Nat.reduceBEq,Nat.reduceLeDiff,Nat.reduceAdd,List.length_cons,List.length_nil]
  simp only [F0,au,Nat.reduceMul,Nat.reduceBEq,Nat.reduceLT,Nat.reduceLeDiff,reduceCtorEq,Nat.reduceEqDiff,Nat.reduceAdd,Nat.beq]
def chW (f:Wd→Wd→Wd) (ws:List Wd) (e:fG):List Wd:=ws.mapIdx fun k w=>f w (vO k e.start (e.start+e.count))
theorem VK (f:Wd→Wd→Wd) (ws:List Wd) (e:fG):(chW f ws e).length=ws.length:=by simp [chW]
def Uu (b:Bm) (e:fG):Int:=if okB b=false then 3 else if mZ b.size e=false then 2 else 0
def Zm (f:Wd→Wd→Wd) (b:Bm) (e:fG):Bm:=if Uu b e=0 then ⟨b.size,chW f b.ws e⟩ else ⟨0,[]⟩
def Ap (a b:List Wd) (i:Nat):List PV:=(a.take i++b.drop i).map eW
theorem acS {a b:List Wd} (h:a.length=b.length) (i:Nat):(Ap a b i).length=b.length:=by simp [Ap];omega
theorem acT {a b:List Wd} (h:a.length=b.length) {i:Nat} (hi:i<b.length):(Ap a b i)[i]?=some (eW b[i]):=by
 unfold Ap
 rw [List.getElem?_map,List.getElem?_append_right (by simp;omega),List.length_take,Nat.min_eq_left (by omega),Nat.sub_self,List.getElem?_drop,Nat.add_zero,List.getElem?_eq_getElem hi]
 rfl
theorem acU {a b:List Wd} (h:a.length=b.length) {i:Nat} (hi:i<a.length):(Ap a b i).set i (eW a[i])=Ap a b (i+1):=by
 unfold Ap
 rw [← List.map_set,List.set_append_right _ _ (by simp;omega),List.length_take,Nat.min_eq_left (by omega),Nat.sub_self,List.take_succ_eq_append_getElem hi,List.append_assoc]
 congr 2
 rw [List.drop_eq_getElem_cons (show i<b.length by omega)]
 rfl
theorem YT (a b:List Wd):Ap a b 0=b.map eW:=by simp [Ap]
theorem acV {a b:List Wd} (h:a.length=b.length):Ap a b b.length=a.map eW:=by
 unfold Ap
 rw [List.take_of_length_le (by omega),List.drop_of_length_le (Nat.le_refl _),List.append_nil]
theorem agb {f:Wd→Wd→Wd} {ws:List Wd} {e:fG} {i:Nat} (h:i<(chW f ws e).length) (h2:i<ws.length):(chW f ws e)[i]=f ws[i] (vO i e.start (e.start+e.count)):=by
 simp [chW]
theorem amg {es:List PV} (hl:es.length≤lim):cal env 80 [.list 1 es]=some [(.list 1 es,true)]:=(wQ ahj).trans (if_pos ⟨rfl,hl⟩)
set_option maxRecDepth 20000 in
theorem agc {b:Bm} {e:fG} {f:Wd→Wd→Wd} {gf:Nat} (hf:∀ x y,cal env gf [eW x,eW y]=some [(eW (f x y),false)]) (hm:b.ws.length≤64) (he:0≤e.start∧e.start≤4096∧0≤e.count∧e.count≤4096) {st:St} (h:st.head [3,4,5,6,9,25,27,28] st.boxes.length=some ⟨sl 55 [(3,.aF 0 0),(4,.aF 1 0),(5,.aF 2 0),(6,.aF 3 0),(9,.row 1 (Ap (chW f b.ws e) b.ws ((0:Nat)))),(25,.any),(27,.pv (.int .i64 b.ws.length)),(28,.pv (.int .i64 (0:Nat)))],[⟨false,[.pv (.func gf [])]⟩,⟨false,[.pv (.int .i64 b.size),.pv (.list 1 (b.ws.map eW))]⟩,⟨false,[.pv (.int .i64 e.start),.pv (.int .i64 e.count)]⟩,⟨false,[.pv (.int .i64 0),.row 1 []]⟩],[],none⟩) :
  den env EG st=some (.normal,⟨sl 55 [(4,.aF 1 0),(6,.aF 3 0),(7,.any),(9,.row 1 ((chW f b.ws e).map eW))],[⟨false,[.pv (.func gf [])]⟩,⟨false,[.pv (.int .i64 b.size),.pv (.list 1 (b.ws.map eW))]⟩,⟨false,[.pv (.int .i64 e.start),.pv (.int .i64 e.count)]⟩,⟨false,[.pv (.int .i64 0),.row 1 []]⟩],[],none⟩):=by
 unfold EG
 refine bC (env:=env) (nb:=4) (b.ws.length) (fun i=>⟨sl 55 [(3,.aF 0 0),(4,.aF 1 0),(5,.aF 2 0),(6,.aF 3 0),(9,.row 1 (Ap (chW f b.ws e) b.ws (i))),(25,.any),(27,.pv (.int .i64 b.ws.length)),(28,.pv (.int .i64 i))],[⟨false,[.pv (.func gf [])]⟩,⟨false,[.pv (.int .i64 b.size),.pv (.list 1 (b.ws.map eW))]⟩,⟨false,[.pv (.int .i64 e.start),.pv (.int .i64 e.count)]⟩,⟨false,[.pv (.int .i64 0),.row 1 []]⟩],[],none⟩) (fun i=>some (.normal,⟨sl 55 [(4,.aF 1 0),(6,.aF 3 0),(7,.any),(9,.row 1 ((chW f b.ws e).map eW))],[⟨false,[.pv (.func gf [])]⟩,⟨false,[.pv (.int .i64 b.size),.pv (.list 1 (b.ws.map eW))]⟩,⟨false,[.pv (.int .i64 e.start),.pv (.int .i64 e.count)]⟩,⟨false,[.pv (.int .i64 0),.row 1 []]⟩],[],none⟩)) h (fun _=>rfl) (fun _=>by simp only [aB,bg,Nat.reduceMul,Nat.reduceBEq,Nat.reduceLT,Nat.reduceLeDiff,Nat.reduceAdd,decide_true,Bool.and_self,Bool.true_and]) ?_ ?_
 ·intro i rb hi ih
  have hi1:=bG hi (by unfold lim;omega)
  have F1:((i:Int)<(b.ws.length:Int))=True:=eq_true (by omega)
  have hcl:=VK f b.ws e
  have f1:=acS hcl i
  have f2:=acT hcl hi
  have f3:=acU hcl (i:=i) (by omega)
  have e1:=hf b.ws[i] (vO i e.start (e.start+e.count))
  rw [agb (by omega) hi] at f3
  have W:IntKind.i64.wrap (e.start+e.count)=e.start+e.count:=bn (by omega)
  have e2:=ach (k:=i) (a:=e.start) (b:=e.start+e.count) (by omega) (by omega) (by omega)
  unfold eW at e1 e2 f2 f3 ih ⊢
  simp only [EF,F1,W,e1,e2,f1,f2,f3,aj hi,Option.map_some,List.length_map,au,Nat.reduceMul,Nat.reduceBEq,Nat.reduceLT,Nat.reduceLeDiff,reduceCtorEq,Nat.reduceEqDiff,Nat.reduceAdd,Nat.beq]
  rw [ih _ (by simp only [hi1,au,Nat.reduceMul,Nat.reduceBEq,Nat.reduceLT,Nat.reduceLeDiff,reduceCtorEq,Nat.reduceEqDiff,Nat.reduceAdd,Nat.beq]<;>rfl)]
 ·intro rb
  rw [acV (VK f b.ws e)]
  simp only [EF,Int.lt_irrefl,au,Nat.reduceMul,Nat.reduceBEq,Nat.reduceLT,Nat.reduceLeDiff,reduceCtorEq,Nat.reduceEqDiff,Nat.reduceAdd,Nat.beq]
theorem ajq {b:Bm} {e:fG} {f:Wd→Wd→Wd} {gf:Nat} (hf:∀ x y,cal env gf [eW x,eW y]=some [(eW (f x y),false)]) :
  cal env 122 [.agg [.func gf []],jg b,dw e]=some [(jg (Zm f b e),false),(.int .i64 (Uu b e),false)]:=by
 have P:∀ b:Bm,part [PV.int .i64 b.size,.list 1 (b.ws.map eW)] 0 (some 2)=some (jg b):=fun _=>rfl
 have e1:=acg (b:=b)
 have Z0:((0:Int) != 0)=false:=rfl
 have Z3:((3:Int) != 0)=true:=rfl
 have hz:=P5
 have eA:jg b=.agg [.int .i64 b.size,.list 1 (b.ws.map eW)]:=rfl
 have eX:dw e=.agg [.int .i64 e.start,.int .i64 e.count]:=rfl
 unfold Zm
 cases c1:okB b with
 |false =>
  have hE:Uu b e=3:=by unfold Uu;rw [if_pos c1]
  rw [hE,if_neg (by decide),hz]
  rw [xU c1] at e1
  rw [eA] at e1 ⊢;rw [eX]
  rw [ah Uc rfl];simp only [EH,aB,Nat.reduceBEq,Nat.reduceLeDiff,Nat.reduceAdd,List.length_cons,List.length_nil]
  simp only [e1,Z3,Ip,Io,OM,au,Nat.reduceMul,Nat.reduceBEq,Nat.reduceLT,Nat.reduceLeDiff,reduceCtorEq,Nat.reduceEqDiff,Nat.reduceAdd,Nat.beq]
 |true =>
  rw [EY c1] at e1
  have hsz:=jr c1
  have e2:=ajp (size:=b.size) (e:=e) ⟨hsz.1,hsz.2.1⟩
  cases c2:mZ b.size e with
  |false =>
   have hE:Uu b e=2:=by unfold Uu;rw [if_neg (by rw [c1];decide),if_pos c2]
   rw [hE,if_neg (by decide),hz]
   rw [c2] at e2
   rw [eA] at e1 ⊢;rw [eX] at e2 ⊢
   rw [ah Uc rfl];simp only [EH,aB,Nat.reduceBEq,Nat.reduceLeDiff,Nat.reduceAdd,List.length_cons,List.length_nil]
   simp only [e1,e2,Z0,au,Nat.reduceMul,Nat.reduceBEq,Nat.reduceLT,Nat.reduceLeDiff,reduceCtorEq,Nat.reduceEqDiff,Nat.reduceAdd,Nat.beq]
  |true =>
   have hE:Uu b e=0:=by unfold Uu;rw [if_neg (by rw [c1];decide),if_neg (by rw [c2];decide)]
   rw [hE,if_pos rfl]
   rw [c2] at e2
   have hfi:=jw.1 c2
   have k1:=amg (es:=b.ws.map eW) (by rw [List.length_map];unfold lim;omega)
   rw [eA] at e1 ⊢;rw [eX] at e2 ⊢
   rw [ah Uc rfl];simp only [EH,aB,Nat.reduceBEq,Nat.reduceLeDiff,Nat.reduceAdd,List.length_cons,List.length_nil]
   simp only [e1,e2,k1,Z0,List.length_map,au,Nat.reduceMul,Nat.reduceBEq,Nat.reduceLT,Nat.reduceLeDiff,reduceCtorEq,Nat.reduceEqDiff,Nat.reduceAdd,Nat.beq]
   have q1:b.ws.length≤64:=by omega
   have q2:0≤e.start∧e.start≤4096∧0≤e.count∧e.count≤4096:=by omega
   rw [agc hf q1 q2]
   rotate_left
   ·rw [YT]
    simp only [aB,bg,Nat.reduceMul,Nat.reduceBEq,Nat.reduceLT,Nat.reduceLeDiff,Nat.reduceAdd,decide_true,Bool.and_self,Bool.true_and]<;>rfl
   ·simp only [e1,e2,k1,Z0,List.length_map,au,Nat.reduceMul,Nat.reduceBEq,Nat.reduceLT,Nat.reduceLeDiff,reduceCtorEq,Nat.reduceEqDiff,Nat.reduceAdd,Nat.beq]
    rfl
theorem ajr (x y:Wd):cal env 121 [eW x,eW y]=some [(eW (x ||| y),false)]:=by
 have W:=aoB x y
 unfold eW
 rw [ah aiN rfl];simp only [Pj];simp only [start,aQ,aV,aO,aU,aH,aJ,aP,aS,Nat.reduceAdd,Nat.reduceSub]
 simp only [W,bV,reduceCtorEq,Nat.reduceEqDiff,Nat.reduceAdd,Nat.reduceLT,Nat.reduceLeDiff,Nat.beq]
theorem ajs {b:Bm} {e:fG}:cal env 108 [jg b,dw e]=some [(jg (Zm orW b e),false),(.int .i64 (Uu b e),false)]:=by
 have e1:=ajq (b:=b) (e:=e) (f:=orW) (gf:=121) ajr
 have eA:∀ a:Bm,jg a=.agg [.int .i64 a.size,.list 1 (a.ws.map eW)]:=fun _=>rfl
 have eX:dw e=.agg [.int .i64 e.start,.int .i64 e.count]:=rfl
 rw [eA,eA,eX] at e1 ⊢
 rw [ah aiE rfl];simp only [O4];simp only [start,aQ,aV,aO,aU,aH,aJ,aP,aS,Nat.reduceAdd,Nat.reduceSub]
 simp only [e1,bV,reduceCtorEq,Nat.reduceEqDiff,Nat.reduceAdd,Nat.reduceLT,Nat.reduceLeDiff,Nat.beq]
end Go.Proofs.YtpcncggjmabnaaaGreatDoor.V

namespace Go.Proofs.YtpcncggjmabnaaaGreatDoor.V
def Dh (b:Bm) (l:List fG):Bm:=l.foldl (fun b e=>Zm orW b e) b
def frE:Bm→List fG→Int
 |_,[]=>0
 |b,e :: l=>if Uu b e=0 then frE (Zm orW b e) l else Uu b e
end Go.Proofs.YtpcncggjmabnaaaGreatDoor.V

namespace Go.Proofs.YtpcncggjmabnaaaGreatDoor.V
theorem ajt {n:Nat} (h:n≤4096):newE (n:Int)=0∧okB (mW (n:Int))=true∧(mW (n:Int)).size=(n:Int)∧∀ s,bit (mW (n:Int)).ws s=false:=by
 have e1:newE (n:Int)=0:=by unfold newE;rw [if_neg (by omega)]
 have e2:mW (n:Int)=⟨n,List.replicate (lN n).toNat 0⟩:=by unfold mW;rw [if_neg (by omega)]
 have hb:∀ s,bit (List.replicate (lN n).toNat (0:Wd)) s=false:=fun s=>by
  unfold bit
  rw [List.getD_eq_getElem?_getD,List.getElem?_replicate]
  split<;>simp
 rw [e2]
 refine ⟨e1,qN.2 ⟨⟨by show (0:Int)≤(n:Int);omega,by show (n:Int)≤4096;omega,?_⟩,fun i _=>hb i⟩,rfl,hb⟩
 show ((List.replicate (lN n).toNat (0:Wd)).length:Int)=lN n
 rw [List.length_replicate]
 exact aga (by omega)
theorem agd (ws:List Wd) (e:fG):chW orW ws e=setW ws e.start (e.start+e.count):=rfl
theorem acW {b:Bm} {e:fG} (h:okB b=true) (hf:mZ b.size e=true):Uu b e=0∧okB (Zm orW b e)=true∧(Zm orW b e).size=b.size∧∀ s:Nat,(s:Int)<b.size→bit (Zm orW b e).ws s=(bit b.ws s || decide (e.start≤(s:Int)∧(s:Int)<e.start+e.count)):=by
 have hE:Uu b e=0:=by unfold Uu;rw [if_neg (by rw [h];decide),if_neg (by rw [hf];decide)]
 have hO:Zm orW b e=⟨b.size,setW b.ws e.start (e.start+e.count)⟩:=by unfold Zm;rw [if_pos hE,agd]
 have hs:=jr h
 have hf:=jw.1 hf
 rw [hO]
 have hl:(setW b.ws e.start (e.start+e.count)).length=b.ws.length:=by simp [setW]
 refine ⟨hE,qN.2 ⟨⟨hs.1,hs.2.1,?_⟩,fun i hi=>?_⟩,rfl,fun s hlt=>VI (by omega)⟩
 ·show ((setW b.ws e.start (e.start+e.count)).length:Int)=_
  rw [hl];exact (qN.1 h).1.2.2
 ·have hi:b.size≤(i:Int):=hi
  by_cases c:i<64 * b.ws.length
  ·show bit (setW b.ws e.start (e.start+e.count)) i=false
   rw [VI c,(qN.1 h).2 i hi,decide_eq_false (by omega)]
   rfl
  ·exact Ll (by show 64 * (setW b.ws e.start (e.start+e.count)).length≤i;rw [hl];omega)
end Go.Proofs.YtpcncggjmabnaaaGreatDoor.V

namespace Go.Proofs.YtpcncggjmabnaaaGreatDoor.V
theorem Fj {α:Type} {l:List α} {i:Nat} (h:i<l.length):l.take (i+1)=l.take i++[l[i]]:=by rw [List.take_succ_eq_append_getElem h]
def okE (x:fG):Prop:=(-9223372036854775808≤x.start∧x.start≤9223372036854775807)∧(-9223372036854775808≤x.count∧x.count≤9223372036854775807)
def GN (l:List fG):Prop:=∀ x∈l,okE x
def uI (e:fG):Int:=max e.start 0
def Zn (e:fG):Int:=if e.start<0∨e.count<4096 - e.start then min (e.start+e.count) 4096 else 4096
def wX (e:fG):Int × Int × Bool:=if e.count≤0 then (0,0,false) else (uI e,Zn e,decide (uI e<Zn e))
def IL (e:fG) (s:Nat):Bool:=decide (0<e.count)&&(decide (e.start≤(s:Int))&&decide ((s:Int)<e.start+e.count))
theorem LH {e:fG} (h:(wX e).2.2=true):∃ n m:Nat,wX e=((n:Int),(m:Int),true)∧n<m∧m≤4096∧∀ s:Nat,s<4096→(IL e s=true ↔ n≤s∧s<m):=by
 unfold wX at h ⊢
 by_cases c:e.count≤0
 ·rw [if_pos c] at h;cases h
 ·rw [if_neg c] at h ⊢
  have h2:uI e<Zn e:=by simpa using h
  have h3:0≤uI e:=by unfold uI;omega
  have h4:Zn e≤4096:=by unfold Zn;split<;>omega
  refine ⟨(uI e).toNat,(Zn e).toNat,?_,by omega,by omega,fun s hs=>?_⟩
  ·rw [Int.toNat_of_nonneg h3,Int.toNat_of_nonneg (by omega),decide_eq_true h2]
  ·unfold IL
   simp only [Bool.and_eq_true,decide_eq_true_eq]
   have e1:(uI e).toNat≤s ↔ uI e≤(s:Int):=by omega
   have e2:s<(Zn e).toNat ↔ (s:Int)<Zn e:=by omega
   rw [e1,e2]
   unfold uI Zn
   split<;>omega
theorem acX {e:fG} (h:(wX e).2.2=false) {s:Nat} (hs:s<4096):IL e s=false:=by
 unfold wX at h
 by_cases c:e.count≤0
 ·unfold IL
  rw [decide_eq_false (by omega),Bool.false_and]
 ·rw [if_neg c] at h
  have h2:¬ uI e<Zn e:=by simpa using h
  unfold IL
  cases hq:(decide (0<e.count)&&(decide (e.start≤(s:Int))&&decide ((s:Int)<e.start+e.count))) with
  |false=>rfl
  |true =>
   exfalso
   simp only [Bool.and_eq_true,decide_eq_true_eq] at hq
   apply h2
   unfold uI Zn
   split<;>omega
theorem aju {e:fG} (ho:okE e):cal env 135 [dw e]=some [(.int .i64 (wX e).1,false),(.int .i64 (wX e).2.1,false),(.bool (wX e).2.2,false)]:=by
 obtain ⟨⟨o1,o2⟩,o3,o4⟩:=ho
 unfold wX
 simp only [dw]
 by_cases c:e.count≤0
 ·rw [if_pos c]
  rw [ah Lj rfl];simp only [BL,aB,Nat.reduceBEq,Nat.reduceLeDiff,Nat.reduceAdd,List.length_cons,List.length_nil]
  simp only [c,au,Nat.reduceMul,Nat.reduceBEq,Nat.reduceLT,Nat.reduceLeDiff,reduceCtorEq,Nat.reduceEqDiff,Nat.reduceAdd,Nat.beq]
 ·rw [if_neg c]
  unfold uI Zn
  have hmin:min (e.start+e.count) 4096=if 4096<e.start+e.count then 4096 else e.start+e.count:=by split<;>omega
  by_cases c1:e.start<0
  ·have hmax:max e.start 0=0:=by omega
   rw [hmin,hmax]
   have W1:IntKind.i64.wrap (e.start+e.count)=e.start+e.count:=bn (by omega)
   rw [if_pos (.inl c1)]
   rw [ah Lj rfl];simp only [BL,aB,Nat.reduceBEq,Nat.reduceLeDiff,Nat.reduceAdd,List.length_cons,List.length_nil]
   simp only [c,c1,W1,au,Nat.reduceMul,Nat.reduceBEq,Nat.reduceLT,Nat.reduceLeDiff,reduceCtorEq,Nat.reduceEqDiff,Nat.reduceAdd,Nat.beq]
  ·have hmax:max e.start 0=e.start:=by omega
   rw [hmin,hmax]
   have W2:IntKind.i64.wrap (4096 - e.start)=4096 - e.start:=bn (by omega)
   by_cases c2:e.count<4096 - e.start
   ·have W1:IntKind.i64.wrap (e.start+e.count)=e.start+e.count:=bn (by omega)
    rw [if_pos (.inr c2)]
    rw [ah Lj rfl];simp only [BL,aB,Nat.reduceBEq,Nat.reduceLeDiff,Nat.reduceAdd,List.length_cons,List.length_nil]
    simp only [c,c1,c2,W1,W2,au,Nat.reduceMul,Nat.reduceBEq,Nat.reduceLT,Nat.reduceLeDiff,reduceCtorEq,Nat.reduceEqDiff,Nat.reduceAdd,Nat.beq]
   ·rw [if_neg (by omega)]
    rw [ah Lj rfl];simp only [BL,aB,Nat.reduceBEq,Nat.reduceLeDiff,Nat.reduceAdd,List.length_cons,List.length_nil]
    simp only [c,c1,c2,W2,au,Nat.reduceMul,Nat.reduceBEq,Nat.reduceLT,Nat.reduceLeDiff,reduceCtorEq,Nat.reduceEqDiff,Nat.reduceAdd,Nat.beq]
def fF (i:Nat) (l:List fG):List End:=l.flatMap fun e=>if (wX e).2.2 then [⟨(wX e).1.toNat,i,1⟩,⟨(wX e).2.1.toNat,i,-1⟩] else []
theorem Fp (i:Nat) (l:List fG) (e:fG):fF i (l++[e])=fF i l++(if (wX e).2.2 then [⟨(wX e).1.toNat,i,1⟩,⟨(wX e).2.1.toNat,i,-1⟩] else []):=by simp [fF]
theorem Aq (i:Nat):∀ l:List fG,(fF i l).length≤2 * l.length
 |[]=>Nat.le_refl _
 |e :: l=>by
  have:=Aq i l
  have h:fF i (e :: l)=(if (wX e).2.2 then [⟨(wX e).1.toNat,i,1⟩,⟨(wX e).2.1.toNat,i,-1⟩] else [])++fF i l:=by simp [fF]
  rw [h,List.length_append,List.length_cons]
  split<;>simp<;>omega
def dh:Nat→List (List fG)→List End
 |_,[]=>[]
 |i,l :: ls=>fF i l++dh (i+1) ls
theorem zB:∀ (ls:List (List fG)) (i:Nat) (l:List fG),dh i (ls++[l])=dh i ls++fF (i+ls.length) l
 |[],i,l=>by simp [dh]
 |m :: ls,i,l=>by
  simp only [List.cons_append,dh,zB ls (i+1) l,List.length_cons,List.append_assoc]
  rw [show i+1+ls.length=i+(ls.length+1) by omega]
theorem qO {n:Nat}:∀ (ls:List (List fG)) (i:Nat),(∀ l∈ls,l.length≤n)→(dh i ls).length≤2 * n * ls.length
 |[],i,_=>Nat.zero_le _
 |l :: ls,i,h=>by
  have h1:=qO ls (i+1) fun x hx=>h x (by simp [hx])
  have h2:=Aq i l
  have h3:=h l (by simp)
  simp only [dh,List.length_append,List.length_cons]
  rw [Nat.mul_add]
  omega
set_option maxRecDepth 20000 in
theorem agf {D:PV} {l:List fG} {pre:List End} {v n:Nat} {q17:AV} (hq:q17=.pv (.list 2 (l.map dw))) (ho:GN l) (hl:l.length≤100000) (hpre:pre.length≤10000000) {st:St} (h:st.head [0,3,4,5,11,12,13,17,18,19,20,39] st.boxes.length=some ⟨sl 45 [(0,.pv D),(3,.row 3 ((pre++fF v (l.take ((0:Nat)))).map jc)),(4,.pv (.int .i64 v)),(5,.pv (.list 2 (l.map dw))),(11,.pv D),(12,.pv (.int .i64 n)),(13,.pv (.int .i64 v)),(17,.pv (.list 2 (l.map dw))),(18,.pv (.list 2 (l.map dw))),(19,.pv (.int .i64 l.length)),(20,.pv (.int .i64 (0:Nat))),(39,.any)],[],[],none⟩) :
  den env EN st=some (.normal,⟨sl 45 [(0,.pv D),(2,.any),(3,.row 3 ((pre++fF v l).map jc)),(11,.pv D),(12,.pv (.int .i64 n)),(13,.pv (.int .i64 v)),(39,.any)],[],[],none⟩):=by
 unfold EN
 refine bC (env:=env) (l.length) (fun i=>⟨sl 45 [(0,.pv D),(3,.row 3 ((pre++fF v (l.take (i))).map jc)),(4,.pv (.int .i64 v)),(5,.pv (.list 2 (l.map dw))),(11,.pv D),(12,.pv (.int .i64 n)),(13,.pv (.int .i64 v)),(17,.pv (.list 2 (l.map dw))),(18,.pv (.list 2 (l.map dw))),(19,.pv (.int .i64 l.length)),(20,.pv (.int .i64 i)),(39,.any)],[],[],none⟩) (fun i=>some (.normal,⟨sl 45 [(0,.pv D),(2,.any),(3,.row 3 ((pre++fF v l).map jc)),(11,.pv D),(12,.pv (.int .i64 n)),(13,.pv (.int .i64 v)),(39,.any)],[],[],none⟩)) h (fun _=>rfl) (fun _=>by simp only [aB,bg,Nat.reduceMul,Nat.reduceBEq,Nat.reduceLT,Nat.reduceLeDiff,Nat.reduceAdd,decide_true,Bool.and_self,Bool.true_and]) ?_ ?_
 ·intro i rb hi ih
  have hlim:lim=1073741824:=rfl
  have hi1:=bG hi (by omega)
  have F1:((i:Int)<(l.length:Int))=True:=eq_true (by omega)
  have hx:l[i]?=some l[i]:=List.getElem?_eq_getElem hi
  have ht:=Fj hi
  have hox:=ho _ (List.getElem_mem hi)
  generalize l[i]=x at *
  have e1:=aju hox
  have hrl:=Aq v (l.take i)
  rw [List.length_take] at hrl
  have P2:part [PV.int .i64 x.start,.int .i64 x.count] 0 (some 2)=some (.agg [.int .i64 x.start,.int .i64 x.count]):=rfl
  simp only [dw] at e1
  cases hw:(wX x).2.2 with
  |false =>
   rw [hw] at e1
   have hs:fF v (l.take (i+1))=fF v (l.take i):=by rw [ht,Fp,hw];simp
   simp only [zu,F1,hx,e1,dw,P2,aj hi,List.getElem?_map,Option.map_some,List.length_map,List.length_cons,List.length_nil,au,Nat.reduceMul,Nat.reduceBEq,Nat.reduceLT,Nat.reduceLeDiff,reduceCtorEq,Nat.reduceEqDiff,Nat.reduceAdd,Nat.beq]
   rw [ih _ (by simp only [hi1,hs,au,Nat.reduceMul,Nat.reduceBEq,Nat.reduceLT,Nat.reduceLeDiff,reduceCtorEq,Nat.reduceEqDiff,Nat.reduceAdd,Nat.beq]<;>rfl)]
  |true =>
   obtain ⟨a,b,hab,-,-,-⟩:=LH hw
   have hs:fF v (l.take (i+1))=fF v (l.take i)++[⟨a,v,1⟩,⟨b,v,-1⟩]:=by rw [ht,Fp,hab];simp
   rw [hab] at e1
   have F2:((pre++fF v (l.take i)).length+1+1≤lim)=True:=eq_true (by rw [List.length_append];omega)
   have F3:((pre++fF v (l.take i)).length+2≤lim)=True:=eq_true (by rw [List.length_append];omega)
   simp only [zu,F1,F2,F3,hx,e1,dw,P2,aj hi,List.getElem?_map,Option.map_some,List.length_map,List.length_cons,List.length_nil,au,Nat.reduceMul,Nat.reduceBEq,Nat.reduceLT,Nat.reduceLeDiff,reduceCtorEq,Nat.reduceEqDiff,Nat.reduceAdd,Nat.beq]
   rw [ih _ (by simp only [hi1,hs,← List.append_assoc,List.map_append,List.map_cons,List.map_nil,jc,au,Nat.reduceMul,Nat.reduceBEq,Nat.reduceLT,Nat.reduceLeDiff,reduceCtorEq,Nat.reduceEqDiff,Nat.reduceAdd,Nat.beq]<;>rfl)]
 ·intro rb
  simp only [zu,Int.lt_irrefl,List.length_map,List.take_length,au,Nat.reduceMul,Nat.reduceBEq,Nat.reduceLT,Nat.reduceLeDiff,reduceCtorEq,Nat.reduceEqDiff,Nat.reduceAdd,Nat.beq]
set_option maxRecDepth 20000 in
theorem YU {ls:List (List fG)} (ho:∀ l∈ls,GN l) (hr:∀ l∈ls,l.length≤100000) (hl:ls.length≤10) {st:St} (h:st.head [0,3,11,12,13,39] st.boxes.length=some ⟨sl 45 [(0,.pv (.list 1 (ls.map yC))),(3,.row 3 ((dh 0 (ls.take ((0:Nat)))).map jc)),(11,.pv (.list 1 (ls.map yC))),(12,.pv (.int .i64 ls.length)),(13,.pv (.int .i64 (0:Nat))),(39,.any)],[],[],none⟩) :
  den env EP st=some (.normal,⟨sl 45 [(2,.any),(3,.row 3 ((dh 0 ls).map jc))],[],[],none⟩):=by
 unfold EP
 refine bC (env:=env) (ls.length) (fun i=>⟨sl 45 [(0,.pv (.list 1 (ls.map yC))),(3,.row 3 ((dh 0 (ls.take (i))).map jc)),(11,.pv (.list 1 (ls.map yC))),(12,.pv (.int .i64 ls.length)),(13,.pv (.int .i64 i)),(39,.any)],[],[],none⟩) (fun i=>some (.normal,⟨sl 45 [(2,.any),(3,.row 3 ((dh 0 ls).map jc))],[],[],none⟩)) h (fun _=>rfl) (fun _=>by simp only [aB,bg,Nat.reduceMul,Nat.reduceBEq,Nat.reduceLT,Nat.reduceLeDiff,Nat.reduceAdd,decide_true,Bool.and_self,Bool.true_and]) ?_ ?_
 ·intro i rb hi ih
  have hlim:lim=1073741824:=rfl
  have hi1:=bG hi (by omega)
  have F1:((i:Int)<(ls.length:Int))=True:=eq_true (by omega)
  have hx:ls[i]?=some ls[i]:=List.getElem?_eq_getElem hi
  have ht:=Fj hi
  have hox:=ho _ (List.getElem_mem hi)
  have hrx:=hr _ (List.getElem_mem hi)
  have hli:(ls.take i).length=i:=by rw [List.length_take];omega
  have hp:=qO (n:=100000) (ls.take i) 0 fun l hl=>hr l (List.mem_of_mem_take hl)
  rw [hli] at hp
  generalize ls[i]=l at *
  have hs:dh 0 (ls.take (i+1))=dh 0 (ls.take i)++fF i l:=by rw [ht,zB,hli,Nat.zero_add]
  have hr0:fF i ([]:List fG)=[]:=rfl
  simp only [EO,F1,hx,yC,aj hi,List.getElem?_map,Option.map_some,List.length_map,au,Nat.reduceMul,Nat.reduceBEq,Nat.reduceLT,Nat.reduceLeDiff,reduceCtorEq,Nat.reduceEqDiff,Nat.reduceAdd,Nat.beq]
  rw [agf (l:=l) (pre:=dh 0 (ls.take i)) (v:=i) (q17:=.pv (.list 2 (l.map dw))) rfl hox hrx (by omega)]
  rotate_left
  ·simp only [qL,hr0,List.append_nil,yC,au,Nat.reduceMul,Nat.reduceBEq,Nat.reduceLT,Nat.reduceLeDiff,reduceCtorEq,Nat.reduceEqDiff,Nat.reduceAdd,Nat.beq]<;>rfl
  simp only [au,Nat.reduceMul,Nat.reduceBEq,Nat.reduceLT,Nat.reduceLeDiff,reduceCtorEq,Nat.reduceEqDiff,Nat.reduceAdd,Nat.beq]
  rw [ih _ (by simp only [hi1,hs,yC,au,Nat.reduceMul,Nat.reduceBEq,Nat.reduceLT,Nat.reduceLeDiff,reduceCtorEq,Nat.reduceEqDiff,Nat.reduceAdd,Nat.beq]<;>rfl)]
 ·intro rb
  simp only [EO,Int.lt_irrefl,List.length_map,List.take_length,au,Nat.reduceMul,Nat.reduceBEq,Nat.reduceLT,Nat.reduceLeDiff,reduceCtorEq,Nat.reduceEqDiff,Nat.reduceAdd,Nat.beq]
def lD (ls:List (List fG)):List End:=qM (dh 0 ls)
theorem ajv {ls:List (List fG)} (ho:∀ l∈ls,GN l) (hr:∀ l∈ls,l.length≤10000) (hl:ls.length≤2) (hsl:(lD ls).length=(dh 0 ls).length):cal env 134 [.list 1 (ls.map yC)]=some [(.list 3 ((lD ls).map jc),true)]:=by
 have hp:=qO (n:=10000) ls 0 hr
 have hp2:(dh 0 ls).length≤1000000:=by
  have:2 * 10000 * ls.length≤2 * 10000 * 2:=Nat.mul_le_mul_left _ hl
  omega
 have h1:=GI (g:=137) (l:=dh 0 ls) hp2
 have h2:((qM (dh 0 ls)).map jc).length=((dh 0 ls).map jc).length:=by
  rw [List.length_map,List.length_map];exact hsl
 unfold lD
 have hcond:(0=0∧(dh 0 ls).length=((dh 0 ls).map jc).length∧((qM (dh 0 ls)).map jc).length=((dh 0 ls).map jc).length)=True:=eq_true ⟨rfl,by simp,h2⟩
 rw [ah aiV rfl];simp only [PD,aB,Nat.reduceBEq,Nat.reduceLeDiff,Nat.reduceAdd,List.length_cons,List.length_nil]
 simp only [List.length_map,abU,h1,hsl,au,Nat.reduceMul,Nat.reduceBEq,Nat.reduceLT,Nat.reduceLeDiff,reduceCtorEq,Nat.reduceEqDiff,Nat.reduceAdd,Nat.beq]
 rw [YU ho (fun l h=>by have:=hr l h;omega) (by omega) (by simp only [qL,dh,List.map_nil,au,Nat.reduceMul,Nat.reduceBEq,Nat.reduceLT,Nat.reduceLeDiff,reduceCtorEq,Nat.reduceEqDiff,Nat.reduceAdd,Nat.beq]<;>rfl)]
 simp only [h2,List.length_map,abU,h1,hsl,au,Nat.reduceMul,Nat.reduceBEq,Nat.reduceLT,Nat.reduceLeDiff,reduceCtorEq,Nat.reduceEqDiff,Nat.reduceAdd,Nat.beq]
 rw [← hsl]
 unfold lD
 rw [y8]
end Go.Proofs.YtpcncggjmabnaaaGreatDoor.V

namespace Go.Proofs
open Go.Shelf
def Tryz.sortEnd_ren:Go.Shelf.Ren:=⟨fun|6=>136|15=>140|14=>139|28=>150|29=>151|20=>142|21=>143|22=>144|23=>145|24=>146|25=>147|26=>148|27=>149|46=>152|47=>153|48=>154|49=>155|50=>156|57=>157|n=>n,fun|22=>188|24=>192|25=>198|3=>3|39=>176|0=>0|53=>209|55=>134|4=>4|46=>203|45=>202|50=>119|5=>5|9=>9|66=>210|70=>214|76=>216|77=>217|n=>n,fun|n=>n⟩
theorem Tryz.sortEnd:Go.Proofs.SlLaysF0.n6 Tryz.prog Tryz.sortEnd_ren:={
 mixed:=by kernel_rfl
 f6:=⟨Tryz.f136.name,by decide,Tryz.func136.trans (congrArg some (by kernel_rfl))⟩
 f14:=⟨Tryz.f139.name,by decide,Tryz.func139.trans (congrArg some (by kernel_rfl))⟩
 f15:=Tryz.func140.trans (congrArg some (by kernel_rfl))
 f20:=⟨Tryz.f142.name,by decide,Tryz.func142.trans (congrArg some (by kernel_rfl))⟩
 f21:=⟨Tryz.f143.name,by decide,Tryz.func143.trans (congrArg some (by kernel_rfl))⟩
 f22:=⟨Tryz.f144.name,by decide,Tryz.func144.trans (congrArg some (by kernel_rfl))⟩
 f23:=⟨Tryz.f145.name,by decide,Tryz.func145.trans (congrArg some (by kernel_rfl))⟩
 f24:=⟨Tryz.f146.name,by decide,Tryz.func146.trans (congrArg some (by kernel_rfl))⟩
 f25:=⟨Tryz.f147.name,by decide,Tryz.func147.trans (congrArg some (by kernel_rfl))⟩
 f26:=⟨Tryz.f148.name,by decide,Tryz.func148.trans (congrArg some (by kernel_rfl))⟩
 f27:=⟨Tryz.f149.name,by decide,Tryz.func149.trans (congrArg some (by kernel_rfl))⟩
 f28:=Tryz.func150.trans (congrArg some (by kernel_rfl))
 f29:=Tryz.func151.trans (congrArg some (by kernel_rfl))
 f46:=⟨Tryz.f152.name,by decide,Tryz.func152.trans (congrArg some (by kernel_rfl))⟩
 f47:=Tryz.func153.trans (congrArg some (by kernel_rfl))
 f48:=Tryz.func154.trans (congrArg some (by kernel_rfl))
 f49:=⟨Tryz.f155.name,by decide,Tryz.func155.trans (congrArg some (by kernel_rfl))⟩
 f50:=⟨Tryz.f156.name,by decide,Tryz.func156.trans (congrArg some (by kernel_rfl))⟩
 f57:=⟨Tryz.f157.name,by decide,Tryz.func157.trans (congrArg some (by kernel_rfl))⟩
 t0:=Tryz.underlying0
 a0:=Tryz.isAgg0
 z0:=Tryz.sizeOf0
 v0:=Tryz.zeroValue0
 t3:=Tryz.underlying3
 a3:=Tryz.isAgg3
 z3:=Tryz.sizeOf3
 v3:=Tryz.zeroValue3
 t4:=Tryz.underlying4
 a4:=Tryz.isAgg4
 z4:=Tryz.sizeOf4
 v4:=Tryz.zeroValue4
 t5:=Tryz.underlying5
 a5:=Tryz.isAgg5
 z5:=Tryz.sizeOf5
 v5:=Tryz.zeroValue5
 t9:=Tryz.underlying9
 a9:=Tryz.isAgg9
 z9:=Tryz.sizeOf9
 v9:=Tryz.zeroValue9
 t22:=Tryz.underlying188
 a22:=Tryz.isAgg188
 z22:=Tryz.sizeOf188
 v22:=Tryz.zeroValue188
 t25:=Tryz.underlying198
 a25:=Tryz.isAgg198
 z25:=Tryz.sizeOf198
 v25:=Tryz.zeroValue198
 t39:=Tryz.underlying176
 a39:=Tryz.isAgg176
 z39:=Tryz.sizeOf176
 v39:=Tryz.zeroValue176
 t45:=Tryz.underlying202
 a45:=Tryz.isAgg202
 z45:=Tryz.sizeOf202
 v45:=Tryz.zeroValue202
 t46:=Tryz.underlying203
 a46:=Tryz.isAgg203
 z46:=Tryz.sizeOf203
 v46:=Tryz.zeroValue203
 t50:=Tryz.underlying119
 a50:=Tryz.isAgg119
 z50:=Tryz.sizeOf119
 v50:=Tryz.zeroValue119
 t53:=Tryz.underlying209
 a53:=Tryz.isAgg209
 z53:=Tryz.sizeOf209
 v53:=Tryz.zeroValue209
 t55:=Tryz.underlying134
 a55:=Tryz.isAgg134
 z55:=Tryz.sizeOf134
 v55:=Tryz.zeroValue134
 t66:=Tryz.underlying210
 a66:=Tryz.isAgg210
 z66:=Tryz.sizeOf210
 v66:=Tryz.zeroValue210
 t70:=Tryz.underlying214
 a70:=Tryz.isAgg214
 z70:=Tryz.sizeOf214
 v70:=Tryz.zeroValue214
 t76:=Tryz.underlying216
 a76:=Tryz.isAgg216
 z76:=Tryz.sizeOf216
 v76:=Tryz.zeroValue216
 t77:=Tryz.underlying217
 a77:=Tryz.isAgg217
 z77:=Tryz.sizeOf217
 v77:=Tryz.zeroValue217 }
def Tryz.cmpInt_ren:Go.Shelf.Ren:=⟨fun|5=>138|7=>141|n=>n,fun|22=>3|3=>3|4=>4|n=>n,fun|n=>n⟩
theorem Tryz.cmpInt:Go.Proofs.SlLaysC2.n5 Tryz.prog Tryz.cmpInt_ren:={
 mixed:=by kernel_rfl
 f5:=⟨Tryz.f138.name,by decide,Tryz.func138.trans (congrArg some (by kernel_rfl))⟩
 f7:=⟨Tryz.f141.name,by decide,Tryz.func141.trans (congrArg some (by kernel_rfl))⟩
 t3:=Tryz.underlying3
 a3:=Tryz.isAgg3
 z3:=Tryz.sizeOf3
 v3:=Tryz.zeroValue3
 t4:=Tryz.underlying4
 a4:=Tryz.isAgg4
 z4:=Tryz.sizeOf4
 v4:=Tryz.zeroValue4
 t22:=Tryz.underlying3
 a22:=Tryz.isAgg3
 z22:=Tryz.sizeOf3
 v22:=Tryz.zeroValue3 }
end Go.Proofs
