/-
  Part 6 of the texts that the statement stands on.
-/
import Derived.Test.YtpcncggjmabnaaaGreatDoorZ5
import Derived.Test.YtpcncggjmabnaaaGreatDoorProg
import Derived.Shelf.SlSortCmp.WholeK
import Derived.Shelf.SlSortCmp.NoneTotal
import Derived.Shelf.SlicesG.Cmp
import Derived.Shelf.Small.Bits
import Derived.Ground.SlsfProg
import Derived.Ground.SlgcProg
import Derived.Ground.NamesProg
set_option linter.all false
namespace Go.Proofs.YtpcncggjmabnaaaGreatDoor.V
theorem aw0:cal env 11 [(.list 1 [(.int .i64 4)]),(.int .i64 2)]=some [((.agg [(.int .i64 2),(.list 1 [(.int .i64 4)]),(.list 5 []),(.bool false),(.int .i64 0),(.int .i64 0),(.list 2 [])]),false),((.int .i64 0),false)]:=dh (n:=400) (by kernel_rfl)
theorem aw1:cal env 36 [(.int .i64 0),(.int .i64 1),(.int .i64 0),(.int .u8 1)]=some [((.agg [(.int .i64 0),(.int .i64 1),(.int .i64 0),(.list 1 []),(.list 3 [(.agg [(.int .i64 0),(.int .i64 0),(.list 8 [(.agg [(.int .u8 1),(.int .u8 0),(.int .u8 0),(.int .u8 0),(.int .u8 0),(.int .u8 0),(.int .u8 0),(.int .u8 0)])])])])]),false)]:=dh (n:=400) (by kernel_rfl)
theorem aw2:cal env 16 [(.agg [(.int .i64 2),(.list 1 [(.int .i64 4)]),(.list 5 []),(.bool false),(.int .i64 0),(.int .i64 0),(.list 2 [])]),(.agg [(.int .i64 0),(.int .i64 1),(.int .i64 0),(.list 1 []),(.list 3 [(.agg [(.int .i64 0),(.int .i64 0),(.list 8 [(.agg [(.int .u8 1),(.int .u8 0),(.int .u8 0),(.int .u8 0),(.int .u8 0),(.int .u8 0),(.int .u8 0),(.int .u8 0)])])])])])]=some [((.agg [(.int .i64 2),(.list 1 [(.int .i64 4)]),(.list 5 [(.agg [(.int .i64 0),(.int .i64 1),(.int .i64 0),(.list 1 []),(.list 3 [(.agg [(.int .i64 0),(.int .i64 0),(.list 8 [(.agg [(.int .u8 1),(.int .u8 0),(.int .u8 0),(.int .u8 0),(.int .u8 0),(.int .u8 0),(.int .u8 0),(.int .u8 0)])])])])])]),(.bool false),(.int .i64 0),(.int .i64 1),(.list 2 [])]),false),((.int .i64 0),false)]:=dh (n:=400) (by kernel_rfl)
theorem aw3:cal env 36 [(.int .i64 1),(.int .i64 2),(.int .i64 1),(.int .u8 2)]=some [((.agg [(.int .i64 1),(.int .i64 2),(.int .i64 0),(.list 1 []),(.list 3 [(.agg [(.int .i64 0),(.int .i64 1),(.list 8 [(.agg [(.int .u8 2),(.int .u8 0),(.int .u8 0),(.int .u8 0),(.int .u8 0),(.int .u8 0),(.int .u8 0),(.int .u8 0)])])])])]),false)]:=dh (n:=400) (by kernel_rfl)
theorem aw4:cal env 16 [(.agg [(.int .i64 2),(.list 1 [(.int .i64 4)]),(.list 5 [(.agg [(.int .i64 0),(.int .i64 1),(.int .i64 0),(.list 1 []),(.list 3 [(.agg [(.int .i64 0),(.int .i64 0),(.list 8 [(.agg [(.int .u8 1),(.int .u8 0),(.int .u8 0),(.int .u8 0),(.int .u8 0),(.int .u8 0),(.int .u8 0),(.int .u8 0)])])])])])]),(.bool false),(.int .i64 0),(.int .i64 1),(.list 2 [])]),(.agg [(.int .i64 1),(.int .i64 2),(.int .i64 0),(.list 1 []),(.list 3 [(.agg [(.int .i64 0),(.int .i64 1),(.list 8 [(.agg [(.int .u8 2),(.int .u8 0),(.int .u8 0),(.int .u8 0),(.int .u8 0),(.int .u8 0),(.int .u8 0),(.int .u8 0)])])])])])]=some [((.agg [(.int .i64 2),(.list 1 [(.int .i64 4)]),(.list 5 [(.agg [(.int .i64 0),(.int .i64 1),(.int .i64 0),(.list 1 []),(.list 3 [(.agg [(.int .i64 0),(.int .i64 0),(.list 8 [(.agg [(.int .u8 1),(.int .u8 0),(.int .u8 0),(.int .u8 0),(.int .u8 0),(.int .u8 0),(.int .u8 0),(.int .u8 0)])])])])]),(.agg [(.int .i64 1),(.int .i64 2),(.int .i64 0),(.list 1 []),(.list 3 [(.agg [(.int .i64 0),(.int .i64 1),(.list 8 [(.agg [(.int .u8 2),(.int .u8 0),(.int .u8 0),(.int .u8 0),(.int .u8 0),(.int .u8 0),(.int .u8 0),(.int .u8 0)])])])])])]),(.bool false),(.int .i64 0),(.int .i64 2),(.list 2 [])]),false),((.int .i64 0),false)]:=dh (n:=400) (by kernel_rfl)
theorem aw5:cal env 36 [(.int .i64 2),(.int .i64 3),(.int .i64 3),(.int .u8 9)]=some [((.agg [(.int .i64 2),(.int .i64 3),(.int .i64 0),(.list 1 []),(.list 3 [(.agg [(.int .i64 0),(.int .i64 3),(.list 8 [(.agg [(.int .u8 9),(.int .u8 0),(.int .u8 0),(.int .u8 0),(.int .u8 0),(.int .u8 0),(.int .u8 0),(.int .u8 0)])])])])]),false)]:=dh (n:=400) (by kernel_rfl)
theorem aw6:cal env 16 [(.agg [(.int .i64 2),(.list 1 [(.int .i64 4)]),(.list 5 [(.agg [(.int .i64 0),(.int .i64 1),(.int .i64 0),(.list 1 []),(.list 3 [(.agg [(.int .i64 0),(.int .i64 0),(.list 8 [(.agg [(.int .u8 1),(.int .u8 0),(.int .u8 0),(.int .u8 0),(.int .u8 0),(.int .u8 0),(.int .u8 0),(.int .u8 0)])])])])]),(.agg [(.int .i64 1),(.int .i64 2),(.int .i64 0),(.list 1 []),(.list 3 [(.agg [(.int .i64 0),(.int .i64 1),(.list 8 [(.agg [(.int .u8 2),(.int .u8 0),(.int .u8 0),(.int .u8 0),(.int .u8 0),(.int .u8 0),(.int .u8 0),(.int .u8 0)])])])])])]),(.bool false),(.int .i64 0),(.int .i64 2),(.list 2 [])]),(.agg [(.int .i64 2),(.int .i64 3),(.int .i64 0),(.list 1 []),(.list 3 [(.agg [(.int .i64 0),(.int .i64 3),(.list 8 [(.agg [(.int .u8 9),(.int .u8 0),(.int .u8 0),(.int .u8 0),(.int .u8 0),(.int .u8 0),(.int .u8 0),(.int .u8 0)])])])])])]=some [((.agg [(.int .i64 2),(.list 1 [(.int .i64 4)]),(.list 5 []),(.bool true),(.int .i64 0),(.int .i64 3),(.list 2 [(.agg [(.int .i64 4),(.list 1 [(.int .u64 11)])])])]),false),((.int .i64 0),false)]:=dh (n:=400) (by kernel_rfl)
theorem aw7:cal env 26 [(.agg [(.int .i64 2),(.list 1 [(.int .i64 4)]),(.list 5 []),(.bool true),(.int .i64 0),(.int .i64 3),(.list 2 [(.agg [(.int .i64 4),(.list 1 [(.int .u64 11)])])])]),(.list 1 [(.list 8 [(.agg [(.int .u8 1),(.int .u8 0),(.int .u8 0),(.int .u8 0),(.int .u8 0),(.int .u8 0),(.int .u8 0),(.int .u8 0)]),(.agg [(.int .u8 2),(.int .u8 0),(.int .u8 0),(.int .u8 0),(.int .u8 0),(.int .u8 0),(.int .u8 0),(.int .u8 0)]),(.agg [(.int .u8 0),(.int .u8 0),(.int .u8 0),(.int .u8 0),(.int .u8 0),(.int .u8 0),(.int .u8 0),(.int .u8 0)]),(.agg [(.int .u8 9),(.int .u8 0),(.int .u8 0),(.int .u8 0),(.int .u8 0),(.int .u8 0),(.int .u8 0),(.int .u8 0)])])]),(.int .i64 5)]=some [((.agg [(.int .i64 2),(.list 1 [(.int .i64 4)]),(.list 5 [(.agg [(.int .i64 0),(.int .i64 3),(.int .i64 5),(.list 1 []),(.list 3 [(.agg [(.int .i64 0),(.int .i64 0),(.list 8 [(.agg [(.int .u8 1),(.int .u8 0),(.int .u8 0),(.int .u8 0),(.int .u8 0),(.int .u8 0),(.int .u8 0),(.int .u8 0)]),(.agg [(.int .u8 2),(.int .u8 0),(.int .u8 0),(.int .u8 0),(.int .u8 0),(.int .u8 0),(.int .u8 0),(.int .u8 0)])])]),(.agg [(.int .i64 0),(.int .i64 3),(.list 8 [(.agg [(.int .u8 9),(.int .u8 0),(.int .u8 0),(.int .u8 0),(.int .u8 0),(.int .u8 0),(.int .u8 0),(.int .u8 0)])])])])])]),(.bool false),(.int .i64 0),(.int .i64 3),(.list 2 [])]),false),((.agg [(.int .i64 0),(.int .i64 3),(.int .i64 5),(.list 1 []),(.list 3 [(.agg [(.int .i64 0),(.int .i64 0),(.list 8 [(.agg [(.int .u8 1),(.int .u8 0),(.int .u8 0),(.int .u8 0),(.int .u8 0),(.int .u8 0),(.int .u8 0),(.int .u8 0)]),(.agg [(.int .u8 2),(.int .u8 0),(.int .u8 0),(.int .u8 0),(.int .u8 0),(.int .u8 0),(.int .u8 0),(.int .u8 0)])])]),(.agg [(.int .i64 0),(.int .i64 3),(.list 8 [(.agg [(.int .u8 9),(.int .u8 0),(.int .u8 0),(.int .u8 0),(.int .u8 0),(.int .u8 0),(.int .u8 0),(.int .u8 0)])])])])]),false),((.int .i64 0),false)]:=dh (n:=400) (by kernel_rfl)
theorem aw8:cal env 23 [(.agg [(.int .i64 2),(.list 1 [(.int .i64 4)]),(.list 5 [(.agg [(.int .i64 0),(.int .i64 1),(.int .i64 0),(.list 1 []),(.list 3 [(.agg [(.int .i64 0),(.int .i64 0),(.list 8 [(.agg [(.int .u8 1),(.int .u8 0),(.int .u8 0),(.int .u8 0),(.int .u8 0),(.int .u8 0),(.int .u8 0),(.int .u8 0)])])])])]),(.agg [(.int .i64 1),(.int .i64 2),(.int .i64 0),(.list 1 []),(.list 3 [(.agg [(.int .i64 0),(.int .i64 1),(.list 8 [(.agg [(.int .u8 2),(.int .u8 0),(.int .u8 0),(.int .u8 0),(.int .u8 0),(.int .u8 0),(.int .u8 0),(.int .u8 0)])])])])])]),(.bool false),(.int .i64 0),(.int .i64 2),(.list 2 [])]),(.int .i64 1)]=some [((.agg [(.int .i64 2),(.list 1 [(.int .i64 4)]),(.list 5 [(.agg [(.int .i64 1),(.int .i64 2),(.int .i64 0),(.list 1 []),(.list 3 [(.agg [(.int .i64 0),(.int .i64 1),(.list 8 [(.agg [(.int .u8 2),(.int .u8 0),(.int .u8 0),(.int .u8 0),(.int .u8 0),(.int .u8 0),(.int .u8 0),(.int .u8 0)])])])])])]),(.bool false),(.int .i64 1),(.int .i64 2),(.list 2 [])]),false),((.int .i64 0),false)]:=dh (n:=400) (by kernel_rfl)
theorem aw9:cal env 16 [(.agg [(.int .i64 2),(.list 1 [(.int .i64 4)]),(.list 5 [(.agg [(.int .i64 1),(.int .i64 2),(.int .i64 0),(.list 1 []),(.list 3 [(.agg [(.int .i64 0),(.int .i64 1),(.list 8 [(.agg [(.int .u8 2),(.int .u8 0),(.int .u8 0),(.int .u8 0),(.int .u8 0),(.int .u8 0),(.int .u8 0),(.int .u8 0)])])])])])]),(.bool false),(.int .i64 1),(.int .i64 2),(.list 2 [])]),(.agg [(.int .i64 2),(.int .i64 3),(.int .i64 0),(.list 1 []),(.list 3 [(.agg [(.int .i64 0),(.int .i64 3),(.list 8 [(.agg [(.int .u8 9),(.int .u8 0),(.int .u8 0),(.int .u8 0),(.int .u8 0),(.int .u8 0),(.int .u8 0),(.int .u8 0)])])])])])]=some [((.agg [(.int .i64 2),(.list 1 [(.int .i64 4)]),(.list 5 [(.agg [(.int .i64 1),(.int .i64 2),(.int .i64 0),(.list 1 []),(.list 3 [(.agg [(.int .i64 0),(.int .i64 1),(.list 8 [(.agg [(.int .u8 2),(.int .u8 0),(.int .u8 0),(.int .u8 0),(.int .u8 0),(.int .u8 0),(.int .u8 0),(.int .u8 0)])])])])]),(.agg [(.int .i64 2),(.int .i64 3),(.int .i64 0),(.list 1 []),(.list 3 [(.agg [(.int .i64 0),(.int .i64 3),(.list 8 [(.agg [(.int .u8 9),(.int .u8 0),(.int .u8 0),(.int .u8 0),(.int .u8 0),(.int .u8 0),(.int .u8 0),(.int .u8 0)])])])])])]),(.bool false),(.int .i64 1),(.int .i64 3),(.list 2 [])]),false),((.int .i64 0),false)]:=dh (n:=400) (by kernel_rfl)
theorem aat:cal env 18 [(.agg [(.int .i64 2),(.list 1 [(.int .i64 4)]),(.list 5 [(.agg [(.int .i64 1),(.int .i64 2),(.int .i64 0),(.list 1 []),(.list 3 [(.agg [(.int .i64 0),(.int .i64 1),(.list 8 [(.agg [(.int .u8 2),(.int .u8 0),(.int .u8 0),(.int .u8 0),(.int .u8 0),(.int .u8 0),(.int .u8 0),(.int .u8 0)])])])])]),(.agg [(.int .i64 2),(.int .i64 3),(.int .i64 0),(.list 1 []),(.list 3 [(.agg [(.int .i64 0),(.int .i64 3),(.list 8 [(.agg [(.int .u8 9),(.int .u8 0),(.int .u8 0),(.int .u8 0),(.int .u8 0),(.int .u8 0),(.int .u8 0),(.int .u8 0)])])])])])]),(.bool false),(.int .i64 1),(.int .i64 3),(.list 2 [])])]=some [((.agg [(.int .i64 1),(.int .i64 2),(.int .i64 0),(.list 1 []),(.list 3 [(.agg [(.int .i64 0),(.int .i64 1),(.list 8 [(.agg [(.int .u8 2),(.int .u8 0),(.int .u8 0),(.int .u8 0),(.int .u8 0),(.int .u8 0),(.int .u8 0),(.int .u8 0)])])])])]),false),((.bool true),false)]:=dh (n:=400) (by kernel_rfl)
theorem aau:cal env 37 [(.list 3 [(.agg [(.int .i64 0),(.int .i64 0),(.list 8 [(.agg [(.int .u8 1),(.int .u8 0),(.int .u8 0),(.int .u8 0),(.int .u8 0),(.int .u8 0),(.int .u8 0),(.int .u8 0)]),(.agg [(.int .u8 2),(.int .u8 0),(.int .u8 0),(.int .u8 0),(.int .u8 0),(.int .u8 0),(.int .u8 0),(.int .u8 0)])])]),(.agg [(.int .i64 0),(.int .i64 3),(.list 8 [(.agg [(.int .u8 9),(.int .u8 0),(.int .u8 0),(.int .u8 0),(.int .u8 0),(.int .u8 0),(.int .u8 0),(.int .u8 0)])])])]),(.list 3 [(.agg [(.int .i64 0),(.int .i64 0),(.list 8 [(.agg [(.int .u8 1),(.int .u8 0),(.int .u8 0),(.int .u8 0),(.int .u8 0),(.int .u8 0),(.int .u8 0),(.int .u8 0)]),(.agg [(.int .u8 2),(.int .u8 0),(.int .u8 0),(.int .u8 0),(.int .u8 0),(.int .u8 0),(.int .u8 0),(.int .u8 0)])])]),(.agg [(.int .i64 0),(.int .i64 3),(.list 8 [(.agg [(.int .u8 9),(.int .u8 0),(.int .u8 0),(.int .u8 0),(.int .u8 0),(.int .u8 0),(.int .u8 0),(.int .u8 0)])])])])]=some [((.bool true),false)]:=dh (n:=400) (by kernel_rfl)
theorem scS (k1 k2 k3 s1 s2 s3 a b c l1 l2 l3 x):(PV.agg [.int k1 a,.list s1 l1,.list s2 l2,.bool x,.int k2 b,.int k3 c,.list s3 l3]).scalar=false:=rfl
theorem scW (k k2 s1 a b l1):(PV.agg [.int k a,.int k2 b,.list s1 l1]).scalar=false:=rfl
theorem scB (k s1 a l1):(PV.agg [.int k a,.list s1 l1]).scalar=false:=rfl
theorem scC (k1 k2 k3 s1 s2 a b c l1 l2):(PV.agg [.int k1 a,.int k2 b,.int k3 c,.list s1 l1,.list s2 l2]).scalar=false:=rfl
theorem w00:IntKind.i64.wrap 0=0:=by decide
def awQ:Nat→List BV
 |0=>[.pv (.int .i64 2),.pv (.list 1 [(.int .i64 4)]),.pv (.list 5 []),.pv (.bool false),.pv (.int .i64 0),.pv (.int .i64 0),.pv (.list 2 [])]
 |1=>[.pv (.int .i64 2),.pv (.list 1 [(.int .i64 4)]),.pv (.list 5 [(.agg [(.int .i64 0),(.int .i64 1),(.int .i64 0),(.list 1 []),(.list 3 [(.agg [(.int .i64 0),(.int .i64 0),(.list 8 [(.agg [(.int .u8 1),(.int .u8 0),(.int .u8 0),(.int .u8 0),(.int .u8 0),(.int .u8 0),(.int .u8 0),(.int .u8 0)])])])])])]),.pv (.bool false),.pv (.int .i64 0),.pv (.int .i64 1),.pv (.list 2 [])]
 |_=>[.pv (.int .i64 2),.pv (.list 1 [(.int .i64 4)]),.pv (.list 5 [(.agg [(.int .i64 0),(.int .i64 1),(.int .i64 0),(.list 1 []),(.list 3 [(.agg [(.int .i64 0),(.int .i64 0),(.list 8 [(.agg [(.int .u8 1),(.int .u8 0),(.int .u8 0),(.int .u8 0),(.int .u8 0),(.int .u8 0),(.int .u8 0),(.int .u8 0)])])])])]),(.agg [(.int .i64 1),(.int .i64 2),(.int .i64 0),(.list 1 []),(.list 3 [(.agg [(.int .i64 0),(.int .i64 1),(.list 8 [(.agg [(.int .u8 2),(.int .u8 0),(.int .u8 0),(.int .u8 0),(.int .u8 0),(.int .u8 0),(.int .u8 0),(.int .u8 0)])])])])])]),.pv (.bool false),.pv (.int .i64 0),.pv (.int .i64 2),.pv (.list 2 [])]
theorem afz:awQ 0=[.pv (.int .i64 2),.pv (.list 1 [(.int .i64 4)]),.pv (.list 5 []),.pv (.bool false),.pv (.int .i64 0),.pv (.int .i64 0),.pv (.list 2 [])]:=rfl
theorem afA:awQ 1=[.pv (.int .i64 2),.pv (.list 1 [(.int .i64 4)]),.pv (.list 5 [(.agg [(.int .i64 0),(.int .i64 1),(.int .i64 0),(.list 1 []),(.list 3 [(.agg [(.int .i64 0),(.int .i64 0),(.list 8 [(.agg [(.int .u8 1),(.int .u8 0),(.int .u8 0),(.int .u8 0),(.int .u8 0),(.int .u8 0),(.int .u8 0),(.int .u8 0)])])])])])]),.pv (.bool false),.pv (.int .i64 0),.pv (.int .i64 1),.pv (.list 2 [])]:=rfl
theorem afB:awQ 2=[.pv (.int .i64 2),.pv (.list 1 [(.int .i64 4)]),.pv (.list 5 [(.agg [(.int .i64 0),(.int .i64 1),(.int .i64 0),(.list 1 []),(.list 3 [(.agg [(.int .i64 0),(.int .i64 0),(.list 8 [(.agg [(.int .u8 1),(.int .u8 0),(.int .u8 0),(.int .u8 0),(.int .u8 0),(.int .u8 0),(.int .u8 0),(.int .u8 0)])])])])]),(.agg [(.int .i64 1),(.int .i64 2),(.int .i64 0),(.list 1 []),(.list 3 [(.agg [(.int .i64 0),(.int .i64 1),(.list 8 [(.agg [(.int .u8 2),(.int .u8 0),(.int .u8 0),(.int .u8 0),(.int .u8 0),(.int .u8 0),(.int .u8 0),(.int .u8 0)])])])])])]),.pv (.bool false),.pv (.int .i64 0),.pv (.int .i64 2),.pv (.list 2 [])]:=rfl
set_option maxRecDepth 20000 in
theorem adk (_:True) {st:St} (h:st.head [1,2,3] st.boxes.length=some ⟨sl 146 [(1,.aS 0 0),(2,.pv (.int .i64 0)),(3,.pv (.int .i64 (0:Nat)))],[⟨false,awQ ((0:Nat))⟩],[],none⟩) :
  den env EP st=some (.normal,⟨sl 146 [(0,.any),(1,.aS 0 0),(2,.pv (.int .i64 0))],[⟨false,awQ 2⟩],[],none⟩):=by
 unfold EP
 refine bF (env:=env) (nb:=1) (2) (fun i=>⟨sl 146 [(1,.aS 0 0),(2,.pv (.int .i64 0)),(3,.pv (.int .i64 i))],[⟨false,awQ (i)⟩],[],none⟩) (fun i=>some (.normal,⟨sl 146 [(0,.any),(1,.aS 0 0),(2,.pv (.int .i64 0))],[⟨false,awQ 2⟩],[],none⟩)) h (fun _=>rfl) (fun _=>by simp only [aO,bG,Nat.reduceMul,Nat.reduceBEq,Nat.reduceLT,Nat.reduceLeDiff,Nat.reduceAdd,decide_true,Bool.and_self,Bool.true_and]) ?_ ?_
 ·intro i rb hi ih
  match i,hi with
  |0,_ =>
   simp only [yO,afz,aw0,aw1,aw2,aw3,aw4,aw5,aw6,aw7,aw8,aw9,aat,aau,scS,scW,scB,scC,w00,Int.add_zero,show IntKind.i64.wrap (0+1)=1 from rfl,show IntKind.i64.wrap (1+1)=2 from rfl,show IntKind.u8.wrap 1=1 from rfl,show IntKind.u8.wrap 2=2 from rfl,show ((0:Int)<2)=True from by simp,show ((1:Int)<2)=True from by simp,Int.ofNat_zero,Int.ofNat_one,show ((1:Nat):Int)=1 from rfl,show ((0:Nat):Int)=0 from rfl,aI,Nat.reduceMul,Nat.reduceBEq,Nat.reduceLT,Nat.reduceLeDiff,reduceCtorEq,Nat.reduceEqDiff,Nat.reduceAdd,Nat.beq]
   rw [ih _ (by simp only [show 0+1=1 from rfl,afA,aI,Nat.reduceMul,Nat.reduceBEq,Nat.reduceLT,Nat.reduceLeDiff,reduceCtorEq,Nat.reduceEqDiff,Nat.reduceAdd,Nat.beq]<;>rfl)]
  |1,_ =>
   simp only [yO,afA,aw0,aw1,aw2,aw3,aw4,aw5,aw6,aw7,aw8,aw9,aat,aau,scS,scW,scB,scC,w00,Int.add_zero,show IntKind.i64.wrap (0+1)=1 from rfl,show IntKind.i64.wrap (1+1)=2 from rfl,show IntKind.u8.wrap 1=1 from rfl,show IntKind.u8.wrap 2=2 from rfl,show ((0:Int)<2)=True from by simp,show ((1:Int)<2)=True from by simp,Int.ofNat_zero,Int.ofNat_one,show ((1:Nat):Int)=1 from rfl,show ((0:Nat):Int)=0 from rfl,aI,Nat.reduceMul,Nat.reduceBEq,Nat.reduceLT,Nat.reduceLeDiff,reduceCtorEq,Nat.reduceEqDiff,Nat.reduceAdd,Nat.beq]
   rw [ih _ (by simp only [show 1+1=2 from rfl,afB,aI,Nat.reduceMul,Nat.reduceBEq,Nat.reduceLT,Nat.reduceLeDiff,reduceCtorEq,Nat.reduceEqDiff,Nat.reduceAdd,Nat.beq]<;>rfl)]
 ·intro rb
  simp only [yO,show (((2:Nat):Int)<2)=False from by simp,aI,Nat.reduceMul,Nat.reduceBEq,Nat.reduceLT,Nat.reduceLeDiff,reduceCtorEq,Nat.reduceEqDiff,Nat.reduceAdd,Nat.beq]
set_option maxRecDepth 20000 in
theorem XJ:cal env 10 []=some [(.bool true,false)]:=by
 rw [ah aeL rfl];simp only [Vy,aO,Nat.reduceBEq,Nat.reduceLeDiff,Nat.reduceAdd,List.length_cons,List.length_nil]
 simp only [aw0,aw1,aw2,aw3,aw4,aw5,aw6,aw7,aw8,aw9,aat,aau,scS,scW,scB,scC,w00,Int.add_zero,aI,Nat.reduceMul,Nat.reduceBEq,Nat.reduceLT,Nat.reduceLeDiff,reduceCtorEq,Nat.reduceEqDiff,Nat.reduceAdd,Nat.beq]
 rw [adk trivial (by simp only [afz];simp only [aO,bG,Nat.reduceMul,Nat.reduceBEq,Nat.reduceLT,Nat.reduceLeDiff,Nat.reduceAdd,decide_true,Bool.and_self,Bool.true_and]<;>rfl)]
 simp only [afB,aw0,aw1,aw2,aw3,aw4,aw5,aw6,aw7,aw8,aw9,aat,aau,scS,scW,scB,scC,w00,Int.add_zero,aI,Nat.reduceMul,Nat.reduceBEq,Nat.reduceLT,Nat.reduceLeDiff,reduceCtorEq,Nat.reduceEqDiff,Nat.reduceAdd,Nat.beq]
end Go.Proofs.YtpcncggjmabnaaaGreatDoor.V

namespace Go.Proofs.YtpcncggjmabnaaaGreatDoor.V
theorem nD {l:List Bm} {i:Nat} (h:i<l.length):(l.map iZ)[i]?=some (.agg [.int .i64 l[i].size,.list 1 (l[i].ws.map eW)]):=by rw [List.getElem?_map,List.getElem?_eq_getElem h];rfl
theorem adl {l:List Bm} (hl:l.length≤lim) (hw:∀ b∈l,b.ws.length≤lim) {st:St} (h:st.head [0,1,5] st.boxes.length=some ⟨sl 27 [(0,.pv (.list 2 (l.map iZ))),(1,.pv (.list 2 (l.map iZ))),(5,.pv (.int .i64 (0:Nat)))],[],[],none⟩) :
  den env Fe st=some (.normal,⟨sl 27 [(4,.any)],[],[],none⟩):=by
 unfold Fe
 refine bF (env:=env) (l.length) (fun i=>⟨sl 27 [(0,.pv (.list 2 (l.map iZ))),(1,.pv (.list 2 (l.map iZ))),(5,.pv (.int .i64 i))],[],[],none⟩) (fun i=>some (.normal,⟨sl 27 [(4,.any)],[],[],none⟩)) h (fun _=>rfl) (fun _=>by simp only [aO,bG,Nat.reduceMul,Nat.reduceBEq,Nat.reduceLT,Nat.reduceLeDiff,Nat.reduceAdd,decide_true,Bool.and_self,Bool.true_and]) ?_ ?_
 ·intro i rb hi ih
  have hi1:=bH hi hl
  have F1:((i:Int)<(l.length:Int))=True:=eq_true (by omega)
  have e1:=afv (a:=l[i]) (b:=l[i]) (hw _ (List.getElem_mem hi))
  rw [SA.2 rfl,show iZ l[i]=.agg [.int .i64 l[i].size,.list 1 (l[i].ws.map eW)] from rfl] at e1
  have hx:=nD hi
  simp only [Fb,F1,e1,hx,nC,ak hi,List.length_map,aI,Nat.reduceMul,Nat.reduceBEq,Nat.reduceLT,Nat.reduceLeDiff,reduceCtorEq,Nat.reduceEqDiff,Nat.reduceAdd,Nat.beq]
  rw [ih _ (by simp only [hi1,aI,Nat.reduceMul,Nat.reduceBEq,Nat.reduceLT,Nat.reduceLeDiff,reduceCtorEq,Nat.reduceEqDiff,Nat.reduceAdd,Nat.beq]<;>rfl)]
 ·intro rb
  simp only [Fb,Int.lt_irrefl,List.length_map,aI,Nat.reduceMul,Nat.reduceBEq,Nat.reduceLT,Nat.reduceLeDiff,reduceCtorEq,Nat.reduceEqDiff,Nat.reduceAdd,Nat.beq]
theorem afC {l:List Bm} (hl:l.length≤lim) (hw:∀ b∈l,b.ws.length≤lim):cal env 41 [.list 2 (l.map iZ),.list 2 (l.map iZ)]=some [(.bool true,false)]:=by
 have F1:((l.length:Int) != (l.length:Int))=false:=by simp
 rw [ah aeS rfl];simp only [VF,aO,Nat.reduceBEq,Nat.reduceLeDiff,Nat.reduceAdd,List.length_cons,List.length_nil]
 simp only [F1,List.length_map,aI,Nat.reduceMul,Nat.reduceBEq,Nat.reduceLT,Nat.reduceLeDiff,reduceCtorEq,Nat.reduceEqDiff,Nat.reduceAdd,Nat.beq]
 rw [adl hl hw (by simp only [aO,bG,Nat.reduceMul,Nat.reduceBEq,Nat.reduceLT,Nat.reduceLeDiff,Nat.reduceAdd,decide_true,Bool.and_self,Bool.true_and]<;>rfl)]
 simp only [F1,List.length_map,aI,Nat.reduceMul,Nat.reduceBEq,Nat.reduceLT,Nat.reduceLeDiff,reduceCtorEq,Nat.reduceEqDiff,Nat.reduceAdd,Nat.beq]
structure okQ (s:mJ):Prop where
 sz:s.sz.length≤lim
 cy:s.cy.length≤lim
 dt:s.dt.length≤lim
 c1:∀ c∈s.cy,c.pos.length≤lim∧c.ws.length≤lim∧∀ x∈c.ws,x.data.length≤lim
 d1:∀ b∈s.dt,b.ws.length≤lim
def iP (s:mJ):List BV:=[.pv (.int .i64 s.lm),.pv (.list 1 (s.sz.map eI)),.pv (.list 5 (s.cy.map jc)),.pv (.bool s.ov),.pv (.int .i64 s.fs),.pv (.int .i64 s.ls),.pv (.list 2 (s.dt.map iZ))]
theorem aW (s:mJ):iP s=[.pv (.int .i64 s.lm),.pv (.list 1 (s.sz.map eI)),.pv (.list 5 (s.cy.map jc)),.pv (.bool s.ov),.pv (.int .i64 s.fs),.pv (.int .i64 s.ls),.pv (.list 2 (s.dt.map iZ))]:=rfl
theorem bbS (b:Bool):(b==b)=true:=by cases b<;>rfl
set_option maxRecDepth 20000 in
theorem adn {s:mJ} (hq:okQ s) {st:St} (h:st.head [2,3,5] st.boxes.length=some ⟨sl 76 [(2,.aS 0 0),(3,.aS 1 0),(5,.pv (.int .i64 (0:Nat)))],[⟨false,iP s⟩,⟨false,iP s⟩],[],none⟩) :
  den env ES st=some (.normal,⟨sl 76 [(4,.any)],[⟨false,iP s⟩,⟨false,iP s⟩],[],none⟩):=by
 unfold ES
 refine bF (env:=env) (nb:=2) (s.cy.length) (fun i=>⟨sl 76 [(2,.aS 0 0),(3,.aS 1 0),(5,.pv (.int .i64 i))],[⟨false,iP s⟩,⟨false,iP s⟩],[],none⟩) (fun i=>some (.normal,⟨sl 76 [(4,.any)],[⟨false,iP s⟩,⟨false,iP s⟩],[],none⟩)) h (fun _=>rfl) (fun _=>by simp only [aO,bG,Nat.reduceMul,Nat.reduceBEq,Nat.reduceLT,Nat.reduceLeDiff,Nat.reduceAdd,decide_true,Bool.and_self,Bool.true_and]) ?_ ?_
 ·intro i rb hi ih
  have hi1:=bH hi hq.cy
  have F1:((i:Int)<(s.cy.length:Int))=True:=eq_true (by omega)
  have q:=hq.c1 _ (List.getElem_mem hi)
  have e1:=abb (b:=s.cy[i].base) (n:=s.cy[i].num) (t:=s.cy[i].time) (p:=s.cy[i].pos) (w:=s.cy[i].ws) q.1 q.2.1 q.2.2
  unfold wM at e1
  have hx:=vN hi
  simp only [ER,F1,e1,hx,fC,aW,ak hi,List.length_map,aI,Nat.reduceMul,Nat.reduceBEq,Nat.reduceLT,Nat.reduceLeDiff,reduceCtorEq,Nat.reduceEqDiff,Nat.reduceAdd,Nat.beq]
  rw [ih _ (by simp only [hi1,aW,aI,Nat.reduceMul,Nat.reduceBEq,Nat.reduceLT,Nat.reduceLeDiff,reduceCtorEq,Nat.reduceEqDiff,Nat.reduceAdd,Nat.beq]<;>rfl)]
  rfl
 ·intro rb
  simp only [ER,Int.lt_irrefl,aW,List.length_map,aI,Nat.reduceMul,Nat.reduceBEq,Nat.reduceLT,Nat.reduceLeDiff,reduceCtorEq,Nat.reduceEqDiff,Nat.reduceAdd,Nat.beq]
set_option maxRecDepth 20000 in
theorem afE {s:mJ} (h:okQ s):cal env 13 [oH s,oH s]=some [(.bool true,false)]:=by
 have N1:∀ n:Int,(n != n)=false:=fun n=>by simp
 have e1:=aa9 (l:=s.sz) (sz:=1) (.inr rfl) h.sz
 have e2:=afC h.dt h.d1
 rw [fB]
 rw [ah aeM rfl];simp only [Vz,aO,Nat.reduceBEq,Nat.reduceLeDiff,Nat.reduceAdd,List.length_cons,List.length_nil]
 simp only [N1,e1,e2,bbS,List.length_map,aI,Nat.reduceMul,Nat.reduceBEq,Nat.reduceLT,Nat.reduceLeDiff,reduceCtorEq,Nat.reduceEqDiff,Nat.reduceAdd,Nat.beq]
 rw [adn h (by simp only [aW];simp only [aO,bG,Nat.reduceMul,Nat.reduceBEq,Nat.reduceLT,Nat.reduceLeDiff,Nat.reduceAdd,decide_true,Bool.and_self,Bool.true_and]<;>rfl)]
 simp only [N1,e1,e2,bbS,List.length_map,aI,Nat.reduceMul,Nat.reduceBEq,Nat.reduceLT,Nat.reduceLeDiff,reduceCtorEq,Nat.reduceEqDiff,Nat.reduceAdd,Nat.beq]
end Go.Proofs.YtpcncggjmabnaaaGreatDoor.V

namespace Go.Proofs.YtpcncggjmabnaaaGreatDoor.V
def Ny (c:nY):Prop:=c.pos.length≤20∧c.ws.length≤10000∧∀ x∈c.ws,x.data.length≤10000
structure Nz (s:mJ):Prop where
 sz:s.sz.length≤1000
 cy:s.cy.length≤1000
 dt:s.dt.length≤1000
 c1:∀ c∈s.cy,Ny c
 d1:∀ b∈s.dt,b.ws.length≤1000
theorem Nz.ok {s:mJ} (h:Nz s):okQ s:=⟨Nat.le_trans h.sz (by decide),Nat.le_trans h.cy (by decide),Nat.le_trans h.dt (by decide),fun c hc=>⟨Nat.le_trans (h.c1 c hc).1 (by decide),Nat.le_trans (h.c1 c hc).2.1 (by decide),fun x hx=>Nat.le_trans ((h.c1 c hc).2.2 x hx) (by decide)⟩,fun b hb=>Nat.le_trans (h.d1 b hb) (by decide)⟩
def J9 (z:List Int) (c:nY):Int:=ckC z c.base c.num c.time c.pos c.ws
def Yo (z:List Int):Int→List nY→Int→Bool
 |f,[],l=>f==l
 |f,c :: cs,l=>(J9 z c==0)&&((c.base==f)&&Yo z c.num cs l)
def uh (f:Int) (cy:List nY) (i:Nat):Int:=match i with
 |0=>f
 |j+1=>(cy[j]?.map (·.num)).getD 0
def wP (dt:List Bm) (z:List Int):Bool:=eqF (fun b n=>(Bf b==0)&&(b.size==n)) dt z
def yG (s:mJ):Int:=if aX s.sz=0 then (if s.lm<1∨s.lm > 1024∨s.fs<0∨s.fs > s.ls∨s.ls > 1073741824 then 3 else if s.ov=true then (if (decide (s.cy=[])&&(decide (s.fs≠s.ls)&&wP s.dt s.sz))=true then 0 else 3) else (if (decide (s.dt=[])&&(decide ((s.cy.length:Int)≤s.lm)&&Yo s.sz s.fs s.cy s.ls))=true then 0 else 3)) else aX s.sz
instance:DecidableEq nY:=fun a b=>if h:a.base=b.base∧a.num=b.num∧a.time=b.time∧a.pos=b.pos∧a.ws=b.ws then isTrue (by cases a;cases b;simp_all) else isFalse (fun e=>h (by subst e;simp))
theorem y5 {l:List Int} {i:Nat} (h:i<l.length):(l.map eI)[i]?=some (.int .i64 l[i]):=by rw [List.getElem?_map,List.getElem?_eq_getElem h];rfl
def JJ (n d:Nat) (b:Bool):Option (Ex × St):=if b then some (.normal,⟨sl n [(d,.any)],[],[],none⟩) else some (.ret,⟨sl n [(d,.pv (.bool false))],[],[],none⟩)
theorem wQ (n d:Nat):JJ n d true=some (.normal,⟨sl n [(d,.any)],[],[],none⟩):=rfl
theorem tY (n d:Nat):JJ n d false=some (.ret,⟨sl n [(d,.pv (.bool false))],[],[],none⟩):=rfl
def NC (b:Bm) (n:Int):Bool:=(Bf b==0)&&(b.size==n)
def wR (dt:List Bm) (z:List Int) (i:Nat):Bool:=((dt.drop i).zip (z.drop i)).all fun q=>NC q.1 q.2
theorem DK {dt:List Bm} {z:List Int} {i:Nat} (h:i<dt.length) (h2:i<z.length):wR dt z i=(NC dt[i] z[i]&&wR dt z (i+1)):=by
 unfold wR
 rw [List.drop_eq_getElem_cons h,List.drop_eq_getElem_cons h2]
 rfl
theorem JK (dt:List Bm) (z:List Int):wR dt z dt.length=true:=by
 unfold wR
 rw [List.drop_length]
 rfl
theorem ND (dt:List Bm) (z:List Int):wP dt z=(decide (dt.length=z.length)&&wR dt z 0):=rfl
theorem ado {dt:List Bm} {z:List Int} (hl:dt.length≤1000) (hz:dt.length=z.length) {st:St} (h:st.head [0,1,5] st.boxes.length=some ⟨sl 35 [(0,.pv (.list 2 (dt.map iZ))),(1,.pv (.list 1 (z.map eI))),(5,.pv (.int .i64 (0:Nat)))],[],[],none⟩) :
  den env FB st=JJ 35 4 (wR dt z ((0:Nat))):=by
 unfold FB
 refine bF (env:=env) (dt.length) (fun i=>⟨sl 35 [(0,.pv (.list 2 (dt.map iZ))),(1,.pv (.list 1 (z.map eI))),(5,.pv (.int .i64 i))],[],[],none⟩) (fun i=>JJ 35 4 (wR dt z (i))) h (fun _=>rfl) (fun _=>by simp only [aO,bG,Nat.reduceMul,Nat.reduceBEq,Nat.reduceLT,Nat.reduceLeDiff,Nat.reduceAdd,decide_true,Bool.and_self,Bool.true_and]) ?_ ?_
 ·intro i rb hi ih
  have hi1:=bH hi (by unfold lim;omega)
  have hj:i<z.length:=by omega
  have F1:((i:Int)<(dt.length:Int))=True:=eq_true (by omega)
  have e1:=aa7 (b:=dt[i])
  rw [show iZ dt[i]=.agg [.int .i64 dt[i].size,.list 1 (dt[i].ws.map eW)] from rfl] at e1
  have hx:=nD hi
  have hy:=y5 hj
  rw [DK hi hj]
  unfold NC
  by_cases c:Bf dt[i]=0
  ·rw [c] at e1 ⊢
   have Z:((0:Int) != 0)=false:=rfl
   by_cases c2:dt[i].size=z[i]
   ·have Z2:(dt[i].size != z[i])=false:=by simp [c2]
    have Z3:(dt[i].size==z[i])=true:=by simp [c2]
    rw [Z3,show ((0:Int)==0)=true from rfl,Bool.true_and,Bool.true_and]
    simp only [vG,F1,e1,Z,Z2,hx,hy,nC,ak hi,ak hj,List.length_map,aI,Nat.reduceMul,Nat.reduceBEq,Nat.reduceLT,Nat.reduceLeDiff,reduceCtorEq,Nat.reduceEqDiff,Nat.reduceAdd,Nat.beq]
    rw [ih _ (by simp only [hi1,aI,Nat.reduceMul,Nat.reduceBEq,Nat.reduceLT,Nat.reduceLeDiff,reduceCtorEq,Nat.reduceEqDiff,Nat.reduceAdd,Nat.beq]<;>rfl)]
   ·have Z2:(dt[i].size != z[i])=true:=by simp [c2]
    have Z3:(dt[i].size==z[i])=false:=by simp [c2]
    rw [Z3,Bool.and_false,Bool.false_and,tY]
    simp only [vG,F1,e1,Z,Z2,hx,hy,nC,ak hi,ak hj,List.length_map,aI,Nat.reduceMul,Nat.reduceBEq,Nat.reduceLT,Nat.reduceLeDiff,reduceCtorEq,Nat.reduceEqDiff,Nat.reduceAdd,Nat.beq]
  ·have Z:(Bf dt[i] != 0)=true:=by simp [c]
   have Z3:(Bf dt[i]==0)=false:=by simp [c]
   rw [Z3,Bool.false_and,Bool.false_and,tY]
   simp only [vG,F1,e1,Z,hx,hy,nC,ak hi,ak hj,List.length_map,aI,Nat.reduceMul,Nat.reduceBEq,Nat.reduceLT,Nat.reduceLeDiff,reduceCtorEq,Nat.reduceEqDiff,Nat.reduceAdd,Nat.beq]
 ·intro rb
  rw [JK,wQ]
  simp only [vG,Int.lt_irrefl,List.length_map,aI,Nat.reduceMul,Nat.reduceBEq,Nat.reduceLT,Nat.reduceLeDiff,reduceCtorEq,Nat.reduceEqDiff,Nat.reduceAdd,Nat.beq]
theorem afF {dt:List Bm} {z:List Int} (hl:dt.length≤1000):cal env 50 [.list 2 (dt.map iZ),.list 1 (z.map eI)]=some [(.bool (wP dt z),false)]:=by
 rw [ND]
 by_cases c:dt.length=z.length
 ·have F1:((dt.length:Int) != (z.length:Int))=false:=by simp [c]
  rw [decide_eq_true c,Bool.true_and]
  rw [ah aaW rfl];simp only [Rt,aO,Nat.reduceBEq,Nat.reduceLeDiff,Nat.reduceAdd,List.length_cons,List.length_nil]
  simp only [F1,List.length_map,aI,Nat.reduceMul,Nat.reduceBEq,Nat.reduceLT,Nat.reduceLeDiff,reduceCtorEq,Nat.reduceEqDiff,Nat.reduceAdd,Nat.beq]
  rw [ado hl c (by simp only [aO,bG,Nat.reduceMul,Nat.reduceBEq,Nat.reduceLT,Nat.reduceLeDiff,Nat.reduceAdd,decide_true,Bool.and_self,Bool.true_and]<;>rfl)]
  cases wR dt z 0 with
  |true=>rw [wQ];simp only [F1,List.length_map,aI,Nat.reduceMul,Nat.reduceBEq,Nat.reduceLT,Nat.reduceLeDiff,reduceCtorEq,Nat.reduceEqDiff,Nat.reduceAdd,Nat.beq]
  |false=>rw [tY];simp only [F1,List.length_map,aI,Nat.reduceMul,Nat.reduceBEq,Nat.reduceLT,Nat.reduceLeDiff,reduceCtorEq,Nat.reduceEqDiff,Nat.reduceAdd,Nat.beq]
 ·have F1:((dt.length:Int) != (z.length:Int))=true:=by simp;omega
  rw [decide_eq_false c,Bool.false_and]
  rw [ah aaW rfl];simp only [Rt,aO,Nat.reduceBEq,Nat.reduceLeDiff,Nat.reduceAdd,List.length_cons,List.length_nil]
  simp only [F1,List.length_map,aI,Nat.reduceMul,Nat.reduceBEq,Nat.reduceLT,Nat.reduceLeDiff,reduceCtorEq,Nat.reduceEqDiff,Nat.reduceAdd,Nat.beq]
theorem afG {b:Bm} {n:Int}:cal env 90 [iZ b,eI n]=some [(.bool (NC b n),false)]:=by
 have e1:=aa6 (b:=b)
 rw [show iZ b=.agg [.int .i64 b.size,.list 1 (b.ws.map eW)] from rfl] at e1 ⊢
 unfold NC eI
 by_cases c:Bf b=0
 ·rw [c] at e1 ⊢
  have Z:((0:Int)==0)=true:=rfl
  rw [Z,Bool.true_and]
  rw [ah aa2 rfl];simp only [RD,aO,Nat.reduceBEq,Nat.reduceLeDiff,Nat.reduceAdd,List.length_cons,List.length_nil]
  simp only [e1,Z,nC,aI,Nat.reduceMul,Nat.reduceBEq,Nat.reduceLT,Nat.reduceLeDiff,reduceCtorEq,Nat.reduceEqDiff,Nat.reduceAdd,Nat.beq]
 ·have Z:(Bf b==0)=false:=by simp [c]
  rw [Z,Bool.false_and]
  rw [ah aa2 rfl];simp only [RD,aO,Nat.reduceBEq,Nat.reduceLeDiff,Nat.reduceAdd,List.length_cons,List.length_nil]
  simp only [e1,Z,nC,aI,Nat.reduceMul,Nat.reduceBEq,Nat.reduceLT,Nat.reduceLeDiff,reduceCtorEq,Nat.reduceEqDiff,Nat.reduceAdd,Nat.beq]
theorem adp {dt:List Bm} {z:List Int} (hl:dt.length≤1000) (hz:dt.length=z.length) {st:St} (h:st.head [0,1,2,15,16,17] st.boxes.length=some ⟨sl 32 [(0,.pv (.list 2 (dt.map iZ))),(1,.pv (.list 1 (z.map eI))),(2,.pv (.func 90 [])),(15,.pv (.list 2 (dt.map iZ))),(16,.pv (.int .i64 dt.length)),(17,.pv (.int .i64 (0:Nat)))],[],[],none⟩) :
  den env Gl st=JJ 32 6 (wR dt z ((0:Nat))):=by
 unfold Gl
 refine bF (env:=env) (dt.length) (fun i=>⟨sl 32 [(0,.pv (.list 2 (dt.map iZ))),(1,.pv (.list 1 (z.map eI))),(2,.pv (.func 90 [])),(15,.pv (.list 2 (dt.map iZ))),(16,.pv (.int .i64 dt.length)),(17,.pv (.int .i64 i))],[],[],none⟩) (fun i=>JJ 32 6 (wR dt z (i))) h (fun _=>rfl) (fun _=>by simp only [aO,bG,Nat.reduceMul,Nat.reduceBEq,Nat.reduceLT,Nat.reduceLeDiff,Nat.reduceAdd,decide_true,Bool.and_self,Bool.true_and]) ?_ ?_
 ·intro i rb hi ih
  have hi1:=bH hi (by unfold lim;omega)
  have hj:i<z.length:=by omega
  have F1:((i:Int)<(dt.length:Int))=True:=eq_true (by omega)
  have e1:=afG (b:=dt[i]) (n:=z[i])
  rw [show iZ dt[i]=.agg [.int .i64 dt[i].size,.list 1 (dt[i].ws.map eW)] from rfl,show eI z[i]=.int .i64 z[i] from rfl] at e1
  have hx:=nD hi
  have hy:=y5 hj
  rw [DK hi hj]
  cases c:NC dt[i] z[i] with
  |true =>
   rw [c] at e1
   rw [Bool.true_and]
   simp only [yU,F1,e1,hx,hy,nC,ak hi,ak hj,List.length_map,aI,Nat.reduceMul,Nat.reduceBEq,Nat.reduceLT,Nat.reduceLeDiff,reduceCtorEq,Nat.reduceEqDiff,Nat.reduceAdd,Nat.beq]
   rw [ih _ (by simp only [hi1,aI,Nat.reduceMul,Nat.reduceBEq,Nat.reduceLT,Nat.reduceLeDiff,reduceCtorEq,Nat.reduceEqDiff,Nat.reduceAdd,Nat.beq]<;>rfl)]
  |false =>
   rw [c] at e1
   rw [Bool.false_and,tY]
   simp only [yU,F1,e1,hx,hy,nC,ak hi,ak hj,List.length_map,aI,Nat.reduceMul,Nat.reduceBEq,Nat.reduceLT,Nat.reduceLeDiff,reduceCtorEq,Nat.reduceEqDiff,Nat.reduceAdd,Nat.beq]
 ·intro rb
  rw [JK,wQ]
  simp only [yU,Int.lt_irrefl,List.length_map,aI,Nat.reduceMul,Nat.reduceBEq,Nat.reduceLT,Nat.reduceLeDiff,reduceCtorEq,Nat.reduceEqDiff,Nat.reduceAdd,Nat.beq]
theorem afH {dt:List Bm} {z:List Int} (hl:dt.length≤1000):cal env 89 [.list 2 (dt.map iZ),.list 1 (z.map eI),.func 90 []]=some [(.bool (wP dt z),false)]:=by
 rw [ND]
 by_cases c:dt.length=z.length
 ·have F1:((dt.length:Int) != (z.length:Int))=false:=by simp [c]
  rw [decide_eq_true c,Bool.true_and]
  rw [ah aa1 rfl];simp only [Rz,aO,Nat.reduceBEq,Nat.reduceLeDiff,Nat.reduceAdd,List.length_cons,List.length_nil]
  simp only [F1,List.length_map,aI,Nat.reduceMul,Nat.reduceBEq,Nat.reduceLT,Nat.reduceLeDiff,reduceCtorEq,Nat.reduceEqDiff,Nat.reduceAdd,Nat.beq]
  rw [adp hl c (by simp only [aO,bG,Nat.reduceMul,Nat.reduceBEq,Nat.reduceLT,Nat.reduceLeDiff,Nat.reduceAdd,decide_true,Bool.and_self,Bool.true_and]<;>rfl)]
  cases wR dt z 0 with
  |true=>rw [wQ];simp only [F1,List.length_map,aI,Nat.reduceMul,Nat.reduceBEq,Nat.reduceLT,Nat.reduceLeDiff,reduceCtorEq,Nat.reduceEqDiff,Nat.reduceAdd,Nat.beq]
  |false=>rw [tY];simp only [F1,List.length_map,aI,Nat.reduceMul,Nat.reduceBEq,Nat.reduceLT,Nat.reduceLeDiff,reduceCtorEq,Nat.reduceEqDiff,Nat.reduceAdd,Nat.beq]
 ·have F1:((dt.length:Int) != (z.length:Int))=true:=by simp;omega
  rw [decide_eq_false c,Bool.false_and]
  rw [ah aa1 rfl];simp only [Rz,aO,Nat.reduceBEq,Nat.reduceLeDiff,Nat.reduceAdd,List.length_cons,List.length_nil]
  simp only [F1,List.length_map,aI,Nat.reduceMul,Nat.reduceBEq,Nat.reduceLT,Nat.reduceLeDiff,reduceCtorEq,Nat.reduceEqDiff,Nat.reduceAdd,Nat.beq]
end Go.Proofs.YtpcncggjmabnaaaGreatDoor.V

namespace Go.Proofs.YtpcncggjmabnaaaGreatDoor.V
def quG (z:List Int):Int→List nY→Bool
 |_,[]=>true
 |f,c :: cs=>(J9 z c==0)&&((c.base==f)&&quG z c.num cs)
def DL:Int→List nY→Int
 |f,[]=>f
 |_,c :: cs=>DL c.num cs
theorem abd (z:List Int) (l:Int):∀ (cy:List nY) (f:Int),Yo z f cy l=(quG z f cy&&(DL f cy==l))
 |[],f=>by simp [Yo,quG,DL]
 |c :: cs,f=>by rw [Yo,abd z l cs,quG,DL,Bool.and_assoc,Bool.and_assoc]
theorem vO {f:Int} {cy:List nY} {i:Nat} (h:i<cy.length):uh f cy (i+1)=cy[i].num:=by simp [uh,List.getElem?_eq_getElem h]
theorem aav (f:Int) (cy:List nY):DL f cy=uh f cy cy.length:=by
 induction cy generalizing f with
 |nil=>rfl
 |cons c cs ih =>
  rw [DL,ih]
  cases cs with
  |nil=>rfl
  |cons d ds=>simp [uh]
def OJ (z:List Int) (f:Int) (cy:List nY) (i:Nat):Bool:=quG z (uh f cy i) (cy.drop i)
theorem JL {z:List Int} {f:Int} {cy:List nY} {i:Nat} (h:i<cy.length):OJ z f cy i=((J9 z cy[i]==0)&&((cy[i].base==uh f cy i)&&OJ z f cy (i+1))):=by
 unfold OJ
 rw [List.drop_eq_getElem_cons h,quG,vO h]
theorem OL (z:List Int) (f:Int) (cy:List nY):OJ z f cy cy.length=true:=by
 unfold OJ
 rw [List.drop_length]
 rfl
theorem abe (z:List Int) (f l:Int) (cy:List nY):Yo z f cy l=(OJ z f cy 0&&(uh f cy cy.length==l)):=by
 rw [abd,aav]
 rfl
def quV (z:List Int):Int→List nY→Int
 |f,[]=>f
 |f,c :: cs=>if ((J9 z c==0)&&(c.base==f))=true then quV z c.num cs else f
def SB (z:List Int) (f:Int) (cy:List nY) (i:Nat):Int:=quV z (uh f cy i) (cy.drop i)
theorem XK {z:List Int} {f:Int} {cy:List nY} {i:Nat} (h:i<cy.length) (h1:(J9 z cy[i]==0)=true) (h2:(cy[i].base==uh f cy i)=true):SB z f cy i=SB z f cy (i+1):=by
 unfold SB
 rw [List.drop_eq_getElem_cons h,quV,h1,h2,vO h]
 rfl
theorem Gw {z:List Int} {f:Int} {cy:List nY} {i:Nat} (h:i<cy.length) (h1:((J9 z cy[i]==0)&&(cy[i].base==uh f cy i))=false):SB z f cy i=uh f cy i:=by
 unfold SB
 rw [List.drop_eq_getElem_cons h,quV,h1]
 rfl
def NG (z:List Int) (f l:Int) (cy:List nY) (i:Nat) (b:Bool):Option (Ex × St):=if b then some (.normal,⟨sl 40 [(2,.pv (.int .i64 (uh f cy cy.length))),(3,.pv (.int .i64 l)),(8,.any)],[],[],none⟩) else some (.ret,⟨sl 40 [(2,.pv (.int .i64 (SB z f cy i))),(3,.pv (.int .i64 l)),(8,.pv (.bool false))],[],[],none⟩)
theorem XL (z:List Int) (f l:Int) (cy:List nY) (i:Nat):NG z f l cy i true=some (.normal,⟨sl 40 [(2,.pv (.int .i64 (uh f cy cy.length))),(3,.pv (.int .i64 l)),(8,.any)],[],[],none⟩):=rfl
theorem NH (z:List Int) (f l:Int) (cy:List nY) (i:Nat):NG z f l cy i false=some (.ret,⟨sl 40 [(2,.pv (.int .i64 (SB z f cy i))),(3,.pv (.int .i64 l)),(8,.pv (.bool false))],[],[],none⟩):=rfl
theorem aaw {z:List Int} {f l:Int} {cy:List nY} {i:Nat} (h:SB z f cy i=SB z f cy (i+1)) (b:Bool):NG z f l cy i b=NG z f l cy (i+1) b:=by cases b<;>simp [NG,h]
set_option maxRecDepth 20000 in
theorem adq {z:List Int} {f l:Int} {cy:List nY} (hz:z.length≤1000) (hl:cy.length≤1000) (hc:∀ c∈cy,Ny c) {st:St} (h:st.head [0,1,2,3,9] st.boxes.length=some ⟨sl 40 [(0,.pv (.list 5 (cy.map jc))),(1,.pv (.list 1 (z.map eI))),(2,.pv (.int .i64 (uh f cy ((0:Nat))))),(3,.pv (.int .i64 l)),(9,.pv (.int .i64 (0:Nat)))],[],[],none⟩) :
  den env FC st=NG z f l cy ((0:Nat)) (OJ z f cy ((0:Nat))):=by
 unfold FC
 refine bF (env:=env) (cy.length) (fun i=>⟨sl 40 [(0,.pv (.list 5 (cy.map jc))),(1,.pv (.list 1 (z.map eI))),(2,.pv (.int .i64 (uh f cy (i)))),(3,.pv (.int .i64 l)),(9,.pv (.int .i64 i))],[],[],none⟩) (fun i=>NG z f l cy (i) (OJ z f cy (i))) h (fun _=>rfl) (fun _=>by simp only [aO,bG,Nat.reduceMul,Nat.reduceBEq,Nat.reduceLT,Nat.reduceLeDiff,Nat.reduceAdd,decide_true,Bool.and_self,Bool.true_and]) ?_ ?_
 ·intro i rb hi ih
  have hi1:=bH hi (by unfold lim;omega)
  have F1:((i:Int)<(cy.length:Int))=True:=eq_true (by omega)
  have q:=hc _ (List.getElem_mem hi)
  have e1:=ada (z:=z) (b:=cy[i].base) (n:=cy[i].num) (t:=cy[i].time) (p:=cy[i].pos) (w:=cy[i].ws) (by unfold lim;omega) (Nat.le_trans q.2.1 (by decide)) (fun x hx=>Nat.le_trans (q.2.2 x hx) (by decide)) q.1
  rw [show ckC z cy[i].base cy[i].num cy[i].time cy[i].pos cy[i].ws=J9 z cy[i] from rfl] at e1
  unfold wM at e1
  have hx:=vN hi
  rw [JL hi]
  by_cases c:J9 z cy[i]=0
  ·have Z:((0:Int) != 0)=false:=rfl
   have Z0:(J9 z cy[i]==0)=true:=by simp [c]
   rw [c] at e1
   by_cases c2:cy[i].base=uh f cy i
   ·have Z1:(cy[i].base != uh f cy i)=false:=by simp [c2]
    have Z2:(cy[i].base==uh f cy i)=true:=by simp [c2]
    rw [Z0,Z2,Bool.true_and,Bool.true_and,aaw (XK hi Z0 Z2)]
    simp only [vH,F1,e1,hx,Z,Z1,fC,ak hi,List.length_map,aI,Nat.reduceMul,Nat.reduceBEq,Nat.reduceLT,Nat.reduceLeDiff,reduceCtorEq,Nat.reduceEqDiff,Nat.reduceAdd,Nat.beq]
    rw [ih _ (by simp only [hi1,vO hi,aI,Nat.reduceMul,Nat.reduceBEq,Nat.reduceLT,Nat.reduceLeDiff,reduceCtorEq,Nat.reduceEqDiff,Nat.reduceAdd,Nat.beq]<;>rfl)]
   ·have Z1:(cy[i].base != uh f cy i)=true:=by simp [c2]
    have Z2:(cy[i].base==uh f cy i)=false:=by simp [c2]
    rw [Z0,Z2,Bool.true_and,Bool.false_and,NH,Gw hi (by rw [Z0,Z2];rfl)]
    simp only [vH,F1,e1,hx,Z,Z1,fC,ak hi,List.length_map,aI,Nat.reduceMul,Nat.reduceBEq,Nat.reduceLT,Nat.reduceLeDiff,reduceCtorEq,Nat.reduceEqDiff,Nat.reduceAdd,Nat.beq]
  ·have Z:(J9 z cy[i] != 0)=true:=by simp [c]
   have Z0:(J9 z cy[i]==0)=false:=by simp [c]
   rw [Z0,Bool.false_and,NH,Gw hi (by rw [Z0];rfl)]
   simp only [vH,F1,e1,hx,Z,fC,ak hi,List.length_map,aI,Nat.reduceMul,Nat.reduceBEq,Nat.reduceLT,Nat.reduceLeDiff,reduceCtorEq,Nat.reduceEqDiff,Nat.reduceAdd,Nat.beq]
 ·intro rb
  rw [OL,XL]
  simp only [vH,Int.lt_irrefl,List.length_map,aI,Nat.reduceMul,Nat.reduceBEq,Nat.reduceLT,Nat.reduceLeDiff,reduceCtorEq,Nat.reduceEqDiff,Nat.reduceAdd,Nat.beq]
set_option maxRecDepth 20000 in
theorem afI {z:List Int} {f l:Int} {cy:List nY} (hz:z.length≤1000) (hl:cy.length≤1000) (hc:∀ c∈cy,Ny c):cal env 51 [.list 5 (cy.map jc),.list 1 (z.map eI),.int .i64 f,.int .i64 l]=some [(.bool (Yo z f cy l),false)]:=by
 rw [abe]
 rw [ah aeW rfl];simp only [VJ,aO,Nat.reduceBEq,Nat.reduceLeDiff,Nat.reduceAdd,List.length_cons,List.length_nil]
 simp only [aI,Nat.reduceMul,Nat.reduceBEq,Nat.reduceLT,Nat.reduceLeDiff,reduceCtorEq,Nat.reduceEqDiff,Nat.reduceAdd,Nat.beq]
 rw [adq (z:=z) (f:=f) (l:=l) (cy:=cy) hz hl hc (by simp only [aO,bG,Nat.reduceMul,Nat.reduceBEq,Nat.reduceLT,Nat.reduceLeDiff,Nat.reduceAdd,decide_true,Bool.and_self,Bool.true_and]<;>rfl)]
 cases OJ z f cy 0 with
 |true=>rw [XL,Bool.true_and];simp only [aI,Nat.reduceMul,Nat.reduceBEq,Nat.reduceLT,Nat.reduceLeDiff,reduceCtorEq,Nat.reduceEqDiff,Nat.reduceAdd,Nat.beq]
 |false=>rw [NH,Bool.false_and];simp only [aI,Nat.reduceMul,Nat.reduceBEq,Nat.reduceLT,Nat.reduceLeDiff,reduceCtorEq,Nat.reduceEqDiff,Nat.reduceAdd,Nat.beq]
def NI (z:List Int) (f:Int) (cy:List nY) (i:Nat) (bx:List Box) (b:Bool):Option (Ex × St):=if b then some (.normal,⟨sl 47 [(1,.aS 0 0),(2,.any),(3,.pv (.int .i64 (uh f cy cy.length)))],bx,[],none⟩) else some (.ret,⟨sl 47 [(1,.aS 0 0),(2,.pv (.bool false)),(3,.pv (.int .i64 (SB z f cy i)))],bx,[],none⟩)
theorem XM (z:List Int) (f:Int) (cy:List nY) (i:Nat) (bx:List Box):NI z f cy i bx true=some (.normal,⟨sl 47 [(1,.aS 0 0),(2,.any),(3,.pv (.int .i64 (uh f cy cy.length)))],bx,[],none⟩):=rfl
theorem NJ (z:List Int) (f:Int) (cy:List nY) (i:Nat) (bx:List Box):NI z f cy i bx false=some (.ret,⟨sl 47 [(1,.aS 0 0),(2,.pv (.bool false)),(3,.pv (.int .i64 (SB z f cy i)))],bx,[],none⟩):=rfl
theorem aax {z:List Int} {f:Int} {cy:List nY} {i:Nat} (h:SB z f cy i=SB z f cy (i+1)) (bx:List Box) (b:Bool):NI z f cy i bx b=NI z f cy (i+1) bx b:=by cases b<;>simp [NI,h]
set_option maxRecDepth 20000 in
theorem adr {s:mJ} (hq:Nz s) {st:St} (h:st.head [1,3,9,10,11] st.boxes.length=some ⟨sl 47 [(1,.aS 0 0),(3,.pv (.int .i64 (uh s.fs s.cy ((0:Nat))))),(9,.pv (.list 5 (s.cy.map jc))),(10,.pv (.int .i64 s.cy.length)),(11,.pv (.int .i64 (0:Nat)))],[⟨false,iP s⟩],[],none⟩) :
  den env Gj st=NI s.sz s.fs s.cy ((0:Nat)) [⟨false,iP s⟩] (OJ s.sz s.fs s.cy ((0:Nat))):=by
 unfold Gj
 refine bF (env:=env) (nb:=1) (s.cy.length) (fun i=>⟨sl 47 [(1,.aS 0 0),(3,.pv (.int .i64 (uh s.fs s.cy (i)))),(9,.pv (.list 5 (s.cy.map jc))),(10,.pv (.int .i64 s.cy.length)),(11,.pv (.int .i64 i))],[⟨false,iP s⟩],[],none⟩) (fun i=>NI s.sz s.fs s.cy (i) [⟨false,iP s⟩] (OJ s.sz s.fs s.cy (i))) h (fun _=>rfl) (fun _=>by simp only [aO,bG,Nat.reduceMul,Nat.reduceBEq,Nat.reduceLT,Nat.reduceLeDiff,Nat.reduceAdd,decide_true,Bool.and_self,Bool.true_and]) ?_ ?_
 ·intro i rb hi ih
  have hi1:=bH hi (by have:=hq.cy;unfold lim;omega)
  have F1:((i:Int)<(s.cy.length:Int))=True:=eq_true (by omega)
  have q:=hq.c1 _ (List.getElem_mem hi)
  have e1:=ac9 (z:=s.sz) (b:=s.cy[i].base) (n:=s.cy[i].num) (t:=s.cy[i].time) (p:=s.cy[i].pos) (w:=s.cy[i].ws) (by have:=hq.sz;unfold lim;omega) (Nat.le_trans q.2.1 (by decide)) (fun x hx=>Nat.le_trans (q.2.2 x hx) (by decide)) q.1
  rw [show ckC s.sz s.cy[i].base s.cy[i].num s.cy[i].time s.cy[i].pos s.cy[i].ws=J9 s.sz s.cy[i] from rfl] at e1
  unfold wM at e1
  have hx:=vN hi
  rw [JL hi]
  by_cases c:J9 s.sz s.cy[i]=0
  ·have Z:((0:Int) != 0)=false:=rfl
   have Z0:(J9 s.sz s.cy[i]==0)=true:=by simp [c]
   rw [c] at e1
   by_cases c2:s.cy[i].base=uh s.fs s.cy i
   ·have Z1:(s.cy[i].base != uh s.fs s.cy i)=false:=by simp [c2]
    have Z2:(s.cy[i].base==uh s.fs s.cy i)=true:=by simp [c2]
    rw [Z0,Z2,Bool.true_and,Bool.true_and,aax (XK hi Z0 Z2)]
    simp only [vJ,F1,e1,hx,Z,Z1,fC,aW,ak hi,List.length_map,aI,Nat.reduceMul,Nat.reduceBEq,Nat.reduceLT,Nat.reduceLeDiff,reduceCtorEq,Nat.reduceEqDiff,Nat.reduceAdd,Nat.beq]
    rw [ih _ (by simp only [hi1,vO hi,aW,aI,Nat.reduceMul,Nat.reduceBEq,Nat.reduceLT,Nat.reduceLeDiff,reduceCtorEq,Nat.reduceEqDiff,Nat.reduceAdd,Nat.beq]<;>rfl)]
    rfl
   ·have Z1:(s.cy[i].base != uh s.fs s.cy i)=true:=by simp [c2]
    have Z2:(s.cy[i].base==uh s.fs s.cy i)=false:=by simp [c2]
    rw [Z0,Z2,Bool.true_and,Bool.false_and,NJ,Gw hi (by rw [Z0,Z2];rfl)]
    simp only [vJ,F1,e1,hx,Z,Z1,fC,aW,ak hi,List.length_map,aI,Nat.reduceMul,Nat.reduceBEq,Nat.reduceLT,Nat.reduceLeDiff,reduceCtorEq,Nat.reduceEqDiff,Nat.reduceAdd,Nat.beq]
  ·have Z:(J9 s.sz s.cy[i] != 0)=true:=by simp [c]
   have Z0:(J9 s.sz s.cy[i]==0)=false:=by simp [c]
   rw [Z0,Bool.false_and,NJ,Gw hi (by rw [Z0];rfl)]
   simp only [vJ,F1,e1,hx,Z,fC,aW,ak hi,List.length_map,aI,Nat.reduceMul,Nat.reduceBEq,Nat.reduceLT,Nat.reduceLeDiff,reduceCtorEq,Nat.reduceEqDiff,Nat.reduceAdd,Nat.beq]
 ·intro rb
  rw [OL,XM]
  simp only [vJ,Int.lt_irrefl,List.length_map,aI,Nat.reduceMul,Nat.reduceBEq,Nat.reduceLT,Nat.reduceLeDiff,reduceCtorEq,Nat.reduceEqDiff,Nat.reduceAdd,Nat.beq]
def ckA (s:mJ):Bool:=OJ s.sz s.fs s.cy 0&&(decide (s.dt=[])&&(decide ((s.cy.length:Int)≤s.lm)&&(uh s.fs s.cy s.cy.length==s.ls)))
set_option maxRecDepth 20000 in
theorem afK {s:mJ} (hq:Nz s):cal env 87 [oH s]=some [(.bool (ckA s),false)]:=by
 rw [fB]
 unfold ckA
 rw [ah afb rfl];simp only [VZ,aO,Nat.reduceBEq,Nat.reduceLeDiff,Nat.reduceAdd,List.length_cons,List.length_nil]
 simp only [aI,Nat.reduceMul,Nat.reduceBEq,Nat.reduceLT,Nat.reduceLeDiff,reduceCtorEq,Nat.reduceEqDiff,Nat.reduceAdd,Nat.beq]
 rw [adr (s:=s) hq (by simp only [aW];simp only [aO,bG,Nat.reduceMul,Nat.reduceBEq,Nat.reduceLT,Nat.reduceLeDiff,Nat.reduceAdd,decide_true,Bool.and_self,Bool.true_and]<;>rfl)]
 cases OJ s.sz s.fs s.cy 0 with
 |false=>rw [NJ,Bool.false_and];simp only [aW,aI,Nat.reduceMul,Nat.reduceBEq,Nat.reduceLT,Nat.reduceLeDiff,reduceCtorEq,Nat.reduceEqDiff,Nat.reduceAdd,Nat.beq]
 |true =>
  rw [XM,Bool.true_and]
  by_cases c1:s.dt=[]
  ·have G1:((s.dt.length:Int)==0)=true:=by simp [c1]
   rw [decide_eq_true c1,Bool.true_and]
   by_cases c2:(s.cy.length:Int)≤s.lm
   ·have G2:=eq_true c2
    rw [decide_eq_true c2,Bool.true_and]
    simp only [aW,G1,G2,List.length_map,aI,Nat.reduceMul,Nat.reduceBEq,Nat.reduceLT,Nat.reduceLeDiff,reduceCtorEq,Nat.reduceEqDiff,Nat.reduceAdd,Nat.beq]
   ·have G2:=eq_false c2
    rw [decide_eq_false c2,Bool.false_and]
    simp only [aW,G1,G2,List.length_map,aI,Nat.reduceMul,Nat.reduceBEq,Nat.reduceLT,Nat.reduceLeDiff,reduceCtorEq,Nat.reduceEqDiff,Nat.reduceAdd,Nat.beq]
  ·have G1:((s.dt.length:Int)==0)=false:=by
    have:s.dt.length≠0:=fun e=>c1 (List.eq_nil_of_length_eq_zero e)
    simp;omega
   rw [decide_eq_false c1,Bool.false_and]
   simp only [aW,G1,List.length_map,aI,Nat.reduceMul,Nat.reduceBEq,Nat.reduceLT,Nat.reduceLeDiff,reduceCtorEq,Nat.reduceEqDiff,Nat.reduceAdd,Nat.beq]
def ckB (s:mJ):Bool:=wP s.dt s.sz&&(decide (s.cy=[])&&decide (s.fs<s.ls))
theorem afM {s:mJ} (hq:Nz s):cal env 88 [oH s]=some [(.bool (ckB s),false)]:=by
 have e1:=afH (dt:=s.dt) (z:=s.sz) hq.dt
 rw [fB]
 unfold ckB
 cases c0:wP s.dt s.sz with
 |false =>
  rw [c0] at e1
  rw [Bool.false_and]
  rw [ah Oy rfl];simp only [Jh,aO,Nat.reduceBEq,Nat.reduceLeDiff,Nat.reduceAdd,List.length_cons,List.length_nil]
  simp only [e1,aI,Nat.reduceMul,Nat.reduceBEq,Nat.reduceLT,Nat.reduceLeDiff,reduceCtorEq,Nat.reduceEqDiff,Nat.reduceAdd,Nat.beq]
 |true =>
  rw [c0] at e1
  rw [Bool.true_and]
  by_cases c1:s.cy=[]
  ·have G1:((s.cy.length:Int)==0)=true:=by simp [c1]
   rw [decide_eq_true c1,Bool.true_and]
   by_cases c2:s.fs<s.ls
   ·have G2:=eq_true c2
    rw [decide_eq_true c2]
    rw [ah Oy rfl];simp only [Jh,aO,Nat.reduceBEq,Nat.reduceLeDiff,Nat.reduceAdd,List.length_cons,List.length_nil]
    simp only [e1,G1,G2,List.length_map,aI,Nat.reduceMul,Nat.reduceBEq,Nat.reduceLT,Nat.reduceLeDiff,reduceCtorEq,Nat.reduceEqDiff,Nat.reduceAdd,Nat.beq]
   ·have G2:=eq_false c2
    rw [decide_eq_false c2]
    rw [ah Oy rfl];simp only [Jh,aO,Nat.reduceBEq,Nat.reduceLeDiff,Nat.reduceAdd,List.length_cons,List.length_nil]
    simp only [e1,G1,G2,List.length_map,aI,Nat.reduceMul,Nat.reduceBEq,Nat.reduceLT,Nat.reduceLeDiff,reduceCtorEq,Nat.reduceEqDiff,Nat.reduceAdd,Nat.beq]
  ·have G1:((s.cy.length:Int)==0)=false:=by
    have:s.cy.length≠0:=fun e=>c1 (List.eq_nil_of_length_eq_zero e)
    simp;omega
   rw [decide_eq_false c1,Bool.false_and]
   rw [ah Oy rfl];simp only [Jh,aO,Nat.reduceBEq,Nat.reduceLeDiff,Nat.reduceAdd,List.length_cons,List.length_nil]
   simp only [e1,G1,List.length_map,aI,Nat.reduceMul,Nat.reduceBEq,Nat.reduceLT,Nat.reduceLeDiff,reduceCtorEq,Nat.reduceEqDiff,Nat.reduceAdd,Nat.beq]
theorem afN {s:mJ}:cal env 44 [oH s]=some [(.int .i64 (if s.ov then 1 else 0),false)]:=by
 rw [fB]
 cases c:s.ov with
 |true =>
  rw [ah aaV rfl];simp only [Rq,aO,Nat.reduceBEq,Nat.reduceLeDiff,Nat.reduceAdd,List.length_cons,List.length_nil]
  simp only [aI,Nat.reduceMul,Nat.reduceBEq,Nat.reduceLT,Nat.reduceLeDiff,reduceCtorEq,Nat.reduceEqDiff,Nat.reduceAdd,Nat.beq]
 |false =>
  rw [ah aaV rfl];simp only [Rq,aO,Nat.reduceBEq,Nat.reduceLeDiff,Nat.reduceAdd,List.length_cons,List.length_nil]
  simp only [aI,Nat.reduceMul,Nat.reduceBEq,Nat.reduceLT,Nat.reduceLeDiff,reduceCtorEq,Nat.reduceEqDiff,Nat.reduceAdd,Nat.beq]
theorem afO:cal env 49 []=some [(.agg [.func 87 [],.func 88 []],false)]:=by
 have P2:∀ a b:PV,part [a,b] 0 (some 2)=some (.agg [a,b]):=fun _ _=>rfl
 rw [ah aeV rfl];simp only [VI,aO,Nat.reduceBEq,Nat.reduceLeDiff,Nat.reduceAdd,List.length_cons,List.length_nil]
 simp only [P2,aI,Nat.reduceMul,Nat.reduceBEq,Nat.reduceLT,Nat.reduceLeDiff,reduceCtorEq,Nat.reduceEqDiff,Nat.reduceAdd,Nat.beq]
end Go.Proofs.YtpcncggjmabnaaaGreatDoor.V

namespace Go.Proofs.YtpcncggjmabnaaaGreatDoor.V
set_option maxRecDepth 20000 in
theorem afP {s:mJ} (hq:Nz s):cal env 20 [oH s]=some [(.int .i64 (yG s),false)]:=by
 have e1:=Xa (l:=s.sz) (by have:=hq.sz;unfold lim;omega)
 have e2:=afO
 have e3:=afN (s:=s)
 have e4:=afK hq
 have e5:=afM hq
 have Z0:((0:Int) != 0)=false:=rfl
 have I0:index (.int .i64 0) 2=some 0:=rfl
 have I1:index (.int .i64 1) 2=some 1:=rfl
 rw [fB] at e3 e4 e5 ⊢
 unfold yG
 by_cases cz:aX s.sz=0
 rotate_left
 ·rw [if_neg cz] at e1 ⊢
  have Z:(aX s.sz != 0)=true:=by simp [cz]
  rw [ah sH rfl];simp only [vw,aO,Nat.reduceBEq,Nat.reduceLeDiff,Nat.reduceAdd,List.length_cons,List.length_nil]
  simp only [e1,Z,aI,Nat.reduceMul,Nat.reduceBEq,Nat.reduceLT,Nat.reduceLeDiff,reduceCtorEq,Nat.reduceEqDiff,Nat.reduceAdd,Nat.beq]
 rw [cz,if_pos rfl] at e1
 rw [if_pos cz]
 by_cases c1:s.lm<1
 ·have F1:=eq_true c1
  rw [if_pos (Or.inl c1:s.lm<1∨s.lm > 1024∨s.fs<0∨s.fs > s.ls∨s.ls > 1073741824)]
  rw [ah sH rfl];simp only [vw,aO,Nat.reduceBEq,Nat.reduceLeDiff,Nat.reduceAdd,List.length_cons,List.length_nil]
  simp only [e1,Z0,fQ,F1,aI,Nat.reduceMul,Nat.reduceBEq,Nat.reduceLT,Nat.reduceLeDiff,reduceCtorEq,Nat.reduceEqDiff,Nat.reduceAdd,Nat.beq]
 ·have F1:=eq_false c1
  by_cases c2:s.lm > 1024
  ·have F2:=eq_true c2
   rw [if_pos (Or.inr (Or.inl c2):s.lm<1∨s.lm > 1024∨s.fs<0∨s.fs > s.ls∨s.ls > 1073741824)]
   rw [ah sH rfl];simp only [vw,aO,Nat.reduceBEq,Nat.reduceLeDiff,Nat.reduceAdd,List.length_cons,List.length_nil]
   simp only [e1,Z0,fQ,F1,F2,aI,Nat.reduceMul,Nat.reduceBEq,Nat.reduceLT,Nat.reduceLeDiff,reduceCtorEq,Nat.reduceEqDiff,Nat.reduceAdd,Nat.beq]
  ·have F2:=eq_false c2
   by_cases c3:s.fs<0
   ·have F3:=eq_true c3
    rw [if_pos (Or.inr (Or.inr (Or.inl c3)):s.lm<1∨s.lm > 1024∨s.fs<0∨s.fs > s.ls∨s.ls > 1073741824)]
    rw [ah sH rfl];simp only [vw,aO,Nat.reduceBEq,Nat.reduceLeDiff,Nat.reduceAdd,List.length_cons,List.length_nil]
    simp only [e1,Z0,fQ,F1,F2,F3,aI,Nat.reduceMul,Nat.reduceBEq,Nat.reduceLT,Nat.reduceLeDiff,reduceCtorEq,Nat.reduceEqDiff,Nat.reduceAdd,Nat.beq]
   ·have F3:=eq_false c3
    by_cases c4:s.fs > s.ls
    ·have F4:=eq_true c4
     rw [if_pos (Or.inr (Or.inr (Or.inr (Or.inl c4))):s.lm<1∨s.lm > 1024∨s.fs<0∨s.fs > s.ls∨s.ls > 1073741824)]
     rw [ah sH rfl];simp only [vw,aO,Nat.reduceBEq,Nat.reduceLeDiff,Nat.reduceAdd,List.length_cons,List.length_nil]
     simp only [e1,Z0,fQ,F1,F2,F3,F4,aI,Nat.reduceMul,Nat.reduceBEq,Nat.reduceLT,Nat.reduceLeDiff,reduceCtorEq,Nat.reduceEqDiff,Nat.reduceAdd,Nat.beq]
    ·have F4:=eq_false c4
     by_cases c5:s.ls > 1073741824
     ·have F5:=eq_true c5
      rw [if_pos (Or.inr (Or.inr (Or.inr (Or.inr c5))):s.lm<1∨s.lm > 1024∨s.fs<0∨s.fs > s.ls∨s.ls > 1073741824)]
      rw [ah sH rfl];simp only [vw,aO,Nat.reduceBEq,Nat.reduceLeDiff,Nat.reduceAdd,List.length_cons,List.length_nil]
      simp only [e1,Z0,fQ,F1,F2,F3,F4,F5,aI,Nat.reduceMul,Nat.reduceBEq,Nat.reduceLT,Nat.reduceLeDiff,reduceCtorEq,Nat.reduceEqDiff,Nat.reduceAdd,Nat.beq]
     ·have F5:=eq_false c5
      rw [if_neg (show ¬ (s.lm<1∨s.lm > 1024∨s.fs<0∨s.fs > s.ls∨s.ls > 1073741824) by omega)]
      cases co:s.ov with
      |true =>
       rw [if_pos rfl]
       rw [co,if_pos rfl] at e3
       rw [co] at e5
       have hk:ckB s=(decide (s.cy=[])&&(decide (s.fs≠s.ls)&&wP s.dt s.sz)):=by
        unfold ckB
        rw [show decide (s.fs<s.ls)=decide (s.fs≠s.ls) from decide_eq_decide.2 (by omega)]
        cases wP s.dt s.sz<;>cases decide (s.cy=[])<;>cases decide (s.fs≠s.ls)<;>rfl
       rw [← hk]
       cases ck:ckB s with
       |true =>
        rw [ck] at e5
        rw [if_pos rfl]
        rw [ah sH rfl];simp only [vw,aO,Nat.reduceBEq,Nat.reduceLeDiff,Nat.reduceAdd,List.length_cons,List.length_nil]
        simp only [co,e1,e2,e3,e5,I1,Z0,F1,F2,F3,F4,F5,fQ,aI,Nat.reduceMul,Nat.reduceBEq,Nat.reduceLT,Nat.reduceLeDiff,reduceCtorEq,Nat.reduceEqDiff,Nat.reduceAdd,Nat.beq]
       |false =>
        rw [ck] at e5
        rw [if_neg Bool.false_ne_true]
        rw [ah sH rfl];simp only [vw,aO,Nat.reduceBEq,Nat.reduceLeDiff,Nat.reduceAdd,List.length_cons,List.length_nil]
        simp only [co,e1,e2,e3,e5,I1,Z0,F1,F2,F3,F4,F5,fQ,aI,Nat.reduceMul,Nat.reduceBEq,Nat.reduceLT,Nat.reduceLeDiff,reduceCtorEq,Nat.reduceEqDiff,Nat.reduceAdd,Nat.beq]
      |false =>
       rw [if_neg Bool.false_ne_true]
       rw [co,if_neg Bool.false_ne_true] at e3
       rw [co] at e4
       have hk:ckA s=(decide (s.dt=[])&&(decide ((s.cy.length:Int)≤s.lm)&&Yo s.sz s.fs s.cy s.ls)):=by
        unfold ckA
        rw [abe]
        cases OJ s.sz s.fs s.cy 0<;>cases decide (s.dt=[])<;>cases decide ((s.cy.length:Int)≤s.lm)<;>rfl
       rw [← hk]
       cases ck:ckA s with
       |true =>
        rw [ck] at e4
        rw [if_pos rfl]
        rw [ah sH rfl];simp only [vw,aO,Nat.reduceBEq,Nat.reduceLeDiff,Nat.reduceAdd,List.length_cons,List.length_nil]
        simp only [co,e1,e2,e3,e4,I0,Z0,F1,F2,F3,F4,F5,fQ,aI,Nat.reduceMul,Nat.reduceBEq,Nat.reduceLT,Nat.reduceLeDiff,reduceCtorEq,Nat.reduceEqDiff,Nat.reduceAdd,Nat.beq]
       |false =>
        rw [ck] at e4
        rw [if_neg Bool.false_ne_true]
        rw [ah sH rfl];simp only [vw,aO,Nat.reduceBEq,Nat.reduceLeDiff,Nat.reduceAdd,List.length_cons,List.length_nil]
        simp only [co,e1,e2,e3,e4,I0,Z0,F1,F2,F3,F4,F5,fQ,aI,Nat.reduceMul,Nat.reduceBEq,Nat.reduceLT,Nat.reduceLeDiff,reduceCtorEq,Nat.reduceEqDiff,Nat.reduceAdd,Nat.beq]
set_option maxRecDepth 20000 in
theorem afQ {s:mJ} (hq:Nz s):cal env 21 [oH s]=some [(.int .i64 (yG s),false)]:=by
 have e1:=afy (z:=s.sz) hq.sz
 have e2:=afF (dt:=s.dt) (z:=s.sz) hq.dt
 have e3:=afI (z:=s.sz) (f:=s.fs) (l:=s.ls) (cy:=s.cy) hq.sz hq.cy hq.c1
 have Z0:((0:Int) != 0)=false:=rfl
 rw [fB]
 unfold yG
 by_cases cz:aX s.sz=0
 rotate_left
 ·rw [if_neg cz] at e1 ⊢
  have Z:(aX s.sz != 0)=true:=by simp [cz]
  rw [ah nX rfl];simp only [qA,aO,Nat.reduceBEq,Nat.reduceLeDiff,Nat.reduceAdd,List.length_cons,List.length_nil]
  simp only [e1,Z,aI,Nat.reduceMul,Nat.reduceBEq,Nat.reduceLT,Nat.reduceLeDiff,reduceCtorEq,Nat.reduceEqDiff,Nat.reduceAdd,Nat.beq]
 rw [cz,if_pos rfl] at e1
 rw [if_pos cz]
 by_cases c1:s.lm<1
 ·have F1:=eq_true c1
  rw [if_pos (Or.inl c1:s.lm<1∨s.lm > 1024∨s.fs<0∨s.fs > s.ls∨s.ls > 1073741824)]
  rw [ah nX rfl];simp only [qA,aO,Nat.reduceBEq,Nat.reduceLeDiff,Nat.reduceAdd,List.length_cons,List.length_nil]
  simp only [e1,Z0,F1,aI,Nat.reduceMul,Nat.reduceBEq,Nat.reduceLT,Nat.reduceLeDiff,reduceCtorEq,Nat.reduceEqDiff,Nat.reduceAdd,Nat.beq]
 ·have F1:=eq_false c1
  by_cases c2:s.lm > 1024
  ·have F2:=eq_true c2
   rw [if_pos (Or.inr (Or.inl c2):s.lm<1∨s.lm > 1024∨s.fs<0∨s.fs > s.ls∨s.ls > 1073741824)]
   rw [ah nX rfl];simp only [qA,aO,Nat.reduceBEq,Nat.reduceLeDiff,Nat.reduceAdd,List.length_cons,List.length_nil]
   simp only [e1,Z0,F1,F2,aI,Nat.reduceMul,Nat.reduceBEq,Nat.reduceLT,Nat.reduceLeDiff,reduceCtorEq,Nat.reduceEqDiff,Nat.reduceAdd,Nat.beq]
  ·have F2:=eq_false c2
   by_cases c3:s.fs<0
   ·have F3:=eq_true c3
    rw [if_pos (Or.inr (Or.inr (Or.inl c3)):s.lm<1∨s.lm > 1024∨s.fs<0∨s.fs > s.ls∨s.ls > 1073741824)]
    rw [ah nX rfl];simp only [qA,aO,Nat.reduceBEq,Nat.reduceLeDiff,Nat.reduceAdd,List.length_cons,List.length_nil]
    simp only [e1,Z0,F1,F2,F3,aI,Nat.reduceMul,Nat.reduceBEq,Nat.reduceLT,Nat.reduceLeDiff,reduceCtorEq,Nat.reduceEqDiff,Nat.reduceAdd,Nat.beq]
   ·have F3:=eq_false c3
    by_cases c4:s.fs > s.ls
    ·have F4:=eq_true c4
     rw [if_pos (Or.inr (Or.inr (Or.inr (Or.inl c4))):s.lm<1∨s.lm > 1024∨s.fs<0∨s.fs > s.ls∨s.ls > 1073741824)]
     rw [ah nX rfl];simp only [qA,aO,Nat.reduceBEq,Nat.reduceLeDiff,Nat.reduceAdd,List.length_cons,List.length_nil]
     simp only [e1,Z0,F1,F2,F3,F4,aI,Nat.reduceMul,Nat.reduceBEq,Nat.reduceLT,Nat.reduceLeDiff,reduceCtorEq,Nat.reduceEqDiff,Nat.reduceAdd,Nat.beq]
    ·have F4:=eq_false c4
     by_cases c5:s.ls > 1073741824
     ·have F5:=eq_true c5
      rw [if_pos (Or.inr (Or.inr (Or.inr (Or.inr c5))):s.lm<1∨s.lm > 1024∨s.fs<0∨s.fs > s.ls∨s.ls > 1073741824)]
      rw [ah nX rfl];simp only [qA,aO,Nat.reduceBEq,Nat.reduceLeDiff,Nat.reduceAdd,List.length_cons,List.length_nil]
      simp only [e1,Z0,F1,F2,F3,F4,F5,aI,Nat.reduceMul,Nat.reduceBEq,Nat.reduceLT,Nat.reduceLeDiff,reduceCtorEq,Nat.reduceEqDiff,Nat.reduceAdd,Nat.beq]
     ·have F5:=eq_false c5
      rw [if_neg (show ¬ (s.lm<1∨s.lm > 1024∨s.fs<0∨s.fs > s.ls∨s.ls > 1073741824) by omega)]
      cases co:s.ov with
      |true =>
       rw [if_pos rfl]
       by_cases d1:s.cy=[]
       ·have G1:((s.cy.length:Int) > 0)=False:=by simp [d1]
        rw [decide_eq_true d1,Bool.true_and]
        by_cases d2:s.fs=s.ls
        ·have G2:(s.fs==s.ls)=true:=by simp [d2]
         rw [decide_eq_false (fun h=>h d2),Bool.false_and,if_neg Bool.false_ne_true]
         rw [ah nX rfl];simp only [qA,aO,Nat.reduceBEq,Nat.reduceLeDiff,Nat.reduceAdd,List.length_cons,List.length_nil]
         simp only [co,e1,Z0,F1,F2,F3,F4,F5,G1,G2,List.length_map,aI,Nat.reduceMul,Nat.reduceBEq,Nat.reduceLT,Nat.reduceLeDiff,reduceCtorEq,Nat.reduceEqDiff,Nat.reduceAdd,Nat.beq]
        ·have G2:(s.fs==s.ls)=false:=by simp [d2]
         rw [decide_eq_true d2,Bool.true_and]
         cases d3:wP s.dt s.sz with
         |true =>
          rw [d3] at e2
          rw [if_pos rfl]
          rw [ah nX rfl];simp only [qA,aO,Nat.reduceBEq,Nat.reduceLeDiff,Nat.reduceAdd,List.length_cons,List.length_nil]
          simp only [co,e1,e2,Z0,F1,F2,F3,F4,F5,G1,G2,List.length_map,aI,Nat.reduceMul,Nat.reduceBEq,Nat.reduceLT,Nat.reduceLeDiff,reduceCtorEq,Nat.reduceEqDiff,Nat.reduceAdd,Nat.beq]
         |false =>
          rw [d3] at e2
          rw [if_neg Bool.false_ne_true]
          rw [ah nX rfl];simp only [qA,aO,Nat.reduceBEq,Nat.reduceLeDiff,Nat.reduceAdd,List.length_cons,List.length_nil]
          simp only [co,e1,e2,Z0,F1,F2,F3,F4,F5,G1,G2,List.length_map,aI,Nat.reduceMul,Nat.reduceBEq,Nat.reduceLT,Nat.reduceLeDiff,reduceCtorEq,Nat.reduceEqDiff,Nat.reduceAdd,Nat.beq]
       ·have G1:((s.cy.length:Int) > 0)=True:=eq_true (by
         have:s.cy.length≠0:=fun e=>d1 (List.eq_nil_of_length_eq_zero e)
         omega)
        rw [decide_eq_false d1,Bool.false_and,if_neg Bool.false_ne_true]
        rw [ah nX rfl];simp only [qA,aO,Nat.reduceBEq,Nat.reduceLeDiff,Nat.reduceAdd,List.length_cons,List.length_nil]
        simp only [co,e1,Z0,F1,F2,F3,F4,F5,G1,List.length_map,aI,Nat.reduceMul,Nat.reduceBEq,Nat.reduceLT,Nat.reduceLeDiff,reduceCtorEq,Nat.reduceEqDiff,Nat.reduceAdd,Nat.beq]
      |false =>
       rw [if_neg Bool.false_ne_true]
       by_cases d1:s.dt=[]
       ·have G1:((s.dt.length:Int) > 0)=False:=by simp [d1]
        rw [decide_eq_true d1,Bool.true_and]
        by_cases d2:(s.cy.length:Int)≤s.lm
        ·have G2:((s.cy.length:Int) > s.lm)=False:=eq_false (by omega)
         rw [decide_eq_true d2,Bool.true_and]
         cases d3:Yo s.sz s.fs s.cy s.ls with
         |true =>
          rw [d3] at e3
          rw [if_pos rfl]
          rw [ah nX rfl];simp only [qA,aO,Nat.reduceBEq,Nat.reduceLeDiff,Nat.reduceAdd,List.length_cons,List.length_nil]
          simp only [co,e1,e3,Z0,F1,F2,F3,F4,F5,G1,G2,List.length_map,aI,Nat.reduceMul,Nat.reduceBEq,Nat.reduceLT,Nat.reduceLeDiff,reduceCtorEq,Nat.reduceEqDiff,Nat.reduceAdd,Nat.beq]
         |false =>
          rw [d3] at e3
          rw [if_neg Bool.false_ne_true]
          rw [ah nX rfl];simp only [qA,aO,Nat.reduceBEq,Nat.reduceLeDiff,Nat.reduceAdd,List.length_cons,List.length_nil]
          simp only [co,e1,e3,Z0,F1,F2,F3,F4,F5,G1,G2,List.length_map,aI,Nat.reduceMul,Nat.reduceBEq,Nat.reduceLT,Nat.reduceLeDiff,reduceCtorEq,Nat.reduceEqDiff,Nat.reduceAdd,Nat.beq]
        ·have G2:((s.cy.length:Int) > s.lm)=True:=eq_true (by omega)
         rw [decide_eq_false d2,Bool.false_and,if_neg Bool.false_ne_true]
         rw [ah nX rfl];simp only [qA,aO,Nat.reduceBEq,Nat.reduceLeDiff,Nat.reduceAdd,List.length_cons,List.length_nil]
         simp only [co,e1,Z0,F1,F2,F3,F4,F5,G1,G2,List.length_map,aI,Nat.reduceMul,Nat.reduceBEq,Nat.reduceLT,Nat.reduceLeDiff,reduceCtorEq,Nat.reduceEqDiff,Nat.reduceAdd,Nat.beq]
       ·have G1:((s.dt.length:Int) > 0)=True:=eq_true (by
         have:s.dt.length≠0:=fun e=>d1 (List.eq_nil_of_length_eq_zero e)
         omega)
        rw [decide_eq_false d1,Bool.false_and,if_neg Bool.false_ne_true]
        rw [ah nX rfl];simp only [qA,aO,Nat.reduceBEq,Nat.reduceLeDiff,Nat.reduceAdd,List.length_cons,List.length_nil]
        simp only [co,e1,Z0,F1,F2,F3,F4,F5,G1,List.length_map,aI,Nat.reduceMul,Nat.reduceBEq,Nat.reduceLT,Nat.reduceLeDiff,reduceCtorEq,Nat.reduceEqDiff,Nat.reduceAdd,Nat.beq]
end Go.Proofs.YtpcncggjmabnaaaGreatDoor.V

namespace Go.Proofs.YtpcncggjmabnaaaGreatDoor.V
def XO (c:nY):List BV:=[.pv (.int .i64 c.base),.pv (.int .i64 c.num),.pv (.int .i64 c.time),.pv (.list 1 (c.pos.map eI)),.pv (.list 3 (c.ws.map iL))]
theorem vP (c:nY):XO c=[.pv (.int .i64 c.base),.pv (.int .i64 c.num),.pv (.int .i64 c.time),.pv (.list 1 (c.pos.map eI)),.pv (.list 3 (c.ws.map iL))]:=rfl
def zCy:List BV:=[.pv (.int .i64 0),.pv (.int .i64 0),.pv (.int .i64 0),.row 1 [],.row 3 []]
theorem jF:zCy=[.pv (.int .i64 0),.pv (.int .i64 0),.pv (.int .i64 0),.row 1 [],.row 3 []]:=rfl
theorem afR {l:List jW} {i:Nat} (h:i<l.length):(l.take (i+1)).map iL=(l.take i).map iL++[.agg [.int .i64 l[i].volume,.int .i64 l[i].start,.list 8 (l[i].data.map lW)]]:=by
 rw [List.take_succ_eq_append_getElem h,List.map_append];rfl
theorem afS {l:List nY} {i:Nat} (h:i<l.length):(l.take (i+1)).map jc=(l.take i).map jc++[.agg [.int .i64 l[i].base,.int .i64 l[i].num,.int .i64 l[i].time,.list 1 (l[i].pos.map eI),.list 3 (l[i].ws.map iL)]]:=by
 rw [List.take_succ_eq_append_getElem h,List.map_append];rfl
theorem afT {l:List Bm} {i:Nat} (h:i<l.length):(l.take (i+1)).map iZ=(l.take i).map iZ++[.agg [.int .i64 l[i].size,.list 1 (l[i].ws.map eW)]]:=by
 rw [List.take_succ_eq_append_getElem h,List.map_append];rfl
theorem abf (a b c:PV):part [a,b,c] 0 (some 3)=some (.agg [a,b,c]):=rfl
theorem XP {es:List PV} (hl:es.length≤lim):cal env 86 [.list 8 es]=some [(.list 8 es,true)]:=(yM afa).trans (if_pos ⟨rfl,hl⟩)
theorem ads {es:List PV} (hl:es.length≤lim):cal env 80 [.list 1 es]=some [(.list 1 es,true)]:=(yM ae8).trans (if_pos ⟨rfl,hl⟩)
theorem adt {c:nY} (ho:Ny c) {st:St} (h:st.head [1,2,3,7,8,9,20] st.boxes.length=some ⟨sl 29 [(1,.aS 0 0),(2,.aS 1 0),(3,.row 3 ((c.ws.take ((0:Nat))).map iL)),(7,.pv (.list 3 (c.ws.map iL))),(8,.pv (.int .i64 c.ws.length)),(9,.pv (.int .i64 (0:Nat))),(20,.any)],[⟨false,XO c⟩,⟨false,zCy⟩],[],none⟩) :
  den env Fz st=some (.normal,⟨sl 29 [(1,.aS 0 0),(2,.aS 1 0),(3,.row 3 (c.ws.map iL))],[⟨false,XO c⟩,⟨false,zCy⟩],[],none⟩):=by
 unfold Fz
 refine bF (env:=env) (c.ws.length) (fun i=>⟨sl 29 [(1,.aS 0 0),(2,.aS 1 0),(3,.row 3 ((c.ws.take (i)).map iL)),(7,.pv (.list 3 (c.ws.map iL))),(8,.pv (.int .i64 c.ws.length)),(9,.pv (.int .i64 i)),(20,.any)],[⟨false,XO c⟩,⟨false,zCy⟩],[],none⟩) (fun i=>some (.normal,⟨sl 29 [(1,.aS 0 0),(2,.aS 1 0),(3,.row 3 (c.ws.map iL))],[⟨false,XO c⟩,⟨false,zCy⟩],[],none⟩)) h (fun _=>rfl) (fun _=>by simp only [aO,bG,Nat.reduceMul,Nat.reduceBEq,Nat.reduceLT,Nat.reduceLeDiff,Nat.reduceAdd,decide_true,Bool.and_self,Bool.true_and]) ?_ ?_
 ·intro i rb hi ih
  have h1:=ho.2.1
  have hi1:=bH hi (by unfold lim;omega)
  have F1:((i:Int)<(c.ws.length:Int))=True:=eq_true (by omega)
  have q:=ho.2.2 _ (List.getElem_mem hi)
  have e1:=XP (es:=c.ws[i].data.map lW) (by rw [List.length_map];unfold lim;omega)
  have hx:=wO hi
  have F5:((c.ws.take i).length+1≤lim)=True:=eq_true (by rw [List.length_take];unfold lim;omega)
  rw [afR hi] at ih
  simp only [Fv,F1,F5,e1,hx,abf,vP,jF,ak hi,List.length_map,aI,Nat.reduceMul,Nat.reduceBEq,Nat.reduceLT,Nat.reduceLeDiff,reduceCtorEq,Nat.reduceEqDiff,Nat.reduceAdd,Nat.beq] at *
  rw [ih _ (by simp only [hi1,vP,jF,aI,Nat.reduceMul,Nat.reduceBEq,Nat.reduceLT,Nat.reduceLeDiff,reduceCtorEq,Nat.reduceEqDiff,Nat.reduceAdd,Nat.beq]<;>rfl)]
 ·intro rb
  rw [List.take_length]
  simp only [Fv,Int.lt_irrefl,vP,jF,List.length_map,aI,Nat.reduceMul,Nat.reduceBEq,Nat.reduceLT,Nat.reduceLeDiff,reduceCtorEq,Nat.reduceEqDiff,Nat.reduceAdd,Nat.beq]
theorem abg {c:nY} (ho:Ny c):cal env 48 [jc c]=some [(jc c,false)]:=by
 have e1:=XI (es:=c.pos.map eI) (by have:=ho.1;rw [List.length_map];unfold lim;omega)
 rw [Gv]
 rw [ah aeU rfl];simp only [VH,aO,Nat.reduceBEq,Nat.reduceLeDiff,Nat.reduceAdd,List.length_cons,List.length_nil]
 simp only [e1,fC,aI,Nat.reduceMul,Nat.reduceBEq,Nat.reduceLT,Nat.reduceLeDiff,reduceCtorEq,Nat.reduceEqDiff,Nat.reduceAdd,Nat.beq]
 rw [adt ho (by simp only [vP,jF];simp only [aO,bG,Nat.reduceMul,Nat.reduceBEq,Nat.reduceLT,Nat.reduceLeDiff,Nat.reduceAdd,decide_true,Bool.and_self,Bool.true_and]<;>rfl)]
 simp only [e1,fC,vP,jF,aI,Nat.reduceMul,Nat.reduceBEq,Nat.reduceLT,Nat.reduceLeDiff,reduceCtorEq,Nat.reduceEqDiff,Nat.reduceAdd,Nat.beq]
def SC:List BV:=[.pv (.int .i64 0),.row 1 [],.row 5 [],.pv (.bool false),.pv (.int .i64 0),.pv (.int .i64 0),.row 2 []]
theorem iq:SC=[.pv (.int .i64 0),.row 1 [],.row 5 [],.pv (.bool false),.pv (.int .i64 0),.pv (.int .i64 0),.row 2 []]:=rfl
theorem adu {s:mJ} (hq:Nz s) {st:St} (h:st.head [1,2,3,10,11,12,20,37] st.boxes.length=some ⟨sl 48 [(1,.aS 0 0),(2,.aS 1 0),(3,.row 5 ((s.cy.take ((0:Nat))).map jc)),(10,.pv (.list 5 (s.cy.map jc))),(11,.pv (.int .i64 s.cy.length)),(12,.pv (.int .i64 (0:Nat))),(20,.any),(37,.any)],[⟨false,iP s⟩,⟨false,SC⟩],[],none⟩) :
  den env Fj st=some (.normal,⟨sl 48 [(1,.aS 0 0),(2,.aS 1 0),(3,.row 5 (s.cy.map jc)),(20,.any),(37,.any)],[⟨false,iP s⟩,⟨false,SC⟩],[],none⟩):=by
 unfold Fj
 refine bF (env:=env) (s.cy.length) (fun i=>⟨sl 48 [(1,.aS 0 0),(2,.aS 1 0),(3,.row 5 ((s.cy.take (i)).map jc)),(10,.pv (.list 5 (s.cy.map jc))),(11,.pv (.int .i64 s.cy.length)),(12,.pv (.int .i64 i)),(20,.any),(37,.any)],[⟨false,iP s⟩,⟨false,SC⟩],[],none⟩) (fun i=>some (.normal,⟨sl 48 [(1,.aS 0 0),(2,.aS 1 0),(3,.row 5 (s.cy.map jc)),(20,.any),(37,.any)],[⟨false,iP s⟩,⟨false,SC⟩],[],none⟩)) h (fun _=>rfl) (fun _=>by simp only [aO,bG,Nat.reduceMul,Nat.reduceBEq,Nat.reduceLT,Nat.reduceLeDiff,Nat.reduceAdd,decide_true,Bool.and_self,Bool.true_and]) ?_ ?_
 ·intro i rb hi ih
  have h1:=hq.cy
  have hi1:=bH hi (by unfold lim;omega)
  have F1:((i:Int)<(s.cy.length:Int))=True:=eq_true (by omega)
  have e1:=abg (hq.c1 _ (List.getElem_mem hi))
  rw [Gv] at e1
  have hx:=vN hi
  have F5:((s.cy.take i).length+1≤lim)=True:=eq_true (by rw [List.length_take];unfold lim;omega)
  rw [afS hi] at ih
  simp only [Fh,F1,F5,e1,hx,fC,aW,iq,ak hi,List.length_map,aI,Nat.reduceMul,Nat.reduceBEq,Nat.reduceLT,Nat.reduceLeDiff,reduceCtorEq,Nat.reduceEqDiff,Nat.reduceAdd,Nat.beq] at *
  rw [ih _ (by simp only [hi1,aW,iq,aI,Nat.reduceMul,Nat.reduceBEq,Nat.reduceLT,Nat.reduceLeDiff,reduceCtorEq,Nat.reduceEqDiff,Nat.reduceAdd,Nat.beq]<;>rfl)]
 ·intro rb
  rw [List.take_length]
  simp only [Fh,Int.lt_irrefl,aW,iq,List.length_map,aI,Nat.reduceMul,Nat.reduceBEq,Nat.reduceLT,Nat.reduceLeDiff,reduceCtorEq,Nat.reduceEqDiff,Nat.reduceAdd,Nat.beq]
theorem XQ {s:mJ} (hq:Nz s) {L:List PV} {st:St} (h:st.head [1,2,3,6,20,23,24,25,37] st.boxes.length=some ⟨sl 48 [(1,.aS 0 0),(2,.aS 1 0),(3,.row 5 L),(6,.row 2 ((s.dt.take ((0:Nat))).map iZ)),(20,.any),(23,.pv (.list 2 (s.dt.map iZ))),(24,.pv (.int .i64 s.dt.length)),(25,.pv (.int .i64 (0:Nat))),(37,.any)],[⟨false,iP s⟩,⟨false,SC⟩],[],none⟩) :
  den env Fq st=some (.normal,⟨sl 48 [(1,.aS 0 0),(2,.aS 1 0),(3,.row 5 L),(6,.row 2 (s.dt.map iZ))],[⟨false,iP s⟩,⟨false,SC⟩],[],none⟩):=by
 unfold Fq
 refine bF (env:=env) (s.dt.length) (fun i=>⟨sl 48 [(1,.aS 0 0),(2,.aS 1 0),(3,.row 5 L),(6,.row 2 ((s.dt.take (i)).map iZ)),(20,.any),(23,.pv (.list 2 (s.dt.map iZ))),(24,.pv (.int .i64 s.dt.length)),(25,.pv (.int .i64 i)),(37,.any)],[⟨false,iP s⟩,⟨false,SC⟩],[],none⟩) (fun i=>some (.normal,⟨sl 48 [(1,.aS 0 0),(2,.aS 1 0),(3,.row 5 L),(6,.row 2 (s.dt.map iZ))],[⟨false,iP s⟩,⟨false,SC⟩],[],none⟩)) h (fun _=>rfl) (fun _=>by simp only [aO,bG,Nat.reduceMul,Nat.reduceBEq,Nat.reduceLT,Nat.reduceLeDiff,Nat.reduceAdd,decide_true,Bool.and_self,Bool.true_and]) ?_ ?_
 ·intro i rb hi ih
  have h1:=hq.dt
  have hi1:=bH hi (by unfold lim;omega)
  have F1:((i:Int)<(s.dt.length:Int))=True:=eq_true (by omega)
  have q:=hq.d1 _ (List.getElem_mem hi)
  have e1:=ads (es:=s.dt[i].ws.map eW) (by rw [List.length_map];unfold lim;omega)
  have hx:=nD hi
  have F5:((s.dt.take i).length+1≤lim)=True:=eq_true (by rw [List.length_take];unfold lim;omega)
  rw [afT hi] at ih
  simp only [Fp,F1,F5,e1,hx,nC,aW,iq,ak hi,List.length_map,aI,Nat.reduceMul,Nat.reduceBEq,Nat.reduceLT,Nat.reduceLeDiff,reduceCtorEq,Nat.reduceEqDiff,Nat.reduceAdd,Nat.beq] at *
  rw [ih _ (by simp only [hi1,aW,iq,aI,Nat.reduceMul,Nat.reduceBEq,Nat.reduceLT,Nat.reduceLeDiff,reduceCtorEq,Nat.reduceEqDiff,Nat.reduceAdd,Nat.beq]<;>rfl)]
 ·intro rb
  rw [List.take_length]
  simp only [Fp,Int.lt_irrefl,aW,iq,List.length_map,aI,Nat.reduceMul,Nat.reduceBEq,Nat.reduceLT,Nat.reduceLeDiff,reduceCtorEq,Nat.reduceEqDiff,Nat.reduceAdd,Nat.beq]
theorem afU {s:mJ} (hq:Nz s):cal env 45 [oH s]=some [(oH s,true)]:=by
 have e1:=XI (es:=s.sz.map eI) (by have:=hq.sz;rw [List.length_map];unfold lim;omega)
 rw [fB]
 rw [ah aeT rfl];simp only [VG,aO,Nat.reduceBEq,Nat.reduceLeDiff,Nat.reduceAdd,List.length_cons,List.length_nil]
 simp only [e1,fQ,aI,Nat.reduceMul,Nat.reduceBEq,Nat.reduceLT,Nat.reduceLeDiff,reduceCtorEq,Nat.reduceEqDiff,Nat.reduceAdd,Nat.beq]
 rw [adu hq (by simp only [aW,iq];simp only [aO,bG,Nat.reduceMul,Nat.reduceBEq,Nat.reduceLT,Nat.reduceLeDiff,Nat.reduceAdd,decide_true,Bool.and_self,Bool.true_and]<;>rfl)]
 simp only [aW,iq,aI,Nat.reduceMul,Nat.reduceBEq,Nat.reduceLT,Nat.reduceLeDiff,reduceCtorEq,Nat.reduceEqDiff,Nat.reduceAdd,Nat.beq]
 rw [XQ hq (by simp only [aW,iq];simp only [aO,bG,Nat.reduceMul,Nat.reduceBEq,Nat.reduceLT,Nat.reduceLeDiff,Nat.reduceAdd,decide_true,Bool.and_self,Bool.true_and]<;>rfl)]
 simp only [e1,fQ,aW,iq,aI,Nat.reduceMul,Nat.reduceBEq,Nat.reduceLT,Nat.reduceLeDiff,reduceCtorEq,Nat.reduceEqDiff,Nat.reduceAdd,Nat.beq]
end Go.Proofs.YtpcncggjmabnaaaGreatDoor.V

namespace Go.Proofs.YtpcncggjmabnaaaGreatDoor.V
def afV (size:Int) (e:uw):Bool:=decide (0≤e.start)&&decide (0≤e.count)&&decide (e.start≤size)&&decide (e.count≤size - e.start)
end Go.Proofs.YtpcncggjmabnaaaGreatDoor.V

namespace Go.Proofs.YtpcncggjmabnaaaGreatDoor.V
end Go.Proofs.YtpcncggjmabnaaaGreatDoor.V

namespace Go.Proofs.YtpcncggjmabnaaaGreatDoor.V
end Go.Proofs.YtpcncggjmabnaaaGreatDoor.V

namespace Go.Proofs.YtpcncggjmabnaaaGreatDoor.V
def inE (e:uw) (s:Nat):Bool:=decide (0<e.count)&&(decide (e.start≤(s:Int))&&decide ((s:Int)<e.start+e.count))
end Go.Proofs.YtpcncggjmabnaaaGreatDoor.V

namespace Go.Proofs
open Go.Shelf
def Tryz.sortEnd_ren:Go.Shelf.Ren:=⟨fun|6=>136|15=>140|14=>139|28=>150|29=>151|20=>142|21=>143|22=>144|23=>145|24=>146|25=>147|26=>148|27=>149|46=>152|47=>153|48=>154|49=>155|50=>156|57=>157|n=>n,fun|22=>188|24=>192|25=>198|3=>3|39=>176|0=>0|53=>209|55=>134|4=>4|46=>203|45=>202|50=>119|5=>5|9=>9|66=>210|70=>214|76=>216|77=>217|n=>n,fun|n=>n⟩
theorem Tryz.sortEnd:Go.Proofs.SlLaysF0.n6 Tryz.prog Tryz.sortEnd_ren:={
 mixed:=by kernel_rfl
 f6:=⟨Tryz.f136.name,by decide,Tryz.func136.trans (congrArg some (by kernel_rfl))⟩
 f14:=⟨Tryz.f139.name,by decide,Tryz.func139.trans (congrArg some (by kernel_rfl))⟩
 f15:=Tryz.func140.trans (congrArg some (by kernel_rfl))
 f20:=⟨Tryz.f142.name,by decide,Tryz.func142.trans (congrArg some (by kernel_rfl))⟩
 f21:=⟨Tryz.f143.name,by decide,Tryz.func143.trans (congrArg some (by kernel_rfl))⟩
 f22:=⟨Tryz.f144.name,by decide,Tryz.func144.trans (congrArg some (by kernel_rfl))⟩
 f23:=⟨Tryz.f145.name,by decide,Tryz.func145.trans (congrArg some (by kernel_rfl))⟩
 f24:=⟨Tryz.f146.name,by decide,Tryz.func146.trans (congrArg some (by kernel_rfl))⟩
 f25:=⟨Tryz.f147.name,by decide,Tryz.func147.trans (congrArg some (by kernel_rfl))⟩
 f26:=⟨Tryz.f148.name,by decide,Tryz.func148.trans (congrArg some (by kernel_rfl))⟩
 f27:=⟨Tryz.f149.name,by decide,Tryz.func149.trans (congrArg some (by kernel_rfl))⟩
 f28:=Tryz.func150.trans (congrArg some (by kernel_rfl))
 f29:=Tryz.func151.trans (congrArg some (by kernel_rfl))
 f46:=⟨Tryz.f152.name,by decide,Tryz.func152.trans (congrArg some (by kernel_rfl))⟩
 f47:=Tryz.func153.trans (congrArg some (by kernel_rfl))
 f48:=Tryz.func154.trans (congrArg some (by kernel_rfl))
 f49:=⟨Tryz.f155.name,by decide,Tryz.func155.trans (congrArg some (by kernel_rfl))⟩
 f50:=⟨Tryz.f156.name,by decide,Tryz.func156.trans (congrArg some (by kernel_rfl))⟩
 f57:=⟨Tryz.f157.name,by decide,Tryz.func157.trans (congrArg some (by kernel_rfl))⟩
 t0:=Tryz.underlying0
 a0:=Tryz.isAgg0
 z0:=Tryz.sizeOf0
 v0:=Tryz.zeroValue0
 t3:=Tryz.underlying3
 a3:=Tryz.isAgg3
 z3:=Tryz.sizeOf3
 v3:=Tryz.zeroValue3
 t4:=Tryz.underlying4
 a4:=Tryz.isAgg4
 z4:=Tryz.sizeOf4
 v4:=Tryz.zeroValue4
 t5:=Tryz.underlying5
 a5:=Tryz.isAgg5
 z5:=Tryz.sizeOf5
 v5:=Tryz.zeroValue5
 t9:=Tryz.underlying9
 a9:=Tryz.isAgg9
 z9:=Tryz.sizeOf9
 v9:=Tryz.zeroValue9
 t22:=Tryz.underlying188
 a22:=Tryz.isAgg188
 z22:=Tryz.sizeOf188
 v22:=Tryz.zeroValue188
 t25:=Tryz.underlying198
 a25:=Tryz.isAgg198
 z25:=Tryz.sizeOf198
 v25:=Tryz.zeroValue198
 t39:=Tryz.underlying176
 a39:=Tryz.isAgg176
 z39:=Tryz.sizeOf176
 v39:=Tryz.zeroValue176
 t45:=Tryz.underlying202
 a45:=Tryz.isAgg202
 z45:=Tryz.sizeOf202
 v45:=Tryz.zeroValue202
 t46:=Tryz.underlying203
 a46:=Tryz.isAgg203
 z46:=Tryz.sizeOf203
 v46:=Tryz.zeroValue203
 t50:=Tryz.underlying119
 a50:=Tryz.isAgg119
 z50:=Tryz.sizeOf119
 v50:=Tryz.zeroValue119
 t53:=Tryz.underlying209
 a53:=Tryz.isAgg209
 z53:=Tryz.sizeOf209
 v53:=Tryz.zeroValue209
 t55:=Tryz.underlying134
 a55:=Tryz.isAgg134
 z55:=Tryz.sizeOf134
 v55:=Tryz.zeroValue134
 t66:=Tryz.underlying210
 a66:=Tryz.isAgg210
 z66:=Tryz.sizeOf210
 v66:=Tryz.zeroValue210
 t70:=Tryz.underlying214
 a70:=Tryz.isAgg214
 z70:=Tryz.sizeOf214
 v70:=Tryz.zeroValue214
 t76:=Tryz.underlying216
 a76:=Tryz.isAgg216
 z76:=Tryz.sizeOf216
 v76:=Tryz.zeroValue216
 t77:=Tryz.underlying217
 a77:=Tryz.isAgg217
 z77:=Tryz.sizeOf217
 v77:=Tryz.zeroValue217 }
def Tryz.cmpInt_ren:Go.Shelf.Ren:=⟨fun|5=>138|7=>141|n=>n,fun|22=>3|3=>3|4=>4|n=>n,fun|n=>n⟩
theorem Tryz.cmpInt:Go.Proofs.SlLaysC2.n5 Tryz.prog Tryz.cmpInt_ren:={
 mixed:=by kernel_rfl
 f5:=⟨Tryz.f138.name,by decide,Tryz.func138.trans (congrArg some (by kernel_rfl))⟩
 f7:=⟨Tryz.f141.name,by decide,Tryz.func141.trans (congrArg some (by kernel_rfl))⟩
 t3:=Tryz.underlying3
 a3:=Tryz.isAgg3
 z3:=Tryz.sizeOf3
 v3:=Tryz.zeroValue3
 t4:=Tryz.underlying4
 a4:=Tryz.isAgg4
 z4:=Tryz.sizeOf4
 v4:=Tryz.zeroValue4
 t22:=Tryz.underlying3
 a22:=Tryz.isAgg3
 z22:=Tryz.sizeOf3
 v22:=Tryz.zeroValue3 }
end Go.Proofs
