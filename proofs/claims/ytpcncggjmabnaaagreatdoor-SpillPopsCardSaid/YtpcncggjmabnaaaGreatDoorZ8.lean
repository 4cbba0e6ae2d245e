/-
  Part 8 of the texts that the statement stands on.
-/
import Derived.Test.YtpcncggjmabnaaaGreatDoorZ7
set_option linter.all false
namespace Go.Proofs.YtpcncggjmabnaaaGreatDoor.V
structure SwSt where
 d0:Int
 d1:Int
 st:Int
 ins:Bool
 out:List Exn
end Go.Proofs.YtpcncggjmabnaaaGreatDoor.V

namespace Go.Proofs.YtpcncggjmabnaaaGreatDoor.V
def inS (l:List Exn) (s:Nat):Bool:=l.any fun e=>inE e s
def setOf (keep:Bool→Bool→Bool) (a b:List Exn):List Exn:=ext (fun s=>keep (inS a s) (inS b s)) 4096
end Go.Proofs.YtpcncggjmabnaaaGreatDoor.V

namespace Go.Proofs.YtpcncggjmabnaaaGreatDoor.V
def orB (p q:Bool):Bool:=p || q
end Go.Proofs.YtpcncggjmabnaaaGreatDoor.V

namespace Go.Proofs.YtpcncggjmabnaaaGreatDoor.V
end Go.Proofs.YtpcncggjmabnaaaGreatDoor.V

namespace Go.Proofs.YtpcncggjmabnaaaGreatDoor.V
end Go.Proofs.YtpcncggjmabnaaaGreatDoor.V

namespace Go.Proofs.YtpcncggjmabnaaaGreatDoor.V
def mk (f:Nat→Bool):List Bool:=(List.range 4096).map f
end Go.Proofs.YtpcncggjmabnaaaGreatDoor.V

namespace Go.Proofs.YtpcncggjmabnaaaGreatDoor.V
end Go.Proofs.YtpcncggjmabnaaaGreatDoor.V

namespace Go.Proofs.YtpcncggjmabnaaaGreatDoor.V
end Go.Proofs.YtpcncggjmabnaaaGreatDoor.V

namespace Go.Proofs.YtpcncggjmabnaaaGreatDoor.V
end Go.Proofs.YtpcncggjmabnaaaGreatDoor.V

namespace Go.Proofs.YtpcncggjmabnaaaGreatDoor.V
end Go.Proofs.YtpcncggjmabnaaaGreatDoor.V

namespace Go.Proofs.YtpcncggjmabnaaaGreatDoor.V
end Go.Proofs.YtpcncggjmabnaaaGreatDoor.V

namespace Go.Proofs.YtpcncggjmabnaaaGreatDoor.V
end Go.Proofs.YtpcncggjmabnaaaGreatDoor.V

namespace Go.Proofs.YtpcncggjmabnaaaGreatDoor.V
end Go.Proofs.YtpcncggjmabnaaaGreatDoor.V

namespace Go.Proofs.YtpcncggjmabnaaaGreatDoor.V
def exW (v:Int) (l:List Wrt):List Exn:=(l.filter fun w=>decide (w.volume=v)).map fun w=>⟨w.start,(w.data.length:Int)⟩
def unX (v:Int) (l:List Wrt):List Exn:=setOf orB (exW v l) []
attribute [irreducible] unX
end Go.Proofs.YtpcncggjmabnaaaGreatDoor.V

namespace Go.Proofs.YtpcncggjmabnaaaGreatDoor.V
end Go.Proofs.YtpcncggjmabnaaaGreatDoor.V

namespace Go.Proofs.YtpcncggjmabnaaaGreatDoor.V
def fitW (z:List Int) (ws:List Wrt):Prop:=∀ v,v<z.length→∀ e∈exW (v:Int) ws,bmFit (z.getD v 0) e=true
end Go.Proofs.YtpcncggjmabnaaaGreatDoor.V
