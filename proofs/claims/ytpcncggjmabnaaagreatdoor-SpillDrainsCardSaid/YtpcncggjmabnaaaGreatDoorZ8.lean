/-
  Part 8 of the texts that the statement stands on.
-/
import Derived.Test.YtpcncggjmabnaaaGreatDoorZ7
set_option linter.all false
namespace Go.Proofs.YtpcncggjmabnaaaGreatDoor.V
structure ajX where
 d0:Int
 d1:Int
 st:Int
 ins:Bool
 out:List uw
end Go.Proofs.YtpcncggjmabnaaaGreatDoor.V

namespace Go.Proofs.YtpcncggjmabnaaaGreatDoor.V
def inS (l:List uw) (s:Nat):Bool:=l.any fun e=>inE e s
def setOf (keep:Bool→Bool→Bool) (a b:List uw):List uw:=ext (fun s=>keep (inS a s) (inS b s)) 4096
end Go.Proofs.YtpcncggjmabnaaaGreatDoor.V

namespace Go.Proofs.YtpcncggjmabnaaaGreatDoor.V
def orB (p q:Bool):Bool:=p || q
theorem SE (l:List uw) (i:Nat):(xZ l i).length≤l.length+1:=by
 rcases ng l with rfl|⟨p,x,rfl⟩
 ·simp [xZ]
 ·rw [jS];split<;>simp
theorem Gx (p:Nat→Bool):∀ n,(ext p n).length≤n
 |0=>Nat.le_refl _
 |n+1=>by
  rw [JE]
  have:=Gx p n
  have:=SE (ext p n) n
  split<;>omega
theorem adw (p:Nat→Bool) (n:Nat):(∀ x∈ext p n,0≤x.start∧1≤x.count∧x.start+x.count≤(n:Int)):=by
 induction n with
 |zero=>intro x hx;cases hx
 |succ n ih =>
  rw [JE]
  split
  ·rcases ng (ext p n) with e|⟨pre,y,e⟩
   ·rw [e]
    intro x hx
    have:xZ [] n=[⟨(n:Int),1⟩]:=rfl
    rw [this] at hx
    simp only [List.mem_singleton] at hx
    subst hx
    simp only;omega
   ·rw [e] at ih ⊢
    intro x hx
    rw [jS] at hx
    split at hx
    ·rcases List.mem_append.1 hx with h|h
     ·have:=ih x (by simp [h]);omega
     ·simp only [List.mem_singleton] at h
      have:=ih y (by simp)
      subst h;simp only;omega
    ·rcases List.mem_append.1 hx with h|h
     ·have:=ih x h;omega
     ·simp only [List.mem_singleton] at h
      subst h;simp only;omega
  ·intro x hx;have:=ih x hx;omega
end Go.Proofs.YtpcncggjmabnaaaGreatDoor.V

namespace Go.Proofs.YtpcncggjmabnaaaGreatDoor.V
end Go.Proofs.YtpcncggjmabnaaaGreatDoor.V

namespace Go.Proofs.YtpcncggjmabnaaaGreatDoor.V
end Go.Proofs.YtpcncggjmabnaaaGreatDoor.V

namespace Go.Proofs.YtpcncggjmabnaaaGreatDoor.V
def mk (f:Nat→Bool):List Bool:=(List.range 4096).map f
end Go.Proofs.YtpcncggjmabnaaaGreatDoor.V

namespace Go.Proofs.YtpcncggjmabnaaaGreatDoor.V
end Go.Proofs.YtpcncggjmabnaaaGreatDoor.V

namespace Go.Proofs.YtpcncggjmabnaaaGreatDoor.V
end Go.Proofs.YtpcncggjmabnaaaGreatDoor.V

namespace Go.Proofs.YtpcncggjmabnaaaGreatDoor.V
end Go.Proofs.YtpcncggjmabnaaaGreatDoor.V

namespace Go.Proofs.YtpcncggjmabnaaaGreatDoor.V
end Go.Proofs.YtpcncggjmabnaaaGreatDoor.V

namespace Go.Proofs.YtpcncggjmabnaaaGreatDoor.V
end Go.Proofs.YtpcncggjmabnaaaGreatDoor.V

namespace Go.Proofs.YtpcncggjmabnaaaGreatDoor.V
end Go.Proofs.YtpcncggjmabnaaaGreatDoor.V

namespace Go.Proofs.YtpcncggjmabnaaaGreatDoor.V
end Go.Proofs.YtpcncggjmabnaaaGreatDoor.V

namespace Go.Proofs.YtpcncggjmabnaaaGreatDoor.V
def exW (v:Int) (l:List jW):List uw:=(l.filter fun w=>decide (w.volume=v)).map fun w=>⟨w.start,(w.data.length:Int)⟩
def unX (v:Int) (l:List jW):List uw:=setOf orB (exW v l) []
attribute [irreducible] unX
end Go.Proofs.YtpcncggjmabnaaaGreatDoor.V

namespace Go.Proofs.YtpcncggjmabnaaaGreatDoor.V
theorem DN {l:List uw} {i:Nat} (h:i<l.length):(l.map nG)[i]?=some (.agg [.int .i64 l[i].start,.int .i64 l[i].count]):=by rw [List.getElem?_map,List.getElem?_eq_getElem h];rfl
end Go.Proofs.YtpcncggjmabnaaaGreatDoor.V

namespace Go.Proofs.YtpcncggjmabnaaaGreatDoor.V
def bmZ (z:List Int) (l:List Bm):Prop:=l.length=z.length∧∀ v (h:v<l.length),okB l[v]=true∧l[v].size=z.getD v 0
def adx (z:List Int) (ws:List jW):Prop:=∀ v,v<z.length→∀ e∈exW (v:Int) ws,afV (z.getD v 0) e=true
end Go.Proofs.YtpcncggjmabnaaaGreatDoor.V
