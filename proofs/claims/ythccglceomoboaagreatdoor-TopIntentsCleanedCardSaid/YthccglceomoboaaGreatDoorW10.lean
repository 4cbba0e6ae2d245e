/-
  Part 10 of the texts that the statement stands on.
-/
import Derived.Test.YthccglceomoboaaGreatDoorW9
import Derived.Test.YthccglceomoboaaGreatDoorRows
import Derived.Tactics
import Derived.Tactics2
import Derived.Defers
import Derived.Recover
import Derived.TacticsInMore
import Derived.RegionIn
import Derived.RecoverIn
import Derived.Laws.Pointers
import Derived.WalkSmall
set_option linter.all false
namespace Go.Proofs.YthccglceomoboaaGreatDoor.V
set_option maxRecDepth 20000 in
theorem afw:cal env 24 []=some [(.bool true,false)]:=by
 have sc:∀ (k1 k2:IntKind) (m n:Int) (z:Nat) (l:List PV),(PV.agg [.int k1 m,.int k2 n,.list z l]).scalar=false:=fun _ _ _ _ _ _=>rfl
 have e1:(((1:Nat):Int)==1)=true:=rfl
 have e2:(((1:Nat):Int) != 1)=false:=rfl
 have e3:(((4:Nat):Int)==4)=true:=rfl
 have e4:((4:Int)==4)=true:=rfl
 have e5:((3:Int)==3)=true:=rfl
 have i0:index (PV.int IntKind.i64 0) 1=some 0:=rfl
 rw [ak anr rfl];simp only [aby,aG,Nat.reduceBEq,Nat.reduceLeDiff,Nat.reduceAdd,List.length_cons,List.length_nil]
 simp only [sc,i0,e1,e2,e3,e4,e5,aw0,aw1,aw2,aw3,aw4,aw5,aw6,aw7,aw8,aC,Nat.reduceMul,Nat.reduceBEq,Nat.reduceLT,Nat.reduceLeDiff,reduceCtorEq,Nat.reduceEqDiff,Nat.reduceAdd,Nat.beq]
end Go.Proofs.YthccglceomoboaaGreatDoor.V
namespace Go.Proofs.YthccglceomoboaaGreatDoor
open Go.RowKit
end Go.Proofs.YthccglceomoboaaGreatDoor
