/-
  Part 6 of the texts that the statement stands on.
-/
import Derived.Test.YthccglceomoboaaGreatDoorZ5
import Derived.Test.YthccglceomoboaaGreatDoorProg
import Derived.Shelf.SlSortCmp.WholeK
import Derived.Shelf.SlSortCmp.NoneTotal
import Derived.Shelf.SlicesG.Cmp
import Derived.Shelf.Small.Bits
import Derived.Ground.SlsfProg
import Derived.Ground.SlgcProg
import Derived.Ground.NamesProg
set_option linter.all false
namespace Go.Proofs
open Go.Shelf
def Tryz.sortEnd_ren:Go.Shelf.Ren:=⟨fun|6=>274|15=>279|14=>280|28=>291|29=>292|20=>293|21=>294|22=>295|23=>296|24=>297|25=>298|26=>299|27=>300|46=>306|47=>302|48=>303|49=>307|50=>308|57=>310|n=>n,fun|22=>361|24=>365|25=>376|3=>3|39=>271|0=>0|53=>391|55=>193|4=>4|46=>384|45=>383|50=>388|5=>5|9=>9|66=>397|70=>401|76=>405|77=>152|n=>n,fun|n=>n⟩
theorem Tryz.sortEnd:Go.Proofs.SlLaysF0.n6 Tryz.prog Tryz.sortEnd_ren:={
 mixed:=by kernel_rfl
 f6:=⟨Tryz.f274.name,by decide,Tryz.func274.trans (congrArg some (by kernel_rfl))⟩
 f14:=⟨Tryz.f280.name,by decide,Tryz.func280.trans (congrArg some (by kernel_rfl))⟩
 f15:=Tryz.func279.trans (congrArg some (by kernel_rfl))
 f20:=⟨Tryz.f293.name,by decide,Tryz.func293.trans (congrArg some (by kernel_rfl))⟩
 f21:=⟨Tryz.f294.name,by decide,Tryz.func294.trans (congrArg some (by kernel_rfl))⟩
 f22:=⟨Tryz.f295.name,by decide,Tryz.func295.trans (congrArg some (by kernel_rfl))⟩
 f23:=⟨Tryz.f296.name,by decide,Tryz.func296.trans (congrArg some (by kernel_rfl))⟩
 f24:=⟨Tryz.f297.name,by decide,Tryz.func297.trans (congrArg some (by kernel_rfl))⟩
 f25:=⟨Tryz.f298.name,by decide,Tryz.func298.trans (congrArg some (by kernel_rfl))⟩
 f26:=⟨Tryz.f299.name,by decide,Tryz.func299.trans (congrArg some (by kernel_rfl))⟩
 f27:=⟨Tryz.f300.name,by decide,Tryz.func300.trans (congrArg some (by kernel_rfl))⟩
 f28:=Tryz.func291.trans (congrArg some (by kernel_rfl))
 f29:=Tryz.func292.trans (congrArg some (by kernel_rfl))
 f46:=⟨Tryz.f306.name,by decide,Tryz.func306.trans (congrArg some (by kernel_rfl))⟩
 f47:=Tryz.func302.trans (congrArg some (by kernel_rfl))
 f48:=Tryz.func303.trans (congrArg some (by kernel_rfl))
 f49:=⟨Tryz.f307.name,by decide,Tryz.func307.trans (congrArg some (by kernel_rfl))⟩
 f50:=⟨Tryz.f308.name,by decide,Tryz.func308.trans (congrArg some (by kernel_rfl))⟩
 f57:=⟨Tryz.f310.name,by decide,Tryz.func310.trans (congrArg some (by kernel_rfl))⟩
 t0:=Tryz.underlying0
 a0:=Tryz.isAgg0
 z0:=Tryz.sizeOf0
 v0:=Tryz.zeroValue0
 t3:=Tryz.underlying3
 a3:=Tryz.isAgg3
 z3:=Tryz.sizeOf3
 v3:=Tryz.zeroValue3
 t4:=Tryz.underlying4
 a4:=Tryz.isAgg4
 z4:=Tryz.sizeOf4
 v4:=Tryz.zeroValue4
 t5:=Tryz.underlying5
 a5:=Tryz.isAgg5
 z5:=Tryz.sizeOf5
 v5:=Tryz.zeroValue5
 t9:=Tryz.underlying9
 a9:=Tryz.isAgg9
 z9:=Tryz.sizeOf9
 v9:=Tryz.zeroValue9
 t22:=Tryz.underlying361
 a22:=Tryz.isAgg361
 z22:=Tryz.sizeOf361
 v22:=Tryz.zeroValue361
 t25:=Tryz.underlying376
 a25:=Tryz.isAgg376
 z25:=Tryz.sizeOf376
 v25:=Tryz.zeroValue376
 t39:=Tryz.underlying271
 a39:=Tryz.isAgg271
 z39:=Tryz.sizeOf271
 v39:=Tryz.zeroValue271
 t45:=Tryz.underlying383
 a45:=Tryz.isAgg383
 z45:=Tryz.sizeOf383
 v45:=Tryz.zeroValue383
 t46:=Tryz.underlying384
 a46:=Tryz.isAgg384
 z46:=Tryz.sizeOf384
 v46:=Tryz.zeroValue384
 t50:=Tryz.underlying388
 a50:=Tryz.isAgg388
 z50:=Tryz.sizeOf388
 v50:=Tryz.zeroValue388
 t53:=Tryz.underlying391
 a53:=Tryz.isAgg391
 z53:=Tryz.sizeOf391
 v53:=Tryz.zeroValue391
 t55:=Tryz.underlying193
 a55:=Tryz.isAgg193
 z55:=Tryz.sizeOf193
 v55:=Tryz.zeroValue193
 t66:=Tryz.underlying397
 a66:=Tryz.isAgg397
 z66:=Tryz.sizeOf397
 v66:=Tryz.zeroValue397
 t70:=Tryz.underlying401
 a70:=Tryz.isAgg401
 z70:=Tryz.sizeOf401
 v70:=Tryz.zeroValue401
 t76:=Tryz.underlying405
 a76:=Tryz.isAgg405
 z76:=Tryz.sizeOf405
 v76:=Tryz.zeroValue405
 t77:=Tryz.underlying152
 a77:=Tryz.isAgg152
 z77:=Tryz.sizeOf152
 v77:=Tryz.zeroValue152 }
def Tryz.cmpInt_ren:Go.Shelf.Ren:=⟨fun|5=>276|7=>281|n=>n,fun|22=>3|3=>3|4=>4|n=>n,fun|n=>n⟩
theorem Tryz.cmpInt:Go.Proofs.SlLaysC2.n5 Tryz.prog Tryz.cmpInt_ren:={
 mixed:=by kernel_rfl
 f5:=⟨Tryz.f276.name,by decide,Tryz.func276.trans (congrArg some (by kernel_rfl))⟩
 f7:=⟨Tryz.f281.name,by decide,Tryz.func281.trans (congrArg some (by kernel_rfl))⟩
 t3:=Tryz.underlying3
 a3:=Tryz.isAgg3
 z3:=Tryz.sizeOf3
 v3:=Tryz.zeroValue3
 t4:=Tryz.underlying4
 a4:=Tryz.isAgg4
 z4:=Tryz.sizeOf4
 v4:=Tryz.zeroValue4
 t22:=Tryz.underlying3
 a22:=Tryz.isAgg3
 z22:=Tryz.sizeOf3
 v22:=Tryz.zeroValue3 }
end Go.Proofs
