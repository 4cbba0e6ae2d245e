/-
  Part 4 of the texts that the statement stands on.
-/
import Derived.Test.YtpcncggjmabnaaaGreatDoorZ3
import Derived.Shelf.Lays7
import Derived.Ground.Names7Prog
import Derived.Test.YtpcncggjmabnaaaGreatDoorProg
import Derived.Shelf.Spec.TrailingZeros
import Derived.Lib.TrailingZeros
set_option linter.all false
namespace Go.Proofs
open Go.Shelf
def Tryz.tz_ren:Go.Shelf.Ren:=⟨fun|29=>126|n=>n,fun|22=>134|3=>3|4=>4|25=>176|54=>185|0=>0|5=>5|n=>n,fun|1=>0|n=>n⟩
theorem Tryz.tz:Go.Proofs.Lays7.n29 Tryz.prog Tryz.tz_ren:={
 mixed:=by kernel_rfl
 f29:=Tryz.func126.trans (congrArg some (by kernel_rfl))
 t0:=Tryz.underlying0
 a0:=Tryz.isAgg0
 z0:=Tryz.sizeOf0
 v0:=Tryz.zeroValue0
 i0:=by kernel_rfl
 t3:=Tryz.underlying3
 a3:=Tryz.isAgg3
 z3:=Tryz.sizeOf3
 v3:=Tryz.zeroValue3
 i3:=by kernel_rfl
 t4:=Tryz.underlying4
 a4:=Tryz.isAgg4
 z4:=Tryz.sizeOf4
 v4:=Tryz.zeroValue4
 i4:=by kernel_rfl
 t5:=Tryz.underlying5
 a5:=Tryz.isAgg5
 z5:=Tryz.sizeOf5
 v5:=Tryz.zeroValue5
 i5:=by kernel_rfl
 t22:=Tryz.underlying134
 a22:=Tryz.isAgg134
 z22:=Tryz.sizeOf134
 v22:=Tryz.zeroValue134
 i22:=by kernel_rfl
 t25:=Tryz.underlying176
 a25:=Tryz.isAgg176
 z25:=Tryz.sizeOf176
 v25:=Tryz.zeroValue176
 i25:=by kernel_rfl
 t54:=Tryz.underlying185
 a54:=Tryz.isAgg185
 z54:=Tryz.sizeOf185
 g1:=by kernel_rfl }
end Go.Proofs

namespace Go.Proofs.YtpcncggjmabnaaaGreatDoor
open Go.RowKit Go.Shelf
def tzX:List PV→Option (List qK)
 |[.int .u64 n]=>if 0≤n∧n<18446744073709551616 then some [(.int .i64 (Lib.ctz 64 n.toNat:Nat),false)] else none
 |_=>none
theorem aiY {T:Tags} {w:World} (h:kR T w):TabAt 0 Lib.deBruijn64tab w:=fun j hj=>by
 have hp:=h _ (List.mem_singleton.2 rfl)
 obtain ⟨b,off,e1,_,_,h3⟩:=hp.sD
 obtain ⟨eb,eo⟩:0=b∧0=off+0:=by
  injection e1 with e1
  injection e1 with e1
  injection e1 with e2 e3
  exact ⟨e2,e3⟩
 have eo:off=0:=by omega
 subst eb;subst eo
 obtain ⟨u,c1,_,c2⟩:=h3 j (PV.int .u8 ((Lib.deBruijn64tab[j]:Nat):Int)) (by simp [List.getElem?_eq_getElem hj])
 rw [c2.eF] at c1
 rw [show Lib.deBruijn64tab.getD j 0=Lib.deBruijn64tab[j] by simp [List.getD_eq_getElem?_getD,List.getElem?_eq_getElem hj]]
 simpa using c1
theorem alK:∀ args rs,tzX args=some rs→callable Tryz.prog 126=true∧nR Tryz.prog 126 args rs:=fun args rs h=>by
 unfold tzX at h
 split at h
 case h_2=>cases h
 rename_i n
 split at h
 case isFalse=>cases h
 rename_i hn
 cases h
 refine ⟨by kernel_rfl,fun T0 w vs h1 h2 h3 h4 hG=>?_⟩
 match vs,h3 with
 |[v],_ =>
  have hv:=(h4 0 _ v rfl rfl).eF
  subst hv
  have hc:=Any7.bits_TrailingZeros64 Tryz.tz n.toNat (by omega) w (fun _=>aiY hG)
  rw [Int.toNat_of_nonneg hn.1] at hc
  refine Calls.mono hc ?_
  rintro e w' ⟨rfl,rfl⟩
  refine ⟨_,T0,rfl,Below.refl _ _,fun _ _=>rfl,h2,#[_],rfl,rfl,fun i r u hr hu=>?_⟩
  match i with
  |0=>cases hr;cases hu;exact .int _ _
  |i+1=>simp at hr
end Go.Proofs.YtpcncggjmabnaaaGreatDoor

namespace Go.Proofs.YtpcncggjmabnaaaGreatDoor
def inX (s c:Int) (t:Nat):Bool:=decide (0<c)&&(decide (s≤(t:Int))&&decide ((t:Int)<s+c))
def aga:PV→Option Bool
 |.bool b=>some b
 |_=>none
theorem agb {p:PV} {x:Bool} (h:aga p=some x):p=V.eB x:=by
 unfold aga at h
 split at h
 ·cases h;rfl
 ·cases h
def zD (s c:Int) (m:List Bool):List Bool:=m.mapIdx fun t u=>u || inX s c t
def Px:PV→List PV→Option (List PV)
 |.agg [.int .i64 s,.int .i64 c],es=>if (nV s&&nV c)=true∧es≠[]∧es.length≤4096 then (nU aga es).map fun m=>(zD s c m).map V.eB else none
 |_,_=>none
theorem abC {s c:Int} {m:List Bool} (h1:nV s=true) (h2:nV c=true) (h3:m≠[]) (h4:m.length≤4096):Px (.agg [.int .i64 s,.int .i64 c]) (m.map V.eB)=some ((zD s c m).map V.eB):=by
 unfold Px
 simp only
 rw [if_pos ⟨by rw [h1,h2];rfl,by simpa using h3,by simpa using h4⟩,lM (f:=aga) (enc:=V.eB) fun x _=>rfl]
 rfl
theorem agc {p:PV} {es es':List PV} (h:Px p es=some es'):∃ (s c:Int) (m:List Bool),p=.agg [.int .i64 s,.int .i64 c]∧es=m.map V.eB∧nV s=true∧nV c=true∧m≠[]∧m.length≤4096∧es'=(zD s c m).map V.eB:=by
 unfold Px at h
 split at h
 ·rename_i s c
  split at h
  ·rename_i hc
   obtain ⟨m,h1,h2⟩:=Option.map_eq_some_iff.1 h
   have:=nX (fun p x h=>agb h) h1
   subst this
   simp only [Bool.and_eq_true] at hc
   exact ⟨s,c,m,rfl,rfl,hc.1.1,hc.1.2,fun e=>hc.2.1 (by rw [e];rfl),by simpa using hc.2.2,h2.symm⟩
  ·cases h
 ·cases h
end Go.Proofs.YtpcncggjmabnaaaGreatDoor

namespace Go.Proofs.YtpcncggjmabnaaaGreatDoor
def fn7:gy:=⟨3,69,[.tmp 6],(.seq (.ops [.aF 6 (.c (.bool false))]) (.seq (.seq (.ops [.aj 11 (.t 2),.call 12 28 [(.t 11)],.un 13 .not (.t 12)]) (.cond (.t 13) (.seq (.ops [.call 14 10 [],.aF 6 (.t 14)]) .ret) .skip)) (.seq (.ops [.aj 16 (.t 0),.conv 17 .i64 (.t 16),.bin 18 .rem (.t 17) (.c (.int .i64 20)),.bin 19 .add (.c (.int .i64 1)) (.t 18),.iF 20 1 [(.t 19),(.c (.int .i64 3))],.aj 21 (.t 1),.conv 22 .i64 (.t 21),.bin 23 .rem (.t 22) (.c (.int .i64 5)),.bin 24 .add (.c (.int .i64 1)) (.t 23),.aj 25 (.t 2),.call 26 29 [(.t 20),(.t 24),(.t 25)],.aj 15 (.t 26),.ext 27 (.t 15) 0,.ext 28 (.t 15) 1,.alloc 7 [(.list 1 []),(.list 1 []),(.int .i64 0),(.list 1 []),(.list 5 []),(.bool false),(.int .i64 0),(.int .i64 0),(.list 2 []),(.int .i64 0),(.int .i64 0),(.bool false)],.store none 12 (.t 7) (.t 27),.aF 8 (.t 28)]) (.seq (.ops [.aC 30 (.t 7) 2,.load 31 (some 7) (.t 30),.call 32 18 [(.t 31)],.aj 29 (.t 32),.ext 33 (.t 29) 0,.ext 34 (.t 29) 1,.alloc 9 [(.int .i64 0),(.int .i64 0),(.int .i64 0),(.list 1 []),(.list 3 [])],.store none 5 (.t 9) (.t 33),.aF 10 (.t 34)]) (.seq (.ops [.call 35 10 [],.aj 36 (.t 35),.grd 36 true (.aj 37 (.t 8)),.pick 38 (.t 36) (.t 37) (.c (.bool false)),.aj 39 (.t 38),.grd 39 true (.aC 40 (.t 7) 11),.grd 39 true (.load 41 none (.t 40)),.pick 42 (.t 39) (.t 41) (.c (.bool false)),.aj 43 (.t 42),.grd 43 true (.aj 44 (.t 10)),.grd 43 true (.un 45 .not (.t 44)),.pick 46 (.t 43) (.t 45) (.c (.bool false)),.aj 47 (.t 46),.grd 47 true (.aC 48 (.t 7) 0),.grd 47 true (.load 49 none (.t 48)),.grd 47 true (.aC 50 (.t 7) 1),.grd 47 true (.load 51 none (.t 50)),.grd 47 true (.call 52 30 [(.t 49),(.t 51)]),.pick 53 (.t 47) (.t 52) (.c (.bool false)),.aj 54 (.t 53),.grd 54 true (.aC 55 (.t 7) 2),.grd 54 true (.aC 56 (.t 55) 4),.grd 54 true (.load 57 none (.t 56)),.grd 54 true (.aC 58 (.t 7) 2),.grd 54 true (.aC 59 (.t 58) 5),.grd 54 true (.load 60 none (.t 59)),.grd 54 true (.bin 61 .eql (.t 57) (.t 60)),.pick 62 (.t 54) (.t 61) (.c (.bool false)),.aj 63 (.t 62),.grd 63 true (.aC 64 (.t 7) 2),.grd 63 true (.aC 65 (.t 64) 3),.grd 63 true (.load 66 none (.t 65)),.grd 63 true (.un 67 .not (.t 66)),.pick 68 (.t 63) (.t 67) (.c (.bool false)),.aF 6 (.t 68)]) .ret)))))⟩
def Dw:ay:=(.seq (.seq (.ops [.aj 22 (.t 3),.bin 23 .lss (.t 22) (.c (.int .i64 2))]) (.cond (.t 23) .skip (.exit 0))) (.seq (.block 1 (.seq (.drs [] [1,2,3,4,5] [.load 27 (some 7) (.t 1),.aj 28 (.t 3),.aj 29 (.t 3),.bin 30 .add (.t 29) (.c (.int .i64 1)),.aj 31 (.t 3),.aj 32 (.t 3),.bin 33 .add (.t 32) (.c (.int .i64 1)),.conv 34 .u8 (.t 33),.call 35 36 [(.t 28),(.t 30),(.t 31),(.t 34)],.call 36 16 [(.t 27),(.t 35)],.aj 26 (.t 36),.ext 37 (.t 26) 0,.ext 38 (.t 26) 1,.alloc 4 [(.int .i64 0),(.list 1 []),(.list 5 []),(.bool false),(.int .i64 0),(.int .i64 0),(.list 2 [])],.store none 7 (.t 4) (.t 37),.aF 5 (.t 38)]
   [⟨[([0,1,2,3,4,5,6,7],8),([],9),([10,11,12],13)],(some ([],[],14,[])),[15],[0,1,2,3,4,5,6,7,8,9,10,11,12,13,14,15],false⟩,⟨[([0,1,2,3,4,5,6,7],8),([],13),([],9)],(some ([10,11],[12],14,[])),[15],[0,1,2,3,4,5,6,7,8,13,9,10,11,12,14,15],false⟩,⟨[([0,1,2,3,4,5,6,7],13),([],8),([],9)],(some ([10,11],[12],14,[])),[15],[0,1,2,3,4,5,6,7,13,8,9,10,11,12,14,15],false⟩]) (.ops [.load 39 (some 7) (.t 4),.aj 40 (.t 2),.aj 41 (.t 5),.bin 42 .add (.t 40) (.t 41),.store none 7 (.t 1) (.t 39),.aF 2 (.t 42)]))) (.ops [.aj 24 (.t 3),.bin 25 .add (.t 24) (.c (.int .i64 1)),.aF 3 (.t 25)])))
def Kt:ay :=
(.clean [1,2,3] [0,1,2] (.block 0 (.loop [1,2,3] Dw)))
def abD:gy:=⟨0,146,[.tmp 0],(.seq (.ops [.aF 0 (.c (.bool false))]) (.seq (.ops [.iF 18 1 [(.c (.int .i64 4))],.call 19 11 [(.t 18),(.c (.int .i64 2))],.aj 17 (.t 19),.ext 20 (.t 17) 0,.ext 21 (.t 17) 1,.alloc 1 [(.int .i64 0),(.list 1 []),(.list 5 []),(.bool false),(.int .i64 0),(.int .i64 0),(.list 2 [])],.store none 7 (.t 1) (.t 20),.aF 2 (.t 21)]) (.seq (.seq (.ops [.aF 3 (.c (.int .i64 0))])
   Kt) (.seq (.drs [] [1,2,6,7] [.load 44 (some 7) (.t 1),.call 45 36 [(.c (.int .i64 2)),(.c (.int .i64 3)),(.c (.int .i64 3)),(.c (.int .u8 9))],.call 46 16 [(.t 44),(.t 45)],.aj 43 (.t 46),.ext 47 (.t 43) 0,.ext 48 (.t 43) 1,.alloc 6 [(.int .i64 0),(.list 1 []),(.list 5 []),(.bool false),(.int .i64 0),(.int .i64 0),(.list 2 [])],.store none 7 (.t 6) (.t 47),.aF 7 (.t 48)]
   [⟨[([0],1),([],2),([3,4,5],6)],(some ([],[],7,[])),[8],[0,1,2,3,4,5,6,7,8],false⟩,⟨[([0],1),([],6),([],2)],(some ([3,4],[5],7,[])),[8],[0,1,6,2,3,4,5,7,8],false⟩,⟨[([0],6),([],1),([],2)],(some ([3,4],[5],7,[])),[8],[0,6,1,2,3,4,5,7,8],false⟩]) (.seq (.ops [.load 50 (some 7) (.t 6),.build 51 [(.int .u8 0),(.int .u8 0),(.int .u8 0),(.int .u8 0),(.int .u8 0),(.int .u8 0),(.int .u8 0),(.int .u8 0)] [(0,1,(.c (.int .u8 1)))],.build 52 [(.int .u8 0),(.int .u8 0),(.int .u8 0),(.int .u8 0),(.int .u8 0),(.int .u8 0),(.int .u8 0),(.int .u8 0)] [(0,1,(.c (.int .u8 2)))],.build 53 [(.int .u8 0),(.int .u8 0),(.int .u8 0),(.int .u8 0),(.int .u8 0),(.int .u8 0),(.int .u8 0),(.int .u8 0)] [],.build 54 [(.int .u8 0),(.int .u8 0),(.int .u8 0),(.int .u8 0),(.int .u8 0),(.int .u8 0),(.int .u8 0),(.int .u8 0)] [(0,1,(.c (.int .u8 9)))],.iF 55 8 [(.t 51),(.t 52),(.t 53),(.t 54)],.iF 56 1 [(.t 55)],.call 57 26 [(.t 50),(.t 56),(.c (.int .i64 5))],.aj 49 (.t 57),.ext 58 (.t 49) 0,.ext 59 (.t 49) 1,.ext 60 (.t 49) 2,.alloc 8 [(.int .i64 0),(.list 1 []),(.list 5 []),(.bool false),(.int .i64 0),(.int .i64 0),(.list 2 [])],.alloc 9 [(.int .i64 0),(.int .i64 0),(.int .i64 0),(.list 1 []),(.list 3 [])],.store none 7 (.t 8) (.t 58),.store none 5 (.t 9) (.t 59),.aF 10 (.t 60)]) (.seq (.ops [.load 62 (some 7) (.t 1),.call 63 23 [(.t 62),(.c (.int .i64 1))],.aj 61 (.t 63),.ext 64 (.t 61) 0,.ext 65 (.t 61) 1,.alloc 11 [(.int .i64 0),(.list 1 []),(.list 5 []),(.bool false),(.int .i64 0),(.int .i64 0),(.list 2 [])],.store none 7 (.t 11) (.t 64),.aF 12 (.t 65)]) (.seq (.xW [] [([0],1),([],2)] (some ([3,4],[5],6,[])) [7] [.load 67 (some 7) (.t 11),.call 68 36 [(.c (.int .i64 2)),(.c (.int .i64 3)),(.c (.int .i64 3)),(.c (.int .u8 9))],.call 69 16 [(.t 67),(.t 68)],.aj 66 (.t 69),.ext 70 (.t 66) 0,.ext 71 (.t 66) 1,.store none 7 (.t 11) (.t 70),.aF 13 (.t 71)]) (.seq (.ops [.load 73 (some 7) (.t 11),.call 74 18 [(.t 73)],.aj 72 (.t 74),.ext 75 (.t 72) 0,.ext 76 (.t 72) 1,.alloc 14 [(.int .i64 0),(.int .i64 0),(.int .i64 0),(.list 1 []),(.list 3 [])],.store none 5 (.t 14) (.t 75),.aF 15 (.t 76)]) (.seq (.ops [.build 77 [(.int .u8 0),(.int .u8 0),(.int .u8 0),(.int .u8 0),(.int .u8 0),(.int .u8 0),(.int .u8 0),(.int .u8 0)] [(0,1,(.c (.int .u8 1)))],.build 78 [(.int .u8 0),(.int .u8 0),(.int .u8 0),(.int .u8 0),(.int .u8 0),(.int .u8 0),(.int .u8 0),(.int .u8 0)] [(0,1,(.c (.int .u8 2)))],.iF 79 8 [(.t 77),(.t 78)],.build 80 [(.int .i64 0),(.int .i64 0),(.list 0 [])] [(2,1,(.t 79))],.build 81 [(.int .u8 0),(.int .u8 0),(.int .u8 0),(.int .u8 0),(.int .u8 0),(.int .u8 0),(.int .u8 0),(.int .u8 0)] [(0,1,(.c (.int .u8 9)))],.iF 82 8 [(.t 81)],.build 83 [(.int .i64 0),(.int .i64 0),(.list 0 [])] [(1,1,(.c (.int .i64 3))),(2,1,(.t 82))],.iF 84 3 [(.t 80),(.t 83)],.aF 16 (.t 84)]) (.seq (.ops [.aj 85 (.t 2),.bin 86 .eql (.t 85) (.c (.int .i64 0)),.aj 87 (.t 86),.grd 87 true (.aj 88 (.t 7)),.grd 87 true (.bin 89 .eql (.t 88) (.c (.int .i64 0))),.pick 90 (.t 87) (.t 89) (.c (.bool false)),.aj 91 (.t 90),.grd 91 true (.aj 92 (.t 10)),.grd 91 true (.bin 93 .eql (.t 92) (.c (.int .i64 0))),.pick 94 (.t 91) (.t 93) (.c (.bool false)),.aj 95 (.t 94),.grd 95 true (.aj 96 (.t 12)),.grd 95 true (.bin 97 .eql (.t 96) (.c (.int .i64 0))),.pick 98 (.t 95) (.t 97) (.c (.bool false)),.aj 99 (.t 98),.grd 99 true (.aj 100 (.t 13)),.grd 99 true (.bin 101 .eql (.t 100) (.c (.int .i64 0))),.pick 102 (.t 99) (.t 101) (.c (.bool false)),.aj 103 (.t 102),.grd 103 true (.aC 104 (.t 6) 3),.grd 103 true (.load 105 none (.t 104)),.pick 106 (.t 103) (.t 105) (.c (.bool false)),.aj 107 (.t 106),.grd 107 true (.aC 108 (.t 6) 4),.grd 107 true (.load 109 none (.t 108)),.grd 107 true (.bin 110 .eql (.t 109) (.c (.int .i64 0))),.pick 111 (.t 107) (.t 110) (.c (.bool false)),.aj 112 (.t 111),.grd 112 true (.aC 113 (.t 6) 5),.grd 112 true (.load 114 none (.t 113)),.grd 112 true (.bin 115 .eql (.t 114) (.c (.int .i64 3))),.pick 116 (.t 112) (.t 115) (.c (.bool false)),.aj 117 (.t 116),.grd 117 true (.aC 118 (.t 9) 0),.grd 117 true (.load 119 none (.t 118)),.grd 117 true (.bin 120 .eql (.t 119) (.c (.int .i64 0))),.pick 121 (.t 117) (.t 120) (.c (.bool false)),.aj 122 (.t 121),.grd 122 true (.aC 123 (.t 9) 1),.grd 122 true (.load 124 none (.t 123)),.grd 122 true (.bin 125 .eql (.t 124) (.c (.int .i64 3))),.pick 126 (.t 122) (.t 125) (.c (.bool false)),.aj 127 (.t 126),.grd 127 true (.aC 128 (.t 9) 4),.grd 127 true (.load 129 none (.t 128)),.grd 127 true (.aj 130 (.t 16)),.grd 127 true (.call 131 37 [(.t 129),(.t 130)]),.pick 132 (.t 127) (.t 131) (.c (.bool false)),.aj 133 (.t 132),.grd 133 true (.aj 134 (.t 15)),.pick 135 (.t 133) (.t 134) (.c (.bool false)),.aj 136 (.t 135),.grd 136 true (.aC 137 (.t 14) 1),.grd 136 true (.load 138 none (.t 137)),.grd 136 true (.bin 139 .eql (.t 138) (.c (.int .i64 2))),.pick 140 (.t 136) (.t 139) (.c (.bool false)),.aj 141 (.t 140),.grd 141 true (.aC 142 (.t 11) 3),.grd 141 true (.load 143 none (.t 142)),.grd 141 true (.un 144 .not (.t 143)),.pick 145 (.t 141) (.t 144) (.c (.bool false)),.aF 0 (.t 145)]) .ret))))))))))⟩
def Py:gy:=⟨2,28,[.cell 4 (some 7),.tmp 5],(.seq (.ops [.alloc 4 [(.int .i64 0),(.list 1 []),(.list 5 []),(.bool false),(.int .i64 0),(.int .i64 0),(.list 2 [])],.aF 5 (.c (.int .i64 0))]) (.seq (.seq (.ops [.aj 9 (.t 0),.call 10 38 [(.t 9)],.aj 8 (.t 10),.ext 11 (.t 8) 0,.ext 12 (.t 8) 1,.aF 6 (.t 11),.aF 7 (.t 12)]) (.seq (.ops [.aj 13 (.t 7),.bin 14 .neq (.t 13) (.c (.int .i64 0))]) (.cond (.t 14) (.seq (.ops [.build 15 [(.int .i64 0),(.list 1 []),(.list 5 []),(.bool false),(.int .i64 0),(.int .i64 0),(.list 2 [])] [],.aj 16 (.t 7),.store none 7 (.t 4) (.t 15),.aF 5 (.t 16)]) .ret) .skip))) (.seq (.seq (.ops [.aj 17 (.t 1),.bin 18 .lss (.t 17) (.c (.int .i64 1)),.aj 19 (.t 18),.grd 19 false (.aj 20 (.t 1)),.grd 19 false (.bin 21 .gtr (.t 20) (.c (.int .i64 1024))),.pick 22 (.t 19) (.c (.bool true)) (.t 21)]) (.cond (.t 22) (.seq (.ops [.build 23 [(.int .i64 0),(.list 1 []),(.list 5 []),(.bool false),(.int .i64 0),(.int .i64 0),(.list 2 [])] [],.store none 7 (.t 4) (.t 23),.aF 5 (.c (.int .i64 2))]) .ret) .skip)) (.seq (.ops [.aj 24 (.t 1),.aj 25 (.t 0),.call 26 39 [(.t 25)],.build 27 [(.int .i64 0),(.list 1 []),(.list 5 []),(.bool false),(.int .i64 0),(.int .i64 0),(.list 2 [])] [(0,1,(.t 24)),(1,1,(.t 26))],.store none 7 (.t 4) (.t 27),.aF 5 (.c (.int .i64 0))]) .ret))))⟩
def Uo:gy:=⟨1,11,[.tmp 2],(.seq (.ops [.aF 2 (.c (.bool false))]) (.seq (.ops [.aj 3 (.t 0),.len 4 (.t 3),.bin 5 .leq (.t 4) (.c (.int .i64 40)),.aj 6 (.t 5),.grd 6 true (.aj 7 (.t 0)),.grd 6 true (.call 8 35 [(.t 7)]),.grd 6 true (.bin 9 .leq (.t 8) (.c (.int .i64 400))),.pick 10 (.t 6) (.t 9) (.c (.bool false)),.aF 2 (.t 10)]) .ret))⟩
def Ku:gy:=⟨2,49,[.cell 4 (some 7),.tmp 5],(.seq (.ops [.box 2 (.t 0),.box 3 (.t 1),.alloc 4 [(.int .i64 0),(.list 1 []),(.list 5 []),(.bool false),(.int .i64 0),(.int .i64 0),(.list 2 [])],.aF 5 (.c (.int .i64 0))]) (.seq (.seq (.ops [.load 10 (some 7) (.t 2),.call 11 20 [(.t 10)],.aF 6 (.t 11)]) (.seq (.ops [.aj 12 (.t 6),.bin 13 .neq (.t 12) (.c (.int .i64 0))]) (.cond (.t 13) (.seq (.ops [.build 14 [(.int .i64 0),(.list 1 []),(.list 5 []),(.bool false),(.int .i64 0),(.int .i64 0),(.list 2 [])] [],.aj 15 (.t 6),.store none 7 (.t 4) (.t 14),.aF 5 (.t 15)]) .ret) .skip))) (.seq (.seq (.ops [.load 16 (some 5) (.t 3),.aC 17 (.t 2) 1,.load 18 none (.t 17),.call 19 42 [(.t 16),(.t 18)],.aF 7 (.t 19)]) (.seq (.ops [.aj 20 (.t 7),.bin 21 .neq (.t 20) (.c (.int .i64 0))]) (.cond (.t 21) (.seq (.ops [.build 22 [(.int .i64 0),(.list 1 []),(.list 5 []),(.bool false),(.int .i64 0),(.int .i64 0),(.list 2 [])] [],.aj 23 (.t 7),.store none 7 (.t 4) (.t 22),.aF 5 (.t 23)]) .ret) .skip))) (.seq (.seq (.ops [.aC 24 (.t 3) 0,.load 25 none (.t 24),.aC 26 (.t 2) 5,.load 27 none (.t 26),.bin 28 .neq (.t 25) (.t 27)]) (.cond (.t 28) (.seq (.ops [.build 29 [(.int .i64 0),(.list 1 []),(.list 5 []),(.bool false),(.int .i64 0),(.int .i64 0),(.list 2 [])] [],.store none 7 (.t 4) (.t 29),.aF 5 (.c (.int .i64 15))]) .ret) .skip)) (.seq (.drs [] [3,4,8,9] [.call 31 43 [],.load 32 (some 7) (.t 2),.call 33 44 [(.t 32)],.idx 34 (.t 31) (.t 33) 2 1 none,.load 35 (some 7) (.t 2),.call 36 45 [(.t 35)],.load 37 (some 5) (.t 3),.linv 38 (.t 34) (.t 36) [(.t 37)],.aj 30 (.t 38),.ext 39 (.t 30) 0,.ext 40 (.t 30) 1,.alloc 8 [(.int .i64 0),(.list 1 []),(.list 5 []),(.bool false),(.int .i64 0),(.int .i64 0),(.list 2 [])],.store none 7 (.t 8) (.t 39),.aF 9 (.t 40)]
    [⟨[([1,4,6],0),([],2),([3],5)],(some ([],[],7,[([8,9,10],11),([],12)])),[13],[1,4,6,0,2,3,5,7,8,9,10,11,12,13],false⟩,⟨[([1,4,6],0),([],2),([3],5),([],11)],(some ([],[],7,[([8,9,10],12)])),[13],[1,4,6,0,2,3,5,11,7,8,9,10,12,13],false⟩,⟨[([1,4,6],0),([],2),([3],11),([],5)],(some ([],[],7,[([8,9,10],12)])),[13],[1,4,6,0,2,3,11,5,7,8,9,10,12,13],false⟩,⟨[([1,4,6],0),([],11),([],2),([3],5)],(some ([],[],7,[([8,9,10],12)])),[13],[1,4,6,0,11,2,3,5,7,8,9,10,12,13],false⟩,⟨[([1,4,6],11),([],0),([],2),([3],5)],(some ([],[],7,[([8,9,10],12)])),[13],[1,4,6,11,0,2,3,5,7,8,9,10,12,13],false⟩]) (.seq (.seq (.ops [.aj 41 (.t 9),.bin 42 .neq (.t 41) (.c (.int .i64 0))]) (.cond (.t 42) (.seq (.ops [.build 43 [(.int .i64 0),(.list 1 []),(.list 5 []),(.bool false),(.int .i64 0),(.int .i64 0),(.list 2 [])] [],.aj 44 (.t 9),.store none 7 (.t 4) (.t 43),.aF 5 (.t 44)]) .ret) .skip)) (.seq (.ops [.aC 45 (.t 3) 1,.load 46 none (.t 45),.aC 47 (.t 8) 5,.store none 1 (.t 47) (.t 46)]) (.seq (.ops [.load 48 (some 7) (.t 8),.store none 7 (.t 4) (.t 48),.aF 5 (.c (.int .i64 0))]) .ret))))))))⟩
def Ur:gy:=⟨1,19,[.cell 2 (some 5),.tmp 3],(.seq (.ops [.box 1 (.t 0),.alloc 2 [(.int .i64 0),(.int .i64 0),(.int .i64 0),(.list 1 []),(.list 3 [])],.aF 3 (.c (.bool false))]) (.seq (.seq (.ops [.load 4 (some 7) (.t 1),.call 5 20 [(.t 4)],.bin 6 .neq (.t 5) (.c (.int .i64 0)),.aj 7 (.t 6),.grd 7 false (.aC 8 (.t 1) 2),.grd 7 false (.load 9 none (.t 8)),.grd 7 false (.len 10 (.t 9)),.grd 7 false (.bin 11 .eql (.t 10) (.c (.int .i64 0))),.pick 12 (.t 7) (.c (.bool true)) (.t 11)]) (.cond (.t 12) (.seq (.ops [.build 13 [(.int .i64 0),(.int .i64 0),(.int .i64 0),(.list 1 []),(.list 3 [])] [],.store none 5 (.t 2) (.t 13),.aF 3 (.c (.bool false))]) .ret) .skip)) (.seq (.ops [.aC 14 (.t 1) 2,.load 15 none (.t 14),.bT 16 5 (.t 15) (.c (.int .i64 0)),.load 17 (some 5) (.t 16),.call 18 48 [(.t 17)],.store none 5 (.t 2) (.t 18),.aF 3 (.c (.bool true))]) .ret)))⟩
def zF:gy:=⟨1,48,[.tmp 2],(.seq (.ops [.box 1 (.t 0),.aF 2 (.c (.int .i64 0))]) (.seq (.seq (.ops [.aC 6 (.t 1) 1,.load 7 none (.t 6),.call 8 38 [(.t 7)],.aj 5 (.t 8),.ext 9 (.t 5) 0,.ext 10 (.t 5) 1,.aF 3 (.t 9),.aF 4 (.t 10)]) (.seq (.ops [.aj 11 (.t 4),.bin 12 .neq (.t 11) (.c (.int .i64 0))]) (.cond (.t 12) (.seq (.ops [.aj 13 (.t 4),.aF 2 (.t 13)]) .ret) .skip))) (.seq (.seq (.xW [] [([0,1,2,3,4,5,6,7,8,9,10,11,12,13,14,15,16,17,18,19,20,21,22,23,24,25,27,30],26),([],28),([29],31)] none [32,33] [.aC 14 (.t 1) 0,.load 15 none (.t 14),.bin 16 .lss (.t 15) (.c (.int .i64 1)),.aj 17 (.t 16),.grd 17 false (.aC 18 (.t 1) 0),.grd 17 false (.load 19 none (.t 18)),.grd 17 false (.bin 20 .gtr (.t 19) (.c (.int .i64 1024))),.pick 21 (.t 17) (.c (.bool true)) (.t 20),.aj 22 (.t 21),.grd 22 false (.aC 23 (.t 1) 4),.grd 22 false (.load 24 none (.t 23)),.grd 22 false (.bin 25 .lss (.t 24) (.c (.int .i64 0))),.pick 26 (.t 22) (.c (.bool true)) (.t 25),.aj 27 (.t 26),.grd 27 false (.aC 28 (.t 1) 4),.grd 27 false (.load 29 none (.t 28)),.grd 27 false (.aC 30 (.t 1) 5),.grd 27 false (.load 31 none (.t 30)),.grd 27 false (.bin 32 .gtr (.t 29) (.t 31)),.pick 33 (.t 27) (.c (.bool true)) (.t 32),.aj 34 (.t 33),.grd 34 false (.aC 35 (.t 1) 5),.grd 34 false (.load 36 none (.t 35)),.grd 34 false (.bin 37 .gtr (.t 36) (.c (.int .i64 1073741824))),.pick 38 (.t 34) (.c (.bool true)) (.t 37),.aj 39 (.t 38),.grd 39 false (.load 41 (some 7) (.t 1)),.grd 39 false (.load 44 (some 7) (.t 1)),.grd 39 false (.call 40 49 []),.grd 39 false (.call 42 44 [(.t 41)]),.grd 39 false (.idx 43 (.t 40) (.t 42) 2 1 none),.grd 39 false (.kL 45 (.t 43) [(.t 44)]),.grd 39 false (.un 46 .not (.t 45)),.pick 47 (.t 39) (.c (.bool true)) (.t 46)]) (.cond (.t 47) (.seq (.ops [.aF 2 (.c (.int .i64 3))]) .ret) .skip)) (.seq (.ops [.aF 2 (.c (.int .i64 0))]) .ret))))⟩
def uH:ay:=(.seq (.seq (.ops [.aC 33 (.t 7) 2,.load 34 none (.t 33),.len 35 (.t 34),.bin 36 .gtr (.t 35) (.c (.int .i64 0)),.aj 37 (.t 36),.grd 37 true (.aC 38 (.t 7) 4),.grd 37 true (.load 39 none (.t 38)),.grd 37 true (.aj 40 (.t 1)),.grd 37 true (.bin 41 .lss (.t 39) (.t 40)),.pick 42 (.t 37) (.t 41) (.c (.bool false))]) (.cond (.t 42) .skip (.exit 1))) (.block 2 (.seq (.ops [.aC 43 (.t 7) 2,.load 44 none (.t 43),.bT 45 5 (.t 44) (.c (.int .i64 0)),.aC 46 (.t 45) 1,.load 47 none (.t 46),.aC 48 (.t 7) 4,.store none 1 (.t 48) (.t 47)]) (.ops [.aC 49 (.t 7) 2,.load 50 none (.t 49),.Vx 51 5 (.t 50) (some (.c (.int .i64 1))) none,.aC 52 (.t 7) 2,.store none 1 (.t 52) (.t 51)]))))
def Kv:ay :=
(.clean [1,4,7] [1,4,5,7] (.block 1 (.loop [1,4,7] uH)))
def Hf:gy:=⟨2,59,[.cell 4 (some 7),.tmp 5],(.seq (.ops [.box 2 (.t 0),.alloc 4 [(.int .i64 0),(.list 1 []),(.list 5 []),(.bool false),(.int .i64 0),(.int .i64 0),(.list 2 [])],.aF 5 (.c (.int .i64 0))]) (.seq (.seq (.ops [.load 8 (some 7) (.t 2),.call 9 20 [(.t 8)],.aF 6 (.t 9)]) (.block 0 (.seq (.ops [.aj 11 (.t 6),.bin 12 .neq (.t 11) (.c (.int .i64 0)),.aF 10 (.t 12)]) (.cond (.t 10) (.seq (.ops [.build 13 [(.int .i64 0),(.list 1 []),(.list 5 []),(.bool false),(.int .i64 0),(.int .i64 0),(.list 2 [])] [],.aj 14 (.t 6),.store none 7 (.t 4) (.t 13),.aF 5 (.t 14)]) .ret) (.seq (.ops [.aC 16 (.t 2) 3,.load 17 none (.t 16),.aF 15 (.t 17)]) (.cond (.t 15) (.seq (.ops [.build 18 [(.int .i64 0),(.list 1 []),(.list 5 []),(.bool false),(.int .i64 0),(.int .i64 0),(.list 2 [])] [],.store none 7 (.t 4) (.t 18),.aF 5 (.c (.int .i64 12))]) .ret) (.seq (.ops [.aj 20 (.t 1),.aC 21 (.t 2) 4,.load 22 none (.t 21),.bin 23 .lss (.t 20) (.t 22),.aj 24 (.t 23),.grd 24 false (.aj 25 (.t 1)),.grd 24 false (.aC 26 (.t 2) 5),.grd 24 false (.load 27 none (.t 26)),.grd 24 false (.bin 28 .gtr (.t 25) (.t 27)),.pick 29 (.t 24) (.c (.bool true)) (.t 28),.aF 19 (.t 29)]) (.cond (.t 19) (.seq (.ops [.build 30 [(.int .i64 0),(.list 1 []),(.list 5 []),(.bool false),(.int .i64 0),(.int .i64 0),(.list 2 [])] [],.store none 7 (.t 4) (.t 30),.aF 5 (.c (.int .i64 2))]) .ret) .skip)))))))) (.seq (.ops [.load 31 (some 7) (.t 2),.call 32 45 [(.t 31)],.alloc 7 [(.int .i64 0),(.list 1 []),(.list 5 []),(.bool false),(.int .i64 0),(.int .i64 0),(.list 2 [])],.Vy 7 (.t 7) (.t 32)]) (.seq
   Kv (.seq (.seq (.ops [.aC 53 (.t 7) 4,.load 54 none (.t 53),.aj 55 (.t 1),.bin 56 .neq (.t 54) (.t 55)]) (.cond (.t 56) (.seq (.ops [.build 57 [(.int .i64 0),(.list 1 []),(.list 5 []),(.bool false),(.int .i64 0),(.int .i64 0),(.list 2 [])] [],.store none 7 (.t 4) (.t 57),.aF 5 (.c (.int .i64 7))]) .ret) .skip)) (.seq (.ops [.load 58 (some 7) (.t 7),.store none 7 (.t 4) (.t 58),.aF 5 (.c (.int .i64 0))]) .ret))))))⟩
def EL:gy:=⟨3,72,[.cell 6 (some 7),.cell 7 (some 5),.tmp 8],(.seq (.ops [.box 3 (.t 0),.alloc 6 [(.int .i64 0),(.list 1 []),(.list 5 []),(.bool false),(.int .i64 0),(.int .i64 0),(.list 2 [])],.alloc 7 [(.int .i64 0),(.int .i64 0),(.int .i64 0),(.list 1 []),(.list 3 [])],.aF 8 (.c (.int .i64 0))]) (.seq (.seq (.ops [.load 14 (some 7) (.t 3),.call 15 20 [(.t 14)],.aF 9 (.t 15)]) (.seq (.ops [.aj 16 (.t 9),.bin 17 .neq (.t 16) (.c (.int .i64 0))]) (.cond (.t 17) (.seq (.ops [.build 18 [(.int .i64 0),(.list 1 []),(.list 5 []),(.bool false),(.int .i64 0),(.int .i64 0),(.list 2 [])] [],.build 19 [(.int .i64 0),(.int .i64 0),(.int .i64 0),(.list 1 []),(.list 3 [])] [],.aj 20 (.t 9),.store none 7 (.t 6) (.t 18),.store none 5 (.t 7) (.t 19),.aF 8 (.t 20)]) .ret) .skip))) (.seq (.seq (.ops [.aj 21 (.t 1),.call 22 53 [(.t 21)],.aF 10 (.t 22)]) (.seq (.ops [.aj 23 (.t 10),.bin 24 .neq (.t 23) (.c (.int .i64 0))]) (.cond (.t 24) (.seq (.ops [.build 25 [(.int .i64 0),(.list 1 []),(.list 5 []),(.bool false),(.int .i64 0),(.int .i64 0),(.list 2 [])] [],.build 26 [(.int .i64 0),(.int .i64 0),(.int .i64 0),(.list 1 []),(.list 3 [])] [],.aj 27 (.t 10),.store none 7 (.t 6) (.t 25),.store none 5 (.t 7) (.t 26),.aF 8 (.t 27)]) .ret) .skip))) (.seq (.ops [.aj 28 (.t 1),.aC 29 (.t 3) 1,.load 30 none (.t 29),.call 31 54 [(.t 28),(.t 30),(.c (.func 55 []))],.aF 11 (.t 31)]) (.seq (.block 0 (.seq (.ops [.aC 33 (.t 3) 3,.load 34 none (.t 33),.un 35 .not (.t 34),.aF 32 (.t 35)]) (.cond (.t 32) (.seq (.ops [.build 36 [(.int .i64 0),(.list 1 []),(.list 5 []),(.bool false),(.int .i64 0),(.int .i64 0),(.list 2 [])] [],.build 37 [(.int .i64 0),(.int .i64 0),(.int .i64 0),(.list 1 []),(.list 3 [])] [],.store none 7 (.t 6) (.t 36),.store none 5 (.t 7) (.t 37),.aF 8 (.c (.int .i64 12))]) .ret) (.seq (.ops [.aj 39 (.t 11),.un 40 .not (.t 39),.aF 38 (.t 40)]) (.cond (.t 38) (.seq (.ops [.build 41 [(.int .i64 0),(.list 1 []),(.list 5 []),(.bool false),(.int .i64 0),(.int .i64 0),(.list 2 [])] [],.build 42 [(.int .i64 0),(.int .i64 0),(.int .i64 0),(.list 1 []),(.list 3 [])] [],.store none 7 (.t 6) (.t 41),.store none 5 (.t 7) (.t 42),.aF 8 (.c (.int .i64 22))]) .ret) (.seq (.ops [.aj 44 (.t 2),.bin 45 .lss (.t 44) (.c (.int .i64 0)),.aj 46 (.t 45),.grd 46 false (.aj 47 (.t 2)),.grd 46 false (.bin 48 .gtr (.t 47) (.c (.int .i64 1073741824))),.pick 49 (.t 46) (.c (.bool true)) (.t 48),.aF 43 (.t 49)]) (.cond (.t 43) (.seq (.ops [.build 50 [(.int .i64 0),(.list 1 []),(.list 5 []),(.bool false),(.int .i64 0),(.int .i64 0),(.list 2 [])] [],.build 51 [(.int .i64 0),(.int .i64 0),(.int .i64 0),(.list 1 []),(.list 3 [])] [],.store none 7 (.t 6) (.t 50),.store none 5 (.t 7) (.t 51),.aF 8 (.c (.int .i64 24))]) .ret) .skip))))))) (.seq (.drs [] [3,6,7,12] [.aC 52 (.t 3) 4,.load 53 none (.t 52),.aC 54 (.t 3) 5,.load 55 none (.t 54),.aj 56 (.t 2),.aC 57 (.t 3) 6,.load 58 none (.t 57),.aj 59 (.t 1),.call 60 56 [(.t 58),(.t 59)],.build 61 [(.int .i64 0),(.int .i64 0),(.int .i64 0),(.list 1 []),(.list 3 [])] [(0,1,(.t 53)),(1,1,(.t 55)),(2,1,(.t 56)),(4,1,(.t 60))],.alloc 12 [(.int .i64 0),(.int .i64 0),(.int .i64 0),(.list 1 []),(.list 3 [])],.store none 5 (.t 12) (.t 61)]
    [⟨[([0,1,2,3,4,5,6,7],8),([9],10)],(some ([],[],11,[])),[],[0,1,2,3,4,5,6,7,8,9,10,11],false⟩,⟨[([0,1,2,3,4,5,6,7],10),([],8)],(some ([9],[],11,[])),[],[0,1,2,3,4,5,6,7,10,8,9,11],false⟩]) (.seq (.ops [.load 62 (some 7) (.t 3),.call 63 45 [(.t 62)],.alloc 13 [(.int .i64 0),(.list 1 []),(.list 5 []),(.bool false),(.int .i64 0),(.int .i64 0),(.list 2 [])],.Vy 7 (.t 13) (.t 63)]) (.seq (.ops [.load 64 (some 5) (.t 12),.call 65 48 [(.t 64)],.iF 66 5 [(.t 65)],.aC 67 (.t 13) 3,.store none 1 (.t 67) (.c (.bool false)),.aC 68 (.t 13) 6,.store none 1 (.t 68) (.nil 2),.aC 69 (.t 13) 2,.store none 1 (.t 69) (.t 66)]) (.seq (.xW [(.t 12)] [] (some ([0],[1],2,[([],3)])) [4] [.load 70 (some 7) (.t 13),.Rl 71 (some 5) (.t 12),.store none 7 (.t 6) (.t 70),.store none 5 (.t 7) (.t 71),.aF 8 (.c (.int .i64 0))]) .ret)))))))))⟩
def zG:ay:=(.seq (.seq (.ops [.aj 4 (.t 3),.aj 5 (.t 0),.len 6 (.t 5),.bin 7 .lss (.t 4) (.t 6)]) (.cond (.t 7) .skip (.exit 0))) (.seq (.block 1 (.seq (.ops [.aj 10 (.t 0),.aj 11 (.t 3),.bT 12 3 (.t 10) (.t 11),.aC 13 (.t 12) 2,.load 14 none (.t 13),.len 15 (.t 14),.bin 16 .gtr (.t 15) (.c (.int .i64 8)),.aj 17 (.t 16),.grd 17 false (.aj 18 (.t 0)),.grd 17 false (.aj 19 (.t 3)),.grd 17 false (.bT 20 3 (.t 18) (.t 19)),.grd 17 false (.aC 21 (.t 20) 2),.grd 17 false (.load 22 none (.t 21)),.grd 17 false (.call 23 15 [(.t 22)]),.grd 17 false (.un 24 .not (.t 23)),.pick 25 (.t 17) (.c (.bool true)) (.t 24)]) (.cond (.t 25) (.seq (.ops [.aF 2 (.c (.bool false))]) .ret) .skip))) (.ops [.aj 8 (.t 3),.bin 9 .add (.t 8) (.c (.int .i64 1)),.aF 3 (.t 9)])))
def Kw:ay :=
(.clean [0,3] [0,2] (.block 0 (.loop [0,3] zG)))
def abE:gy:=⟨1,29,[.tmp 2],(.seq (.ops [.aF 2 (.c (.bool false))]) (.seq (.seq (.ops [.aF 3 (.c (.int .i64 0))])
  Kw) (.seq (.ops [.aj 26 (.t 0),.len 27 (.t 26),.bin 28 .leq (.t 27) (.c (.int .i64 30)),.aF 2 (.t 28)]) .ret)))⟩
def uI:ay:=(.seq (.seq (.ops [.aj 39 (.t 13),.aj 40 (.t 2),.len 41 (.t 40),.bin 42 .lss (.t 39) (.t 41),.aj 43 (.t 42),.grd 43 true (.aC 44 (.t 12) 11),.grd 43 true (.load 45 none (.t 44)),.pick 46 (.t 43) (.t 45) (.c (.bool false))]) (.cond (.t 46) .skip (.exit 0))) (.seq (.block 1 (.seq (.seq (.ops [.aj 49 (.t 2),.aj 50 (.t 13),.bT 51 3 (.t 49) (.t 50),.aC 52 (.t 51) 0,.load 53 none (.t 52),.bin 54 .rem (.t 53) (.c (.int .u8 4))]) (.block 2 (.seq (.ops [.bin 56 .eql (.t 54) (.c (.int .u8 0)),.aF 55 (.t 56)]) (.cond (.t 55) (.xW [] [([0,1,2,3,4],5)] (some ([],[],6,[])) [] [.load 57 (some 12) (.t 12),.aj 58 (.t 2),.aj 59 (.t 13),.bT 60 3 (.t 58) (.t 59),.load 61 (some 3) (.t 60),.call 62 32 [(.t 57),(.t 61)],.store none 12 (.t 12) (.t 62)]) (.seq (.ops [.bin 64 .eql (.t 54) (.c (.int .u8 1)),.aF 63 (.t 64)]) (.cond (.t 63) (.ops [.load 65 (some 12) (.t 12),.call 66 59 [(.t 65)],.store none 12 (.t 12) (.t 66)]) (.seq (.ops [.bin 68 .eql (.t 54) (.c (.int .u8 2)),.aF 67 (.t 68)]) (.cond (.t 67) (.ops [.load 69 (some 12) (.t 12),.call 70 60 [(.t 69)],.store none 12 (.t 12) (.t 70)]) (.seq (.ops [.bin 72 .eql (.t 54) (.c (.int .u8 3)),.aF 71 (.t 72)]) (.cond (.t 71) (.seq (.ops [.aC 74 (.t 12) 2,.load 75 (some 7) (.t 74),.aC 76 (.t 12) 2,.aC 77 (.t 76) 4,.load 78 none (.t 77),.call 79 23 [(.t 75),(.t 78)],.aj 73 (.t 79),.ext 80 (.t 73) 0,.ext 81 (.t 73) 1,.alloc 14 [(.int .i64 0),(.list 1 []),(.list 5 []),(.bool false),(.int .i64 0),(.int .i64 0),(.list 2 [])],.store none 7 (.t 14) (.t 80),.aF 15 (.t 81)]) (.seq (.ops [.aj 82 (.t 15),.bin 83 .eql (.t 82) (.c (.int .i64 0))]) (.cond (.t 83) (.ops [.load 84 (some 7) (.t 14),.aC 85 (.t 12) 2,.store none 7 (.t 85) (.t 84)]) .skip))) .skip)))))))))) (.ops [.aC 86 (.t 12) 11,.load 87 none (.t 86),.aj 88 (.t 87),.grd 88 true (.aC 89 (.t 12) 2),.grd 88 true (.aC 90 (.t 89) 2),.grd 88 true (.load 91 none (.t 90)),.grd 88 true (.len 92 (.t 91)),.grd 88 true (.aj 93 (.t 1)),.grd 88 true (.bin 94 .leq (.t 92) (.t 93)),.pick 95 (.t 88) (.t 94) (.c (.bool false)),.aC 96 (.t 12) 11,.store none 1 (.t 96) (.t 95)]))) (.ops [.aj 47 (.t 13),.bin 48 .add (.t 47) (.c (.int .i64 1)),.aF 13 (.t 48)])))
def Ky:ay :=
(.clean [1,2,6,12,13] [1,6,7,12] (.block 0 (.loop [1,2,6,12,13] uI)))
def Kz:ay:=(.seq (.seq (.ops [.aj 99 (.t 16),.aj 100 (.t 1),.bin 101 .lss (.t 99) (.t 100),.aj 102 (.t 101),.grd 102 true (.aC 103 (.t 12) 11),.grd 102 true (.load 104 none (.t 103)),.pick 105 (.t 102) (.t 104) (.c (.bool false))]) (.cond (.t 105) .skip (.exit 3))) (.seq (.block 4 (.ops [.load 108 (some 12) (.t 12),.call 109 59 [(.t 108)],.store none 12 (.t 12) (.t 109)])) (.ops [.aj 106 (.t 16),.bin 107 .add (.t 106) (.c (.int .i64 1)),.aF 16 (.t 107)])))
def KA:ay :=
(.clean [1,6,12,16] [6,7,12] (.block 3 (.loop [1,6,12,16] Kz)))
def abG:gy:=⟨3,111,[.cell 6 (some 12),.tmp 7],(.seq (.ops [.alloc 6 [(.list 1 []),(.list 1 []),(.int .i64 0),(.list 1 []),(.list 5 []),(.bool false),(.int .i64 0),(.int .i64 0),(.list 2 []),(.int .i64 0),(.int .i64 0),(.bool false)],.aF 7 (.c (.bool false))]) (.seq (.ops [.aj 18 (.t 0),.call 19 31 [(.t 18)],.aj 17 (.t 19),.ext 20 (.t 17) 0,.ext 21 (.t 17) 1,.aF 8 (.t 20),.aF 9 (.t 21)]) (.seq (.ops [.aj 23 (.t 0),.aj 24 (.t 1),.call 25 11 [(.t 23),(.t 24)],.aj 22 (.t 25),.ext 26 (.t 22) 0,.ext 27 (.t 22) 1,.alloc 10 [(.int .i64 0),(.list 1 []),(.list 5 []),(.bool false),(.int .i64 0),(.int .i64 0),(.list 2 [])],.store none 7 (.t 10) (.t 26),.aF 11 (.t 27)]) (.seq (.seq (.ops [.aj 28 (.t 9),.bin 29 .neq (.t 28) (.c (.int .i64 0)),.aj 30 (.t 29),.grd 30 false (.aj 31 (.t 11)),.grd 30 false (.bin 32 .neq (.t 31) (.c (.int .i64 0))),.pick 33 (.t 30) (.c (.bool true)) (.t 32)]) (.cond (.t 33) (.seq (.ops [.build 34 [(.list 1 []),(.list 1 []),(.int .i64 0),(.list 1 []),(.list 5 []),(.bool false),(.int .i64 0),(.int .i64 0),(.list 2 []),(.int .i64 0),(.int .i64 0),(.bool false)] [],.store none 12 (.t 6) (.t 34),.aF 7 (.c (.bool false))]) .ret) .skip)) (.seq (.ops [.Xd 35 (.t 8),.Xd 36 (.t 8),.load 37 (some 7) (.t 10),.build 38 [(.list 1 []),(.list 1 []),(.int .i64 0),(.list 1 []),(.list 5 []),(.bool false),(.int .i64 0),(.int .i64 0),(.list 2 []),(.int .i64 0),(.int .i64 0),(.bool false)] [(0,1,(.t 35)),(1,1,(.t 36)),(2,7,(.t 37)),(11,1,(.c (.bool true)))],.alloc 12 [(.list 1 []),(.list 1 []),(.int .i64 0),(.list 1 []),(.list 5 []),(.bool false),(.int .i64 0),(.int .i64 0),(.list 2 []),(.int .i64 0),(.int .i64 0),(.bool false)],.store none 12 (.t 12) (.t 38)]) (.seq (.seq (.ops [.aF 13 (.c (.int .i64 0))])
    Ky) (.seq (.ops [.load 97 (some 12) (.t 12),.call 98 60 [(.t 97)],.store none 12 (.t 12) (.t 98)]) (.seq (.seq (.ops [.aF 16 (.c (.int .i64 0))])
     KA) (.seq (.ops [.load 110 (some 12) (.t 12),.store none 12 (.t 6) (.t 110),.aF 7 (.c (.bool true))]) .ret)))))))))⟩
def KC:ay:=(.seq (.seq (.ops [.aj 11 (.t 5),.aj 12 (.t 0),.len 13 (.t 12),.bin 14 .lss (.t 11) (.t 13)]) (.cond (.t 14) .skip (.exit 0))) (.seq (.block 1 (.seq (.xW [] [([0,1,2,3,4,5,6,7],8)] none [9] [.aj 17 (.t 0),.aj 18 (.t 5),.bT 19 1 (.t 17) (.t 18),.load 20 none (.t 19),.aj 21 (.t 1),.aj 22 (.t 5),.bT 23 1 (.t 21) (.t 22),.load 24 none (.t 23),.call 25 61 [(.t 20),(.t 24)],.un 26 .not (.t 25)]) (.cond (.t 26) (.seq (.ops [.aF 4 (.c (.bool false))]) .ret) .skip))) (.ops [.aj 15 (.t 5),.bin 16 .add (.t 15) (.c (.int .i64 1)),.aF 5 (.t 16)])))
def KD:ay :=
(.clean [0,1,5] [4] (.block 0 (.loop [0,1,5] KC)))
def abH:gy:=⟨2,27,[.tmp 4],(.seq (.ops [.aF 4 (.c (.bool false))]) (.seq (.seq (.ops [.aj 6 (.t 0),.len 7 (.t 6),.aj 8 (.t 1),.len 9 (.t 8),.bin 10 .neq (.t 7) (.t 9)]) (.cond (.t 10) (.seq (.ops [.aF 4 (.c (.bool false))]) .ret) .skip)) (.seq (.seq (.ops [.aF 5 (.c (.int .i64 0))])
   KD) (.seq (.ops [.aF 4 (.c (.bool true))]) .ret))))⟩
def KE:ay:=(.seq (.seq (.ops [.aj 12 (.t 6),.aj 13 (.t 0),.len 14 (.t 13),.bin 15 .lss (.t 12) (.t 14)]) (.cond (.t 15) .skip (.exit 0))) (.seq (.block 1 (.ops [.aj 18 (.t 5),.aj 19 (.t 0),.aj 20 (.t 6),.bT 21 1 (.t 19) (.t 20),.load 22 none (.t 21),.make 23 (.agg [(.int .u8 0),(.int .u8 0),(.int .u8 0),(.int .u8 0),(.int .u8 0),(.int .u8 0),(.int .u8 0),(.int .u8 0)]) (.t 22) (.t 22),.iF 24 1 [(.t 23)],.app 25 1 (.t 18) (.t 24),.aF 5 (.t 25)])) (.ops [.aj 16 (.t 6),.bin 17 .add (.t 16) (.c (.int .i64 1)),.aF 6 (.t 17)])))
def KF:ay :=
(.clean [0,5,6,25] [2,3,5] (.block 0 (.loop [0,5,6,25] KE)))
def YH:gy:=⟨1,27,[.tmp 2,.tmp 3],(.seq (.ops [.aF 2 (.nil 1),.aF 3 (.c (.int .i64 0))]) (.seq (.seq (.ops [.aj 7 (.t 0),.call 8 62 [(.t 7)],.aF 4 (.t 8)]) (.seq (.ops [.aj 9 (.t 4),.bin 10 .neq (.t 9) (.c (.int .i64 0))]) (.cond (.t 10) (.seq (.ops [.aj 11 (.t 4),.aF 2 (.nil 1),.aF 3 (.t 11)]) .ret) .skip))) (.seq (.ops [.aF 5 (.nil 1)]) (.seq (.seq (.ops [.aF 6 (.c (.int .i64 0))])
   KF) (.seq (.ops [.aj 26 (.t 5),.aF 2 (.t 26),.aF 3 (.c (.int .i64 0))]) .ret)))))⟩
def zH:ay:=(.seq (.seq (.ops [.aj 12 (.t 6),.aC 13 (.t 3) 2,.load 14 none (.t 13),.len 15 (.t 14),.bin 16 .lss (.t 12) (.t 15),.aj 17 (.t 16),.grd 17 true (.aj 18 (.t 6)),.grd 17 true (.bin 19 .lss (.t 18) (.c (.int .i64 6))),.pick 20 (.t 17) (.t 19) (.c (.bool false))]) (.cond (.t 20) .skip (.exit 0))) (.seq (.block 1 (.seq (.xW [] [([0,1,2,3,4,5,6],7)] none [8] [.aC 23 (.t 2) 0,.load 24 none (.t 23),.aC 25 (.t 3) 2,.load 26 none (.t 25),.aj 27 (.t 6),.bT 28 3 (.t 26) (.t 27),.load 29 (some 3) (.t 28),.call 30 33 [(.t 24),(.t 29)],.bin 31 .eql (.t 30) (.c (.int .i64 0))]) (.cond (.t 31) (.ops [.aj 32 (.t 5),.aC 33 (.t 3) 2,.load 34 none (.t 33),.aj 35 (.t 6),.bT 36 3 (.t 34) (.t 35),.load 37 (some 3) (.t 36),.iF 38 3 [(.t 37)],.app 39 3 (.t 32) (.t 38),.aF 5 (.t 39)]) .skip))) (.ops [.aj 21 (.t 6),.bin 22 .add (.t 21) (.c (.int .i64 1)),.aF 6 (.t 22)])))
def KG:ay :=
(.clean [2,3,4,5,6,39,43] [2,3,4,5] (.block 0 (.loop [2,3,4,5,6,39,43] zH)))
def abI:gy:=⟨2,89,[.cell 4 (some 12)],(.seq (.ops [.box 2 (.t 0),.box 3 (.t 1),.alloc 4 [(.list 1 []),(.list 1 []),(.int .i64 0),(.list 1 []),(.list 5 []),(.bool false),(.int .i64 0),(.int .i64 0),(.list 2 []),(.int .i64 0),(.int .i64 0),(.bool false)]]) (.seq (.ops [.aF 5 (.nil 3)]) (.seq (.seq (.ops [.aF 6 (.c (.int .i64 0))])
   KG) (.seq (.ops [.aj 41 (.t 5),.call 42 63 [(.t 41)],.aj 40 (.t 42),.ext 43 (.t 40) 0,.ext 44 (.t 40) 1,.aF 5 (.t 43)]) (.seq (.ops [.aC 45 (.t 2) 2,.aC 46 (.t 45) 5,.load 47 none (.t 46),.aC 48 (.t 2) 2,.aC 49 (.t 48) 5,.load 50 none (.t 49),.bin 51 .add (.t 50) (.c (.int .i64 1)),.aC 52 (.t 3) 1,.load 53 none (.t 52),.conv 54 .i64 (.t 53),.bin 55 .rem (.t 54) (.c (.int .i64 3)),.bin 56 .add (.t 51) (.t 55),.aj 57 (.t 5),.build 58 [(.int .i64 0),(.int .i64 0),(.int .i64 0),(.list 1 []),(.list 3 [])] [(0,1,(.t 47)),(1,1,(.t 56)),(4,1,(.t 57))],.alloc 7 [(.int .i64 0),(.int .i64 0),(.int .i64 0),(.list 1 []),(.list 3 [])],.store none 5 (.t 7) (.t 58)]) (.seq (.ops [.aC 60 (.t 2) 0,.load 61 none (.t 60),.load 62 (some 5) (.t 7),.call 63 64 [(.t 61),(.t 62)],.aj 59 (.t 63),.ext 64 (.t 59) 0,.ext 65 (.t 59) 1,.aF 8 (.t 64),.aF 9 (.t 65)]) (.seq (.ops [.aC 67 (.t 2) 2,.load 68 (some 7) (.t 67),.load 69 (some 5) (.t 7),.call 70 16 [(.t 68),(.t 69)],.aj 66 (.t 70),.ext 71 (.t 66) 0,.ext 72 (.t 66) 1,.alloc 10 [(.int .i64 0),(.list 1 []),(.list 5 []),(.bool false),(.int .i64 0),(.int .i64 0),(.list 2 [])],.store none 7 (.t 10) (.t 71),.aF 11 (.t 72)]) (.seq (.xW [(.t 10)] [] (some ([0,2,3,4,5,6,7,8,12],[1,9,10,11],13,[([14],15),([16],17)])) [] [.aj 73 (.t 8),.aC 75 (.t 2) 11,.load 76 none (.t 75),.aj 77 (.t 76),.grd 77 true (.aj 78 (.t 9)),.grd 77 true (.bin 79 .eql (.t 78) (.c (.int .i64 0))),.pick 80 (.t 77) (.t 79) (.c (.bool false)),.aj 81 (.t 80),.aC 85 (.t 2) 0,.Rl 74 (some 7) (.t 10),.grd 81 true (.aj 82 (.t 11)),.grd 81 true (.bin 83 .eql (.t 82) (.c (.int .i64 0))),.pick 84 (.t 81) (.t 83) (.c (.bool false)),.store none 1 (.t 85) (.t 73),.aC 86 (.t 2) 2,.store none 7 (.t 86) (.t 74),.aC 87 (.t 2) 11,.store none 1 (.t 87) (.t 84)]) (.seq (.ops [.load 88 (some 12) (.t 2),.store none 12 (.t 4) (.t 88)]) .ret)))))))))⟩
def abJ:gy:=⟨2,15,[.tmp 4],(.seq (.ops [.box 3 (.t 1),.aF 4 (.c (.int .i64 0))]) (.seq (.seq (.ops [.aj 6 (.t 0),.call 7 57 [(.t 6)],.aF 5 (.t 7)]) (.seq (.ops [.aj 8 (.t 5),.bin 9 .neq (.t 8) (.c (.int .i64 0))]) (.cond (.t 9) (.seq (.ops [.aj 10 (.t 5),.aF 4 (.t 10)]) .ret) .skip))) (.seq (.xW [] [([0,2],1),([],3)] none [4] [.aj 11 (.t 0),.load 13 (some 3) (.t 3),.call 12 66 [(.t 11)],.call 14 65 [(.t 12),(.t 13)],.aF 4 (.t 14)]) .ret)))⟩
def Dx:ay:=(.seq (.seq (.ops [.aj 14 (.t 8),.bin 15 .geq (.t 14) (.c (.int .i64 0))]) (.cond (.t 15) .skip (.exit 0))) (.seq (.block 1 (.seq (.ops [.aj 19 (.t 0),.aj 20 (.t 8),.bT 21 3 (.t 19) (.t 20),.load 22 (some 3) (.t 21),.aj 23 (.t 1),.aj 24 (.t 2),.call 25 67 [(.t 22),(.t 23),(.t 24)],.aj 18 (.t 25),.ext 26 (.t 18) 0,.ext 27 (.t 18) 1,.aF 9 (.t 26),.aF 10 (.t 27)]) (.seq (.ops [.aj 28 (.t 10)]) (.cond (.t 28) (.seq (.ops [.aj 29 (.t 0),.aj 30 (.t 8),.bT 31 3 (.t 29) (.t 30),.aC 32 (.t 31) 2,.load 33 none (.t 32),.aj 34 (.t 9),.bT 35 8 (.t 33) (.t 34),.load 36 (some 8) (.t 35),.store none 8 (.t 6) (.t 36),.aF 7 (.c (.bool true))]) .ret) .skip)))) (.ops [.aj 16 (.t 8),.bin 17 .sub (.t 16) (.c (.int .i64 1)),.aF 8 (.t 17)])))
def KH:ay :=
(.clean [0,1,2,6,8] [6,7] (.block 0 (.loop [0,1,2,6,8] Dx)))
def abK:gy:=⟨3,38,[.cell 6 (some 8),.tmp 7],(.seq (.ops [.alloc 6 [(.int .u8 0),(.int .u8 0),(.int .u8 0),(.int .u8 0),(.int .u8 0),(.int .u8 0),(.int .u8 0),(.int .u8 0)],.aF 7 (.c (.bool false))]) (.seq (.seq (.ops [.aj 11 (.t 0),.len 12 (.t 11),.bin 13 .sub (.t 12) (.c (.int .i64 1)),.aF 8 (.t 13)])
  KH) (.seq (.ops [.build 37 [(.int .u8 0),(.int .u8 0),(.int .u8 0),(.int .u8 0),(.int .u8 0),(.int .u8 0),(.int .u8 0),(.int .u8 0)] [],.store none 8 (.t 6) (.t 37),.aF 7 (.c (.bool false))]) .ret)))⟩
def zI:ay:=(.seq (.seq (.ops [.aj 5 (.t 4),.aj 6 (.t 0),.len 7 (.t 6),.bin 8 .lss (.t 5) (.t 7)]) (.cond (.t 8) .skip (.exit 0))) (.seq (.block 1 (.ops [.aj 11 (.t 3),.aj 12 (.t 0),.aj 13 (.t 4),.bT 14 3 (.t 12) (.t 13),.aC 15 (.t 14) 2,.load 16 none (.t 15),.len 17 (.t 16),.bin 18 .add (.t 11) (.t 17),.aF 3 (.t 18)])) (.ops [.aj 9 (.t 4),.bin 10 .add (.t 9) (.c (.int .i64 1)),.aF 4 (.t 10)])))
def zJ:ay :=
(.clean [0,3,4] [2,3] (.block 0 (.loop [0,3,4] zI)))
def YI:gy:=⟨1,20,[.tmp 2],(.seq (.ops [.aF 2 (.c (.int .i64 0))]) (.seq (.ops [.aF 3 (.c (.int .i64 0))]) (.seq (.seq (.ops [.aF 4 (.c (.int .i64 0))])
   zJ) (.seq (.ops [.aj 19 (.t 3),.aF 2 (.t 19)]) .ret))))⟩
def aiZ:gy:=⟨4,18,[.cell 8 (some 5)],(.seq (.ops [.alloc 8 [(.int .i64 0),(.int .i64 0),(.int .i64 0),(.list 1 []),(.list 3 [])]]) (.seq (.ops [.aj 9 (.t 0),.aj 10 (.t 1),.aj 11 (.t 2),.aj 12 (.t 3),.build 13 [(.int .u8 0),(.int .u8 0),(.int .u8 0),(.int .u8 0),(.int .u8 0),(.int .u8 0),(.int .u8 0),(.int .u8 0)] [(0,1,(.t 12))],.iF 14 8 [(.t 13)],.build 15 [(.int .i64 0),(.int .i64 0),(.list 0 [])] [(1,1,(.t 11)),(2,1,(.t 14))],.iF 16 3 [(.t 15)],.build 17 [(.int .i64 0),(.int .i64 0),(.int .i64 0),(.list 1 []),(.list 3 [])] [(0,1,(.t 9)),(1,1,(.t 10)),(4,1,(.t 16))],.store none 5 (.t 8) (.t 17)]) .ret))⟩
def ai0:gy:=⟨2,8,[.tmp 4],(.seq (.ops [.aF 4 (.c (.bool false))]) (.seq (.ops [.aj 5 (.t 0),.aj 6 (.t 1),.call 7 52 [(.t 5),(.t 6)],.aF 4 (.t 7)]) .ret))⟩
def YJ:gy:=⟨1,12,[.tmp 2,.tmp 3],(.seq (.ops [.aF 2 (.nil 1),.aF 3 (.c (.int .i64 0))]) (.seq (.seq (.ops [.aj 5 (.t 0),.call 6 68 [(.t 5)],.aF 4 (.t 6)]) (.seq (.ops [.aj 7 (.t 4),.bin 8 .neq (.t 7) (.c (.int .i64 0))]) (.cond (.t 8) (.seq (.ops [.aj 9 (.t 4),.aF 2 (.nil 1),.aF 3 (.t 9)]) .ret) .skip))) (.seq (.ops [.aj 10 (.t 0),.call 11 69 [(.t 10),(.c (.func 70 []))],.aF 2 (.t 11),.aF 3 (.c (.int .i64 0))]) .ret)))⟩
def agd:gy:=⟨1,8,[.tmp 2],(.seq (.ops [.aF 2 (.nil 1)]) (.seq (.seq (.ops [.aj 3 (.t 0),.Rk 4 false (.t 3)]) (.cond (.t 4) (.seq (.ops [.aF 2 (.nil 1)]) .ret) .skip)) (.seq (.ops [.iF 5 1 [],.aj 6 (.t 0),.app 7 1 (.t 5) (.t 6),.aF 2 (.t 7)]) .ret)))⟩
def KI:gy:=⟨2,47,[.tmp 4],(.seq (.ops [.box 2 (.t 0),.aF 4 (.c (.int .i64 0))]) (.seq (.seq (.ops [.aj 9 (.t 1),.call 10 38 [(.t 9)],.aj 8 (.t 10),.ext 11 (.t 8) 0,.ext 12 (.t 8) 1,.aF 5 (.t 11),.aF 6 (.t 12)]) (.seq (.ops [.aj 13 (.t 6),.bin 14 .neq (.t 13) (.c (.int .i64 0))]) (.cond (.t 14) (.seq (.ops [.aj 15 (.t 6),.aF 4 (.t 15)]) .ret) .skip))) (.seq (.block 0 (.seq (.ops [.aC 17 (.t 2) 0,.load 18 none (.t 17),.bin 19 .lss (.t 18) (.c (.int .i64 0)),.aj 20 (.t 19),.grd 20 false (.aC 21 (.t 2) 1),.grd 20 false (.load 22 none (.t 21)),.grd 20 false (.aC 23 (.t 2) 0),.grd 20 false (.load 24 none (.t 23)),.grd 20 false (.bin 25 .leq (.t 22) (.t 24)),.pick 26 (.t 20) (.c (.bool true)) (.t 25),.aj 27 (.t 26),.grd 27 false (.aC 28 (.t 2) 1),.grd 27 false (.load 29 none (.t 28)),.grd 27 false (.bin 30 .gtr (.t 29) (.c (.int .i64 1073741824))),.pick 31 (.t 27) (.c (.bool true)) (.t 30),.aF 16 (.t 31)]) (.cond (.t 16) (.seq (.ops [.aF 4 (.c (.int .i64 2))]) .ret) (.seq (.ops [.aC 33 (.t 2) 2,.load 34 none (.t 33),.call 35 72 [(.t 34),(.c (.int .i64 0)),(.c (.int .i64 1073741824))],.un 36 .not (.t 35),.aF 32 (.t 36)]) (.cond (.t 32) (.seq (.ops [.aF 4 (.c (.int .i64 24))]) .ret) .skip))))) (.seq (.seq (.ops [.aC 37 (.t 2) 3,.load 38 none (.t 37),.call 39 73 [(.t 38),(.c (.int .i64 0))],.aF 7 (.t 39)]) (.seq (.ops [.aj 40 (.t 7),.bin 41 .neq (.t 40) (.c (.int .i64 0))]) (.cond (.t 41) (.seq (.ops [.aj 42 (.t 7),.aF 4 (.t 42)]) .ret) .skip))) (.seq (.ops [.aC 43 (.t 2) 4,.load 44 none (.t 43),.aj 45 (.t 1),.call 46 74 [(.t 44),(.t 45)],.aF 4 (.t 46)]) .ret)))))⟩
def abL:gy:=⟨0,5,[.cell 0 (some 2)],(.seq (.ops [.alloc 0 [.nJ,.nJ]]) (.seq (.ops [.alloc 1 [.nJ],.store none 1 (.t 1) (.c (.func 75 []))]) (.seq (.ops [.Rn 2 77 [(.t 1)],.Rn 3 79 [(.t 1)],.build 4 [.nJ,.nJ] [(0,1,(.t 2)),(1,1,(.t 3))],.store none 2 (.t 0) (.t 4)]) .ret)))⟩
def YK:gy:=⟨1,5,[.tmp 2],(.seq (.ops [.box 1 (.t 0),.aF 2 (.c (.int .i64 0))]) (.seq (.seq (.ops [.aC 3 (.t 1) 3,.load 4 none (.t 3)]) (.cond (.t 4) (.seq (.ops [.aF 2 (.c (.int .i64 1))]) .ret) .skip)) (.seq (.ops [.aF 2 (.c (.int .i64 0))]) .ret)))⟩
def KJ:ay:=(.seq (.ops [.bin 13 .lss (.t 12) (.t 11)]) (.seq (.cond (.t 13) .skip (.exit 0)) (.seq (.block 1 (.seq (.ops [.bT 14 5 (.t 10) (.t 12),.load 15 (some 5) (.t 14),.alloc 5 [(.int .i64 0),(.int .i64 0),(.int .i64 0),(.list 1 []),(.list 3 [])],.store none 5 (.t 5) (.t 15)]) (.ops [.aj 16 (.t 3),.load 17 (some 5) (.t 5),.call 18 48 [(.t 17)],.iF 19 5 [(.t 18)],.app 20 5 (.t 16) (.t 19),.aF 3 (.t 20)]))) (.ops [.bin 21 .add (.t 12) (.c (.int .i64 1)),.aj 12 (.t 21)]))))
def KL:ay :=
(.clean [1,2,3,10,11,12,20,37] [1,2,3,20,37] (.block 0 (.loop [1,2,3,10,11,12,20,37] KJ)))
def KN:ay:=(.seq (.ops [.bin 26 .lss (.t 25) (.t 24)]) (.seq (.cond (.t 26) .skip (.exit 2)) (.seq (.block 3 (.seq (.ops [.bT 27 2 (.t 23) (.t 25),.load 28 (some 2) (.t 27),.alloc 8 [(.int .i64 0),(.list 1 [])],.store none 2 (.t 8) (.t 28)]) (.xW [] [([0,1,2,3,4],5),([6],7)] (some ([],[],8,[])) [9] [.aj 29 (.t 6),.aC 30 (.t 8) 0,.load 31 none (.t 30),.aC 32 (.t 8) 1,.load 33 none (.t 32),.call 34 80 [(.t 33)],.build 35 [(.int .i64 0),(.list 1 [])] [(0,1,(.t 31)),(1,1,(.t 34))],.iF 36 2 [(.t 35)],.app 37 2 (.t 29) (.t 36),.aF 6 (.t 37)]))) (.ops [.bin 38 .add (.t 25) (.c (.int .i64 1)),.aj 25 (.t 38)]))))
def KO:ay :=
(.clean [1,2,3,6,20,23,24,25,37] [1,2,3,6] (.block 2 (.loop [1,2,3,6,20,23,24,25,37] KN)))
def abM:gy:=⟨1,48,[.own 2 7],(.seq (.ops [.box 1 (.t 0),.alloc 2 [(.int .i64 0),(.list 1 []),(.list 5 []),(.bool false),(.int .i64 0),(.int .i64 0),(.list 2 [])]]) (.seq (.ops [.aF 3 (.nil 5)]) (.seq (.seq (.ops [.aC 9 (.t 1) 2,.load 10 none (.t 9),.len 11 (.t 10),.aj 12 (.c (.int .i64 0))])
   KL) (.seq (.ops [.aF 6 (.nil 2)]) (.seq (.seq (.ops [.aC 22 (.t 1) 6,.load 23 none (.t 22),.len 24 (.t 23),.aj 25 (.c (.int .i64 0))])
    KO) (.seq (.ops [.aC 39 (.t 1) 1,.load 40 none (.t 39),.call 41 39 [(.t 40)],.aF 42 (.t 3),.aF 43 (.t 6),.aC 44 (.t 1) 1,.store none 1 (.t 44) (.t 41),.aC 45 (.t 1) 2,.store none 1 (.t 45) (.t 42),.aC 46 (.t 1) 6,.store none 1 (.t 46) (.t 43)]) (.seq (.ops [.ZC 47 7 (.t 1),.Vy 7 (.t 2) (.t 47)]) .ret)))))))⟩
def KP:ay:=(.seq (.ops [.bin 10 .lss (.t 9) (.t 8)]) (.seq (.cond (.t 10) .skip (.exit 0)) (.seq (.block 1 (.seq (.ops [.bT 11 3 (.t 7) (.t 9),.load 12 (some 3) (.t 11),.alloc 5 [(.int .i64 0),(.int .i64 0),(.list 0 [])],.store none 3 (.t 5) (.t 12)]) (.seq (.ops [.aC 13 (.t 5) 2,.load 14 none (.t 13),.call 15 86 [(.t 14)],.aC 16 (.t 5) 2,.store none 1 (.t 16) (.t 15)]) (.ops [.aj 17 (.t 3),.load 18 (some 3) (.t 5),.iF 19 3 [(.t 18)],.app 20 3 (.t 17) (.t 19),.aF 3 (.t 20)])))) (.ops [.bin 21 .add (.t 9) (.c (.int .i64 1)),.aj 9 (.t 21)]))))
def KQ:ay :=
(.clean [1,2,3,7,8,9,20] [1,2,3] (.block 0 (.loop [1,2,3,7,8,9,20] KP)))
def abN:gy:=⟨1,29,[.cell 2 (some 5)],(.seq (.ops [.box 1 (.t 0),.alloc 2 [(.int .i64 0),(.int .i64 0),(.int .i64 0),(.list 1 []),(.list 3 [])]]) (.seq (.ops [.aF 3 (.nil 3)]) (.seq (.seq (.ops [.aC 6 (.t 1) 4,.load 7 none (.t 6),.len 8 (.t 7),.aj 9 (.c (.int .i64 0))])
   KQ) (.seq (.ops [.aC 22 (.t 1) 3,.load 23 none (.t 22),.call 24 39 [(.t 23)],.aj 25 (.t 3),.aC 26 (.t 1) 3,.store none 1 (.t 26) (.t 24),.aC 27 (.t 1) 4,.store none 1 (.t 27) (.t 25)]) (.seq (.ops [.load 28 (some 5) (.t 1),.store none 5 (.t 2) (.t 28)]) .ret)))))⟩
def abO:gy:=⟨0,2,[.cell 0 (some 2)],(.seq (.ops [.alloc 0 [.nJ,.nJ]]) (.seq (.ops [.build 1 [.nJ,.nJ] [(0,1,(.c (.func 87 []))),(1,1,(.c (.func 88 [])))],.store none 2 (.t 0) (.t 1)]) .ret))⟩
def agf:ay:=(.seq (.seq (.ops [.aj 11 (.t 5),.aj 12 (.t 0),.len 13 (.t 12),.bin 14 .lss (.t 11) (.t 13)]) (.cond (.t 14) .skip (.exit 0))) (.seq (.block 1 (.seq (.xW [] [([0,1,2,3,4,5,6,7,8,9,10,11,12,13,14,15,16,17,18,19,20,21,22,23,24,25,26,27,28,29,30,31,32,33,34],35)] none [36,37] [.aj 17 (.t 0),.aj 18 (.t 5),.bT 19 3 (.t 17) (.t 18),.aC 20 (.t 19) 0,.load 21 none (.t 20),.aj 22 (.t 1),.aj 23 (.t 5),.bT 24 3 (.t 22) (.t 23),.aC 25 (.t 24) 0,.load 26 none (.t 25),.bin 27 .neq (.t 21) (.t 26),.aj 28 (.t 27),.grd 28 false (.aj 29 (.t 0)),.grd 28 false (.aj 30 (.t 5)),.grd 28 false (.bT 31 3 (.t 29) (.t 30)),.grd 28 false (.aC 32 (.t 31) 1),.grd 28 false (.load 33 none (.t 32)),.grd 28 false (.aj 34 (.t 1)),.grd 28 false (.aj 35 (.t 5)),.grd 28 false (.bT 36 3 (.t 34) (.t 35)),.grd 28 false (.aC 37 (.t 36) 1),.grd 28 false (.load 38 none (.t 37)),.grd 28 false (.bin 39 .neq (.t 33) (.t 38)),.pick 40 (.t 28) (.c (.bool true)) (.t 39),.aj 41 (.t 40),.grd 41 false (.aj 42 (.t 0)),.grd 41 false (.aj 43 (.t 5)),.grd 41 false (.bT 44 3 (.t 42) (.t 43)),.grd 41 false (.aC 45 (.t 44) 2),.grd 41 false (.load 46 none (.t 45)),.grd 41 false (.aj 47 (.t 1)),.grd 41 false (.aj 48 (.t 5)),.grd 41 false (.bT 49 3 (.t 47) (.t 48)),.grd 41 false (.aC 50 (.t 49) 2),.grd 41 false (.load 51 none (.t 50)),.grd 41 false (.call 52 93 [(.t 46),(.t 51)]),.grd 41 false (.un 53 .not (.t 52)),.pick 54 (.t 41) (.c (.bool true)) (.t 53)]) (.cond (.t 54) (.seq (.ops [.aF 4 (.c (.bool false))]) .ret) .skip))) (.ops [.aj 15 (.t 5),.bin 16 .add (.t 15) (.c (.int .i64 1)),.aF 5 (.t 16)])))
def agh:ay :=
(.clean [0,1,5] [4] (.block 0 (.loop [0,1,5] agf)))
def ai1:gy:=⟨2,55,[.tmp 4],(.seq (.ops [.aF 4 (.c (.bool false))]) (.seq (.seq (.ops [.aj 6 (.t 0),.len 7 (.t 6),.aj 8 (.t 1),.len 9 (.t 8),.bin 10 .neq (.t 7) (.t 9)]) (.cond (.t 10) (.seq (.ops [.aF 4 (.c (.bool false))]) .ret) .skip)) (.seq (.seq (.ops [.aF 5 (.c (.int .i64 0))])
   agh) (.seq (.ops [.aF 4 (.c (.bool true))]) .ret))))⟩
def abP:gy:=⟨1,6,[.tmp 2],(.seq (.ops [.aF 2 (.c (.int .i64 0))]) (.seq (.ops [.aj 3 (.t 0),.call 4 94 [(.t 3)],.call 5 68 [(.t 4)],.aF 2 (.t 5)]) .ret))⟩
def Dy:ay:=(.seq (.ops [.bin 18 .lss (.t 17) (.t 16)]) (.seq (.cond (.t 18) .skip (.exit 0)) (.seq (.block 1 (.seq (.ops [.aj 19 (.t 17),.bT 20 1 (.t 15) (.t 17),.load 21 none (.t 20),.aF 7 (.t 19),.aF 8 (.t 21)]) (.seq (.ops [.aj 22 (.t 1),.aj 23 (.t 7),.bT 24 1 (.t 22) (.t 23),.load 25 none (.t 24),.aF 9 (.t 25)]) (.seq (.ops [.aj 26 (.t 2),.aj 27 (.t 8),.aj 28 (.t 9),.kL 29 (.t 26) [(.t 27),(.t 28)],.un 30 .not (.t 29)]) (.cond (.t 30) (.seq (.ops [.aF 6 (.c (.bool false))]) .ret) .skip))))) (.ops [.bin 31 .add (.t 17) (.c (.int .i64 1)),.aj 17 (.t 31)]))))
def KR:ay :=
(.clean [0,1,2,15,16,17] [6] (.block 0 (.loop [0,1,2,15,16,17] Dy)))
def YL:gy:=⟨3,32,[.tmp 6],(.seq (.ops [.aF 6 (.c (.bool false))]) (.seq (.seq (.ops [.aj 10 (.t 0),.len 11 (.t 10),.aj 12 (.t 1),.len 13 (.t 12),.bin 14 .neq (.t 11) (.t 13)]) (.cond (.t 14) (.seq (.ops [.aF 6 (.c (.bool false))]) .ret) .skip)) (.seq (.seq (.ops [.aj 15 (.t 0),.len 16 (.t 15),.aj 17 (.c (.int .i64 0))])
   KR) (.seq (.ops [.aF 6 (.c (.bool true))]) .ret))))⟩
def abQ:gy:=⟨2,9,[.tmp 4],(.seq (.ops [.aF 4 (.c (.bool false))]) (.seq (.ops [.aj 5 (.t 0),.len 6 (.t 5),.aj 7 (.t 1),.bin 8 .eql (.t 6) (.t 7),.aF 4 (.t 8)]) .ret))⟩
def KT:ay:=(.seq (.ops [.bin 21 .lss (.t 20) (.t 19)]) (.seq (.cond (.t 21) .skip (.exit 2)) (.seq (.block 3 (.seq (.ops [.bT 22 2 (.t 18) (.t 20),.load 23 (some 2) (.t 22),.alloc 9 [(.int .i64 0),(.int .i64 0)],.store none 2 (.t 9) (.t 23)]) (.xW [] [([0,1,2,3,4,5,6,7,8,9,10,11,12,13,14,15],16),([17],18)] (some ([],[],19,[])) [20] [.aj 24 (.t 5),.aj 25 (.t 6),.aC 26 (.t 9) 0,.load 27 none (.t 26),.aj 28 (.t 1),.aj 29 (.t 6),.bT 30 1 (.t 28) (.t 29),.load 31 none (.t 30),.aC 32 (.t 9) 0,.load 33 none (.t 32),.aC 34 (.t 9) 0,.load 35 none (.t 34),.aC 36 (.t 9) 1,.load 37 none (.t 36),.bin 38 .add (.t 35) (.t 37),.Vx 39 8 (.t 31) (some (.t 33)) (some (.t 38)),.call 40 86 [(.t 39)],.build 41 [(.int .i64 0),(.int .i64 0),(.list 0 [])] [(0,1,(.t 25)),(1,1,(.t 27)),(2,1,(.t 40))],.iF 42 3 [(.t 41)],.app 43 3 (.t 24) (.t 42),.aF 5 (.t 43)]))) (.ops [.bin 44 .add (.t 20) (.c (.int .i64 1)),.aj 20 (.t 44)]))))
def KU:ay :=
(.clean [0,1,5,6,10,11,12,18,19,20,43] [0,1,4,5,10,11,12,43] (.block 2 (.loop [0,1,5,6,10,11,12,18,19,20,43] KT)))
def KW:ay:=(.seq (.ops [.bin 13 .lss (.t 12) (.t 11)]) (.seq (.cond (.t 13) .skip (.exit 0)) (.seq (.block 1 (.seq (.ops [.aj 14 (.t 12),.bT 15 2 (.t 10) (.t 12),.load 16 (some 2) (.t 15),.alloc 7 [(.int .i64 0),(.list 1 [])],.aF 6 (.t 14),.store none 2 (.t 7) (.t 16)]) (.seq (.ops [.load 17 (some 2) (.t 7),.call 18 95 [(.t 17)],.len 19 (.t 18),.aj 20 (.c (.int .i64 0))])
    KU))) (.ops [.bin 45 .add (.t 12) (.c (.int .i64 1)),.aj 12 (.t 45)]))))
def KX:ay :=
(.clean [0,1,5,10,11,12,43] [4,5] (.block 0 (.loop [0,1,5,10,11,12,43] KW)))
def abR:gy:=⟨2,47,[.tmp 4],(.seq (.ops [.aF 4 (.nil 3)]) (.seq (.ops [.aF 5 (.nil 3)]) (.seq (.seq (.ops [.aj 10 (.t 0),.len 11 (.t 10),.aj 12 (.c (.int .i64 0))])
   KX) (.seq (.ops [.aj 46 (.t 5),.aF 4 (.t 46)]) .ret))))⟩
def abS:gy:=⟨1,6,[.tmp 2],(.seq (.ops [.aF 2 (.c (.int .i64 0))]) (.seq (.ops [.aj 3 (.t 0),.call 4 66 [(.t 3)],.call 5 62 [(.t 4)],.aF 2 (.t 5)]) .ret))⟩
def YM:gy:=⟨1,49,[.cell 2 (some 12)],(.seq (.ops [.box 1 (.t 0),.alloc 2 [(.list 1 []),(.list 1 []),(.int .i64 0),(.list 1 []),(.list 5 []),(.bool false),(.int .i64 0),(.int .i64 0),(.list 2 []),(.int .i64 0),(.int .i64 0),(.bool false)]]) (.seq (.ops [.aC 10 (.t 1) 2,.load 11 (some 7) (.t 10),.call 12 18 [(.t 11)],.aj 9 (.t 12),.ext 13 (.t 9) 0,.ext 14 (.t 9) 1,.alloc 3 [(.int .i64 0),(.int .i64 0),(.int .i64 0),(.list 1 []),(.list 3 [])],.store none 5 (.t 3) (.t 13),.aF 4 (.t 14)]) (.seq (.seq (.ops [.aj 15 (.t 4),.un 16 .not (.t 15)]) (.cond (.t 16) (.seq (.ops [.load 17 (some 12) (.t 1),.store none 12 (.t 2) (.t 17)]) .ret) .skip)) (.seq (.ops [.aC 19 (.t 1) 1,.load 20 none (.t 19),.load 21 (some 5) (.t 3),.call 22 64 [(.t 20),(.t 21)],.aj 18 (.t 22),.ext 23 (.t 18) 0,.ext 24 (.t 18) 1,.aF 5 (.t 23),.aF 6 (.t 24)]) (.seq (.ops [.aC 26 (.t 1) 2,.load 27 (some 7) (.t 26),.aC 28 (.t 3) 1,.load 29 none (.t 28),.call 30 23 [(.t 27),(.t 29)],.aj 25 (.t 30),.ext 31 (.t 25) 0,.ext 32 (.t 25) 1,.alloc 7 [(.int .i64 0),(.list 1 []),(.list 5 []),(.bool false),(.int .i64 0),(.int .i64 0),(.list 2 [])],.store none 7 (.t 7) (.t 31),.aF 8 (.t 32)]) (.seq (.xW [(.t 7)] [] (some ([0,2,3,4,5,6,7,8,12],[1,9,10,11],13,[([14],15),([16],17)])) [] [.aj 33 (.t 5),.aC 35 (.t 1) 11,.load 36 none (.t 35),.aj 37 (.t 36),.grd 37 true (.aj 38 (.t 6)),.grd 37 true (.bin 39 .eql (.t 38) (.c (.int .i64 0))),.pick 40 (.t 37) (.t 39) (.c (.bool false)),.aj 41 (.t 40),.aC 45 (.t 1) 1,.Rl 34 (some 7) (.t 7),.grd 41 true (.aj 42 (.t 8)),.grd 41 true (.bin 43 .eql (.t 42) (.c (.int .i64 0))),.pick 44 (.t 41) (.t 43) (.c (.bool false)),.store none 1 (.t 45) (.t 33),.aC 46 (.t 1) 2,.store none 7 (.t 46) (.t 34),.aC 47 (.t 1) 11,.store none 1 (.t 47) (.t 44)]) (.seq (.ops [.load 48 (some 12) (.t 1),.store none 12 (.t 2) (.t 48)]) .ret)))))))⟩
def KY:ay:=(.seq (.seq (.ops [.aj 31 (.t 7),.aC 32 (.t 1) 0,.load 33 none (.t 32),.len 34 (.t 33),.bin 35 .lss (.t 31) (.t 34)]) (.cond (.t 35) .skip (.exit 0))) (.seq (.block 1 (.ops [.aj 38 (.t 6),.aC 39 (.t 1) 0,.load 40 none (.t 39),.aj 41 (.t 7),.bT 42 1 (.t 40) (.t 41),.load 43 none (.t 42),.len 44 (.t 43),.bin 45 .add (.t 38) (.t 44),.aF 6 (.t 45)])) (.ops [.aj 36 (.t 7),.bin 37 .add (.t 36) (.c (.int .i64 1)),.aF 7 (.t 37)])))
def KZ:ay :=
(.clean [1,2,4,6,7] [1,2,4,6] (.block 0 (.loop [1,2,4,6,7] KY)))
def YN:gy:=⟨1,57,[.cell 2 (some 12)],(.seq (.ops [.box 1 (.t 0),.alloc 2 [(.list 1 []),(.list 1 []),(.int .i64 0),(.list 1 []),(.list 5 []),(.bool false),(.int .i64 0),(.int .i64 0),(.list 2 []),(.int .i64 0),(.int .i64 0),(.bool false)]]) (.seq (.seq (.ops [.aC 8 (.t 1) 2,.aC 9 (.t 8) 3,.load 10 none (.t 9),.un 11 .not (.t 10)]) (.cond (.t 11) (.seq (.ops [.load 12 (some 12) (.t 1),.store none 12 (.t 2) (.t 12)]) .ret) .skip)) (.seq (.ops [.aC 14 (.t 1) 2,.load 15 (some 7) (.t 14),.aC 16 (.t 1) 0,.load 17 none (.t 16),.call 18 26 [(.t 15),(.t 17),(.c (.int .i64 7))],.aj 13 (.t 18),.ext 19 (.t 13) 0,.ext 20 (.t 13) 1,.ext 21 (.t 13) 2,.alloc 3 [(.int .i64 0),(.list 1 []),(.list 5 []),(.bool false),(.int .i64 0),(.int .i64 0),(.list 2 [])],.alloc 4 [(.int .i64 0),(.int .i64 0),(.int .i64 0),(.list 1 []),(.list 3 [])],.store none 7 (.t 3) (.t 19),.store none 5 (.t 4) (.t 20),.aF 5 (.t 21)]) (.seq (.ops [.load 22 (some 7) (.t 3),.aC 23 (.t 1) 11,.load 24 none (.t 23),.aj 25 (.t 24),.grd 25 true (.aj 26 (.t 5)),.grd 25 true (.bin 27 .eql (.t 26) (.c (.int .i64 0))),.pick 28 (.t 25) (.t 27) (.c (.bool false)),.aC 29 (.t 1) 2,.store none 7 (.t 29) (.t 22),.aC 30 (.t 1) 11,.store none 1 (.t 30) (.t 28)]) (.seq (.ops [.aF 6 (.c (.int .i64 0))]) (.seq (.seq (.ops [.aF 7 (.c (.int .i64 0))])
    KZ) (.seq (.ops [.aC 46 (.t 1) 11,.load 47 none (.t 46),.aj 48 (.t 47),.grd 48 true (.aC 49 (.t 4) 4),.grd 48 true (.load 50 none (.t 49)),.grd 48 true (.call 51 35 [(.t 50)]),.grd 48 true (.aj 52 (.t 6)),.grd 48 true (.bin 53 .leq (.t 51) (.t 52)),.pick 54 (.t 48) (.t 53) (.c (.bool false)),.aC 55 (.t 1) 11,.store none 1 (.t 55) (.t 54)]) (.seq (.ops [.load 56 (some 12) (.t 1),.store none 12 (.t 2) (.t 56)]) .ret))))))))⟩
def La:ay:=(.seq (.seq (.ops [.aj 11 (.t 5),.aj 12 (.t 0),.len 13 (.t 12),.bin 14 .lss (.t 11) (.t 13)]) (.cond (.t 14) .skip (.exit 0))) (.seq (.block 1 (.seq (.xW [] [] none [0,1,2,3,4,5,6,7,8] [.aj 17 (.t 0),.aj 18 (.t 5),.bT 19 8 (.t 17) (.t 18),.load 20 (some 8) (.t 19),.aj 21 (.t 1),.aj 22 (.t 5),.bT 23 8 (.t 21) (.t 22),.load 24 (some 8) (.t 23),.Vw 25 true 8 (.t 20) (.t 24)]) (.cond (.t 25) (.seq (.ops [.aF 4 (.c (.bool false))]) .ret) .skip))) (.ops [.aj 15 (.t 5),.bin 16 .add (.t 15) (.c (.int .i64 1)),.aF 5 (.t 16)])))
def Lc:ay :=
(.clean [0,1,5] [4] (.block 0 (.loop [0,1,5] La)))
def abT:gy:=⟨2,26,[.tmp 4],(.seq (.ops [.aF 4 (.c (.bool false))]) (.seq (.seq (.ops [.aj 6 (.t 0),.len 7 (.t 6),.aj 8 (.t 1),.len 9 (.t 8),.bin 10 .neq (.t 7) (.t 9)]) (.cond (.t 10) (.seq (.ops [.aF 4 (.c (.bool false))]) .ret) .skip)) (.seq (.seq (.ops [.aF 5 (.c (.int .i64 0))])
   Lc) (.seq (.ops [.aF 4 (.c (.bool true))]) .ret))))⟩
def Ld:ay:=(.seq (.seq (.ops [.aj 12 (.t 3),.aj 13 (.t 0),.len 14 (.t 13),.bin 15 .lss (.t 12) (.t 14)]) (.cond (.t 15) .skip (.exit 0))) (.seq (.block 1 (.seq (.ops [.aj 18 (.t 0),.aj 19 (.t 3),.bT 20 1 (.t 18) (.t 19),.load 21 none (.t 20),.bin 22 .lss (.t 21) (.c (.int .i64 1)),.aj 23 (.t 22),.grd 23 false (.aj 24 (.t 0)),.grd 23 false (.aj 25 (.t 3)),.grd 23 false (.bT 26 1 (.t 24) (.t 25)),.grd 23 false (.load 27 none (.t 26)),.grd 23 false (.bin 28 .gtr (.t 27) (.c (.int .i64 4096))),.pick 29 (.t 23) (.c (.bool true)) (.t 28)]) (.cond (.t 29) (.seq (.ops [.aF 2 (.c (.int .i64 2))]) .ret) .skip))) (.ops [.aj 16 (.t 3),.bin 17 .add (.t 16) (.c (.int .i64 1)),.aF 3 (.t 17)])))
def Le:ay :=
(.clean [0,3] [2] (.block 0 (.loop [0,3] Ld)))
def abU:gy:=⟨1,30,[.tmp 2],(.seq (.ops [.aF 2 (.c (.int .i64 0))]) (.seq (.seq (.ops [.aj 4 (.t 0),.len 5 (.t 4),.bin 6 .lss (.t 5) (.c (.int .i64 1)),.aj 7 (.t 6),.grd 7 false (.aj 8 (.t 0)),.grd 7 false (.len 9 (.t 8)),.grd 7 false (.bin 10 .gtr (.t 9) (.c (.int .i64 8))),.pick 11 (.t 7) (.c (.bool true)) (.t 10)]) (.cond (.t 11) (.seq (.ops [.aF 2 (.c (.int .i64 6))]) .ret) .skip)) (.seq (.seq (.ops [.aF 3 (.c (.int .i64 0))])
   Le) (.seq (.ops [.aF 2 (.c (.int .i64 0))]) .ret))))⟩
def Lh:ay:=(.seq (.seq (.ops [.aj 8 (.t 4),.aj 9 (.t 0),.len 10 (.t 9),.bin 11 .lss (.t 8) (.t 10)]) (.cond (.t 11) .skip (.exit 0))) (.seq (.block 1 (.seq (.xW [] [([1,2,3,4],0),([],5)] none [6] [.aj 15 (.t 0),.aj 16 (.t 4),.bT 17 3 (.t 15) (.t 16),.load 18 (some 3) (.t 17),.call 14 97 [],.call 19 65 [(.t 14),(.t 18)],.aF 5 (.t 19)]) (.seq (.ops [.aj 20 (.t 5),.bin 21 .neq (.t 20) (.c (.int .i64 0))]) (.cond (.t 21) (.seq (.ops [.aj 22 (.t 5),.aF 2 (.nil 3),.aF 3 (.t 22)]) .ret) .skip)))) (.ops [.aj 12 (.t 4),.bin 13 .add (.t 12) (.c (.int .i64 1)),.aF 4 (.t 13)])))
def Lj:ay :=
(.clean [0,4,34] [0,2,3,34] (.block 0 (.loop [0,4,34] Lh)))
def Ll:ay:=(.seq (.seq (.ops [.aj 23 (.t 7),.bin 24 .lss (.t 23) (.c (.int .i64 8))]) (.cond (.t 24) .skip (.exit 2))) (.seq (.block 3 (.ops [.aj 27 (.t 6),.aj 28 (.t 0),.aj 29 (.t 7),.aj 30 (.t 0),.aj 31 (.t 7),.call 32 99 [(.t 30),(.t 31)],.call 33 98 [(.t 28),(.t 29),(.t 32)],.app 34 3 (.t 27) (.t 33),.aF 6 (.t 34)])) (.ops [.aj 25 (.t 7),.bin 26 .add (.t 25) (.c (.int .i64 1)),.aF 7 (.t 26)])))
def Lm:ay :=
(.clean [0,6,7,34] [2,3,6] (.block 2 (.loop [0,6,7,34] Ll)))
def abV:gy:=⟨1,36,[.tmp 2,.tmp 3],(.seq (.ops [.aF 2 (.nil 3),.aF 3 (.c (.int .i64 0))]) (.seq (.seq (.ops [.aF 4 (.c (.int .i64 0))])
  Lj) (.seq (.ops [.aF 6 (.nil 3)]) (.seq (.seq (.ops [.aF 7 (.c (.int .i64 0))])
   Lm) (.seq (.ops [.aj 35 (.t 6),.aF 2 (.t 35),.aF 3 (.c (.int .i64 0))]) .ret)))))⟩
def Lp:ay:=(.seq (.ops [.bin 22 .lss (.t 21) (.t 20)]) (.seq (.cond (.t 22) .skip (.exit 0)) (.seq (.block 1 (.seq (.ops [.bT 23 1 (.t 19) (.t 21),.load 24 none (.t 23),.aF 9 (.t 24)]) (.ops [.aj 25 (.t 7),.aj 26 (.t 9),.len 27 (.t 26),.iF 28 1 [(.t 27)],.app 29 1 (.t 25) (.t 28),.aF 7 (.t 29)]))) (.ops [.bin 30 .add (.t 21) (.c (.int .i64 1)),.aj 21 (.t 30)]))))
def Lr:ay :=
(.clean [0,3,7,19,20,21,29] [0,3,4,5,7] (.block 0 (.loop [0,3,7,19,20,21,29] Lp)))
def abW:gy:=⟨2,47,[.tmp 4,.tmp 5],(.seq (.ops [.box 3 (.t 1),.aF 4 (.nil 1),.aF 5 (.c (.int .i64 0))]) (.seq (.seq (.ops [.aj 14 (.t 0),.call 15 53 [(.t 14)],.aF 6 (.t 15)]) (.seq (.ops [.aj 16 (.t 6),.bin 17 .neq (.t 16) (.c (.int .i64 0))]) (.cond (.t 17) (.seq (.ops [.aj 18 (.t 6),.aF 4 (.nil 1),.aF 5 (.t 18)]) .ret) .skip))) (.seq (.ops [.aF 7 (.nil 1)]) (.seq (.seq (.ops [.aj 19 (.t 0),.len 20 (.t 19),.aj 21 (.c (.int .i64 0))])
   Lr) (.seq (.seq (.ops [.load 31 (some 5) (.t 3),.aj 32 (.t 7),.call 33 42 [(.t 31),(.t 32)],.aF 10 (.t 33)]) (.seq (.ops [.aj 34 (.t 10),.bin 35 .neq (.t 34) (.c (.int .i64 0))]) (.cond (.t 35) (.seq (.ops [.aj 36 (.t 10),.aF 4 (.nil 1),.aF 5 (.t 36)]) .ret) .skip))) (.seq (.ops [.aj 38 (.t 0),.aC 39 (.t 3) 4,.load 40 none (.t 39),.call 41 100 [(.t 38),(.t 40)],.aj 37 (.t 41),.ext 42 (.t 37) 0,.ext 43 (.t 37) 1,.ext 44 (.t 37) 2,.aF 11 (.t 42),.aF 12 (.t 43),.aF 13 (.t 44)]) (.seq (.ops [.aj 45 (.t 11),.aj 46 (.t 13),.aF 4 (.t 45),.aF 5 (.t 46)]) .ret)))))))⟩
def Us:gy:=⟨2,46,[.tmp 4],(.seq (.ops [.box 3 (.t 1),.aF 4 (.c (.int .i64 0))]) (.seq (.seq (.ops [.aC 5 (.t 3) 0,.load 6 none (.t 5),.bin 7 .lss (.t 6) (.c (.int .i64 0)),.aj 8 (.t 7),.grd 8 false (.aC 9 (.t 3) 0),.grd 8 false (.load 10 none (.t 9)),.grd 8 false (.aj 11 (.t 0)),.grd 8 false (.len 12 (.t 11)),.grd 8 false (.bin 13 .geq (.t 10) (.t 12)),.pick 14 (.t 8) (.c (.bool true)) (.t 13)]) (.cond (.t 14) (.seq (.ops [.aF 4 (.c (.int .i64 7))]) .ret) .skip)) (.seq (.seq (.ops [.aC 15 (.t 3) 2,.load 16 none (.t 15),.len 17 (.t 16),.bin 18 .eql (.t 17) (.c (.int .i64 0))]) (.cond (.t 18) (.seq (.ops [.aF 4 (.c (.int .i64 1))]) .ret) .skip)) (.seq (.seq (.xW [] [] none [0,1,2,3,4,5,6,7,8,9,10,11,12,13,14,15,16,17,18,19,20,21,22,23,24,25,26] [.aC 19 (.t 3) 1,.load 20 none (.t 19),.bin 21 .lss (.t 20) (.c (.int .i64 0)),.aj 22 (.t 21),.grd 22 false (.aC 23 (.t 3) 1),.grd 22 false (.load 24 none (.t 23)),.grd 22 false (.aj 25 (.t 0)),.grd 22 false (.aC 26 (.t 3) 0),.grd 22 false (.load 27 none (.t 26)),.grd 22 false (.bT 28 1 (.t 25) (.t 27)),.grd 22 false (.load 29 none (.t 28)),.grd 22 false (.bin 30 .geq (.t 24) (.t 29)),.pick 31 (.t 22) (.c (.bool true)) (.t 30),.aj 32 (.t 31),.grd 32 false (.aC 33 (.t 3) 2),.grd 32 false (.load 34 none (.t 33)),.grd 32 false (.len 35 (.t 34)),.grd 32 false (.aj 36 (.t 0)),.grd 32 false (.aC 37 (.t 3) 0),.grd 32 false (.load 38 none (.t 37)),.grd 32 false (.bT 39 1 (.t 36) (.t 38)),.grd 32 false (.load 40 none (.t 39)),.grd 32 false (.aC 41 (.t 3) 1),.grd 32 false (.load 42 none (.t 41)),.grd 32 false (.bin 43 .sub (.t 40) (.t 42)),.grd 32 false (.bin 44 .gtr (.t 35) (.t 43)),.pick 45 (.t 32) (.c (.bool true)) (.t 44)]) (.cond (.t 45) (.seq (.ops [.aF 4 (.c (.int .i64 2))]) .ret) .skip)) (.seq (.ops [.aF 4 (.c (.int .i64 0))]) .ret)))))⟩
def Ls:ay:=(.seq (.seq (.ops [.aj 5 (.t 4),.aj 6 (.t 0),.len 7 (.t 6),.bin 8 .lss (.t 5) (.t 7)]) (.cond (.t 8) .skip (.exit 0))) (.seq (.block 1 (.ops [.aj 11 (.t 3),.aj 12 (.t 0),.aj 13 (.t 4),.bT 14 1 (.t 12) (.t 13),.load 15 none (.t 14),.len 16 (.t 15),.iF 17 1 [(.t 16)],.app 18 1 (.t 11) (.t 17),.aF 3 (.t 18)])) (.ops [.aj 9 (.t 4),.bin 10 .add (.t 9) (.c (.int .i64 1)),.aF 4 (.t 10)])))
def Lu:ay :=
(.clean [0,3,4,18] [2,3] (.block 0 (.loop [0,3,4,18] Ls)))
def abX:gy:=⟨1,20,[.tmp 2],(.seq (.ops [.aF 2 (.nil 1)]) (.seq (.ops [.aF 3 (.nil 1)]) (.seq (.seq (.ops [.aF 4 (.c (.int .i64 0))])
   Lu) (.seq (.ops [.aj 19 (.t 3),.aF 2 (.t 19)]) .ret))))⟩
def LC:gy:=⟨3,56,[.tmp 6,.tmp 7],(.seq (.ops [.box 3 (.t 0),.aF 6 (.c (.int .i64 0)),.aF 7 (.c (.bool false))]) (.seq (.seq (.ops [.aC 10 (.t 3) 0,.load 11 none (.t 10),.aj 12 (.t 1),.bin 13 .neq (.t 11) (.t 12),.aj 14 (.t 13),.grd 14 false (.aC 15 (.t 3) 2),.grd 14 false (.load 16 none (.t 15)),.grd 14 false (.len 17 (.t 16)),.grd 14 false (.bin 18 .eql (.t 17) (.c (.int .i64 0))),.pick 19 (.t 14) (.c (.bool true)) (.t 18),.aj 20 (.t 19),.grd 20 false (.aC 21 (.t 3) 1),.grd 20 false (.load 22 none (.t 21)),.grd 20 false (.aj 23 (.t 2)),.grd 20 false (.bin 24 .gtr (.t 22) (.t 23)),.pick 25 (.t 20) (.c (.bool true)) (.t 24)]) (.cond (.t 25) (.seq (.ops [.aF 6 (.c (.int .i64 0)),.aF 7 (.c (.bool false))]) .ret) .skip)) (.seq (.seq (.ops [.aC 26 (.t 3) 1,.load 27 none (.t 26),.bin 28 .lss (.t 27) (.c (.int .i64 0)),.aj 29 (.t 28),.grd 29 true (.aj 30 (.t 2)),.grd 29 true (.bin 31 .geq (.t 30) (.c (.int .i64 0))),.pick 32 (.t 29) (.t 31) (.c (.bool false))]) (.cond (.t 32) (.seq (.seq (.ops [.aC 33 (.t 3) 1,.load 34 none (.t 33),.aC 35 (.t 3) 2,.load 36 none (.t 35),.len 37 (.t 36),.bin 38 .add (.t 34) (.t 37),.aF 8 (.t 38)]) (.seq (.ops [.aj 39 (.t 2),.aj 40 (.t 8),.bin 41 .geq (.t 39) (.t 40)]) (.cond (.t 41) (.seq (.ops [.aF 6 (.c (.int .i64 0)),.aF 7 (.c (.bool false))]) .ret) .skip))) (.seq (.ops [.aj 42 (.t 2),.aC 43 (.t 3) 1,.load 44 none (.t 43),.bin 45 .sub (.t 42) (.t 44),.aF 6 (.t 45),.aF 7 (.c (.bool true))]) .ret)) .skip)) (.seq (.ops [.aj 46 (.t 2),.aC 47 (.t 3) 1,.load 48 none (.t 47),.bin 49 .sub (.t 46) (.t 48),.aF 9 (.t 49)]) (.seq (.xW [] [] none [0,1,2,3,4,5,6,7] [.aj 50 (.t 9),.aj 51 (.t 9),.aC 52 (.t 3) 2,.load 53 none (.t 52),.len 54 (.t 53),.bin 55 .lss (.t 51) (.t 54),.aF 6 (.t 50),.aF 7 (.t 55)]) .ret)))))⟩
def abY:gy:=⟨1,13,[.tmp 2],(.seq (.ops [.aF 2 (.c (.int .i64 0))]) (.seq (.seq (.ops [.aj 3 (.t 0),.len 4 (.t 3),.bin 5 .lss (.t 4) (.c (.int .i64 1)),.aj 6 (.t 5),.grd 6 false (.aj 7 (.t 0)),.grd 6 false (.len 8 (.t 7)),.grd 6 false (.bin 9 .gtr (.t 8) (.c (.int .i64 8))),.pick 10 (.t 6) (.c (.bool true)) (.t 9)]) (.cond (.t 10) (.seq (.ops [.aF 2 (.c (.int .i64 6))]) .ret) .skip)) (.seq (.seq (.ops [.aj 11 (.t 0),.call 12 101 [(.t 11),(.c (.func 102 []))]]) (.cond (.t 12) (.seq (.ops [.aF 2 (.c (.int .i64 2))]) .ret) .skip)) (.seq (.ops [.aF 2 (.c (.int .i64 0))]) .ret))))⟩
def LD:ay:=(.seq (.ops [.bin 14 .lss (.t 13) (.t 12)]) (.seq (.cond (.t 14) .skip (.exit 0)) (.seq (.block 1 (.seq (.ops [.bT 15 1 (.t 11) (.t 13),.load 16 none (.t 15),.aF 7 (.t 16)]) (.ops [.aj 17 (.t 5),.aj 18 (.t 1),.aj 19 (.t 7),.kL 20 (.t 18) [(.t 19)],.iF 21 1 [(.t 20)],.app 22 1 (.t 17) (.t 21),.aF 5 (.t 22)]))) (.ops [.bin 23 .add (.t 13) (.c (.int .i64 1)),.aj 13 (.t 23)]))))
def LG:ay :=
(.clean [0,1,5,10,11,12,13,22] [4,5] (.block 0 (.loop [0,1,5,10,11,12,13,22] LD)))
def abZ:gy:=⟨2,25,[.tmp 4],(.seq (.ops [.aF 4 (.nil 1)]) (.seq (.ops [.aj 8 (.t 0),.len 9 (.t 8),.make 10 (.list 0 []) (.c (.int .i64 0)) (.t 9),.aF 5 (.t 10)]) (.seq (.seq (.ops [.aj 11 (.t 0),.len 12 (.t 11),.aj 13 (.c (.int .i64 0))])
   LG) (.seq (.ops [.aj 24 (.t 5),.aF 4 (.t 24)]) .ret))))⟩
def ab1:gy:=⟨1,5,[.tmp 2],(.seq (.ops [.aF 2 (.nil 8)]) (.seq (.ops [.aj 3 (.t 0),.make 4 (.agg [(.int .u8 0),(.int .u8 0),(.int .u8 0),(.int .u8 0),(.int .u8 0),(.int .u8 0),(.int .u8 0),(.int .u8 0)]) (.t 3) (.t 3),.aF 2 (.t 4)]) .ret))⟩
def YO:gy:=⟨3,15,[.tmp 6],(.seq (.ops [.aF 6 (.c (.bool false))]) (.seq (.ops [.aj 7 (.t 0),.aj 8 (.t 1),.bin 9 .geq (.t 7) (.t 8),.aj 10 (.t 9),.grd 10 true (.aj 11 (.t 0)),.grd 10 true (.aj 12 (.t 2)),.grd 10 true (.bin 13 .leq (.t 11) (.t 12)),.pick 14 (.t 10) (.t 13) (.c (.bool false)),.aF 6 (.t 14)]) .ret))⟩
def Ut:gy:=⟨2,12,[.tmp 4],(.seq (.ops [.aF 4 (.c (.int .i64 0))]) (.seq (.seq (.ops [.aj 5 (.t 0),.len 6 (.t 5),.aj 7 (.t 1),.call 8 72 [(.t 6),(.t 7),(.c (.int .i64 8))],.un 9 .not (.t 8)]) (.cond (.t 9) (.seq (.ops [.aF 4 (.c (.int .i64 6))]) .ret) .skip)) (.seq (.seq (.ops [.aj 10 (.t 0),.call 11 101 [(.t 10),(.c (.func 103 []))]]) (.cond (.t 11) (.seq (.ops [.aF 4 (.c (.int .i64 2))]) .ret) .skip)) (.seq (.ops [.aF 4 (.c (.int .i64 0))]) .ret))))⟩
def YP:gy:=⟨2,18,[.tmp 4],(.seq (.ops [.aF 4 (.c (.int .i64 0))]) (.seq (.ops [.aj 8 (.t 1),.call 9 38 [(.t 8)],.aj 7 (.t 9),.ext 10 (.t 7) 0,.ext 11 (.t 7) 1,.alloc 5 [(.list 1 [])],.store none 1 (.t 5) (.t 10),.aF 6 (.t 11)]) (.seq (.seq (.ops [.aj 12 (.t 6),.bin 13 .neq (.t 12) (.c (.int .i64 0))]) (.cond (.t 13) (.seq (.ops [.aj 14 (.t 6),.aF 4 (.t 14)]) .ret) .skip)) (.seq (.ops [.aj 15 (.t 0),.Rn 16 105 [(.t 5)],.call 17 104 [(.t 15),(.t 16)],.aF 4 (.t 17)]) .ret))))⟩
def LH:ay:=(.seq (.ops [.bin 12 .lss (.t 11) (.t 10)]) (.seq (.cond (.t 12) .skip (.exit 0)) (.seq (.block 1 (.seq (.ops [.bT 13 5 (.t 9) (.t 11),.load 14 (some 5) (.t 13),.alloc 8 [(.int .i64 0),(.int .i64 0),(.int .i64 0),(.list 1 []),(.list 3 [])],.store none 5 (.t 8) (.t 14)]) (.seq (.ops [.aC 16 (.t 2) 6,.load 17 none (.t 16),.load 18 (some 5) (.t 8),.lin 19 76 (.t 17) [(.t 18)],.aj 15 (.t 19),.ext 20 (.t 15) 0,.ext 21 (.t 15) 1,.aC 22 (.t 2) 6,.store none 1 (.t 22) (.t 20),.aF 6 (.t 21)]) (.seq (.ops [.aj 23 (.t 6),.bin 24 .neq (.t 23) (.c (.int .i64 0))]) (.cond (.t 24) (.seq (.ops [.build 25 [(.int .i64 0),(.list 1 []),(.list 5 []),(.bool false),(.int .i64 0),(.int .i64 0),(.list 2 [])] [],.aj 26 (.t 6),.store none 7 (.t 4) (.t 25),.aF 5 (.t 26)]) .ret) .skip))))) (.ops [.bin 27 .add (.t 11) (.c (.int .i64 1)),.aj 11 (.t 27)]))))
def LJ:ay :=
(.clean [1,2,4,9,10,11] [2,4,5] (.block 0 (.loop [1,2,4,9,10,11] LH)))
def ab2:gy:=⟨2,29,[.cell 4 (some 7),.tmp 5],(.seq (.ops [.Xe 2 (.t 0),.alloc 4 [(.int .i64 0),(.list 1 []),(.list 5 []),(.bool false),(.int .i64 0),(.int .i64 0),(.list 2 [])],.aF 5 (.c (.int .i64 0))]) (.seq (.ops [.aF 6 (.c (.int .i64 0))]) (.seq (.seq (.ops [.aj 9 (.t 1),.len 10 (.t 9),.aj 11 (.c (.int .i64 0))])
   LJ) (.seq (.ops [.load 28 (some 7) (.t 2),.store none 7 (.t 4) (.t 28),.aF 5 (.c (.int .i64 0))]) .ret))))⟩
def LK:ay:=(.seq (.ops [.bin 22 .lss (.t 21) (.t 20)]) (.seq (.cond (.t 22) .skip (.exit 2)) (.seq (.block 3 (.seq (.ops [.bT 23 2 (.t 19) (.t 21),.load 24 (some 2) (.t 23),.alloc 8 [(.int .i64 0),(.int .i64 0)],.store none 2 (.t 8) (.t 24)]) (.seq (.drs [] [0,3,6,9,10,12,13,19,20,21] [.aj 26 (.t 0),.aj 27 (.t 6),.bT 28 2 (.t 26) (.t 27),.load 29 (some 2) (.t 28),.load 30 (some 2) (.t 8),.call 31 108 [(.t 29),(.t 30)],.aj 25 (.t 31),.ext 32 (.t 25) 0,.ext 33 (.t 25) 1,.alloc 9 [(.int .i64 0),(.list 1 [])],.store none 2 (.t 9) (.t 32),.aF 10 (.t 33)]
    [⟨[([0,1,2,3,4],5),([6,7,8],9)],(some ([],[],10,[])),[11],[0,1,2,3,4,5,6,7,8,9,10,11],false⟩,⟨[([0,1,2,3,4],9),([],5)],(some ([6,7],[8],10,[])),[11],[0,1,2,3,4,9,5,6,7,8,10,11],false⟩]) (.seq (.seq (.ops [.aj 34 (.t 10),.bin 35 .neq (.t 34) (.c (.int .i64 0))]) (.cond (.t 35) (.seq (.ops [.aj 36 (.t 10),.aF 4 (.nil 2),.aF 5 (.t 36)]) .ret) .skip)) (.ops [.aj 37 (.t 0),.aj 38 (.t 6),.load 39 (some 2) (.t 9),.bT 40 2 (.t 37) (.t 38),.store none 2 (.t 40) (.t 39)]))))) (.ops [.bin 41 .add (.t 21) (.c (.int .i64 1)),.aj 21 (.t 41)]))))
def LM:ay :=
(.clean [0,3,6,12,13,19,20,21] [0,3,4,5,12,13] (.block 2 (.loop [0,3,6,12,13,19,20,21] LK)))
def LP:ay:=(.seq (.ops [.bin 14 .lss (.t 13) (.t 12)]) (.seq (.cond (.t 14) .skip (.exit 0)) (.seq (.block 1 (.seq (.ops [.aj 15 (.t 13),.aF 6 (.t 15)]) (.seq (.ops [.aC 16 (.t 3) 4,.load 17 none (.t 16),.aj 18 (.t 6),.call 19 107 [(.t 17),(.t 18)],.len 20 (.t 19),.aj 21 (.c (.int .i64 0))])
    LM))) (.ops [.bin 42 .add (.t 13) (.c (.int .i64 1)),.aj 13 (.t 42)]))))
def LQ:ay :=
(.clean [0,3,12,13] [0,4,5] (.block 0 (.loop [0,3,12,13] LP)))
def ab3:gy:=⟨2,44,[.tmp 4,.tmp 5],(.seq (.ops [.box 3 (.t 1),.aF 4 (.nil 2),.aF 5 (.c (.int .i64 0))]) (.seq (.seq (.ops [.aj 11 (.t 0),.len 12 (.t 11),.aj 13 (.c (.int .i64 0))])
  LQ) (.seq (.ops [.aj 43 (.t 0),.aF 4 (.t 43),.aF 5 (.c (.int .i64 0))]) .ret)))⟩
def LU:ay:=(.seq (.ops [.bin 30 .lss (.t 29) (.t 28)]) (.seq (.cond (.t 30) .skip (.exit 0)) (.seq (.block 1 (.seq (.ops [.bT 31 1 (.t 27) (.t 29),.load 32 none (.t 31),.aF 8 (.t 32)]) (.seq (.ops [.aj 34 (.t 8),.call 35 78 [(.t 34)],.aj 33 (.t 35),.ext 36 (.t 33) 0,.ext 37 (.t 33) 1,.alloc 9 [(.int .i64 0),(.list 1 [])],.store none 2 (.t 9) (.t 36),.aF 10 (.t 37)]) (.seq (.seq (.ops [.aj 38 (.t 10),.bin 39 .neq (.t 38) (.c (.int .i64 0))]) (.cond (.t 39) (.seq (.ops [.build 40 [(.int .i64 0),(.list 1 []),(.list 5 []),(.bool false),(.int .i64 0),(.int .i64 0),(.list 2 [])] [],.aj 41 (.t 10),.store none 7 (.t 5) (.t 40),.aF 6 (.t 41)]) .ret) .skip)) (.ops [.aC 42 (.t 3) 6,.load 43 none (.t 42),.load 44 (some 2) (.t 9),.iF 45 2 [(.t 44)],.app 46 2 (.t 43) (.t 45),.aC 47 (.t 3) 6,.store none 1 (.t 47) (.t 46)]))))) (.ops [.bin 48 .add (.t 29) (.c (.int .i64 1)),.aj 29 (.t 48)]))))
def LV:ay :=
(.clean [2,3,4,5,27,28,29] [2,3,4,5,6] (.block 0 (.loop [2,3,4,5,27,28,29] LU)))
def YQ:gy:=⟨3,62,[.cell 5 (some 7),.tmp 6],(.seq (.ops [.Xe 3 (.t 0),.box 4 (.t 1),.alloc 5 [(.int .i64 0),(.list 1 []),(.list 5 []),(.bool false),(.int .i64 0),(.int .i64 0),(.list 2 [])],.aF 6 (.c (.int .i64 0))]) (.seq (.seq (.ops [.aC 12 (.t 3) 2,.load 13 none (.t 12),.len 14 (.t 13),.aC 15 (.t 3) 0,.load 16 none (.t 15),.bin 17 .lss (.t 14) (.t 16)]) (.cond (.t 17) (.seq (.xW [] [([0,1,2],3),([],4)] (some ([],[],5,[([6],7)])) [] [.aC 18 (.t 3) 2,.load 19 none (.t 18),.load 20 (some 5) (.t 4),.call 21 48 [(.t 20)],.iF 22 5 [(.t 21)],.app 23 5 (.t 19) (.t 22),.aC 24 (.t 3) 2,.store none 1 (.t 24) (.t 23)]) (.seq (.ops [.load 25 (some 7) (.t 3),.store none 7 (.t 5) (.t 25),.aF 6 (.c (.int .i64 0))]) .ret)) .skip)) (.seq (.seq (.ops [.aC 26 (.t 3) 1,.load 27 none (.t 26),.len 28 (.t 27),.aj 29 (.c (.int .i64 0))])
   LV) (.seq (.ops [.aC 49 (.t 3) 2,.load 50 none (.t 49),.load 51 (some 5) (.t 4),.iF 52 5 [(.t 51)],.app 53 5 (.t 50) (.t 52),.aF 11 (.t 53)]) (.seq (.ops [.aC 54 (.t 3) 2,.store none 1 (.t 54) (.nil 5),.aC 55 (.t 3) 3,.store none 1 (.t 55) (.c (.bool true))]) (.seq (.ops [.load 56 none (.t 2),.ZC 57 7 (.t 3),.Xd 58 (.t 11),.linv 59 (.t 56) (.t 57) [(.t 58)],.ext 60 (.t 59) 0,.ext 61 (.t 59) 1,.store none 7 (.t 5) (.t 60),.aF 6 (.t 61)]) .ret))))))⟩
def Uu:gy:=⟨1,16,[.cell 2 (some 2),.tmp 3],(.seq (.ops [.alloc 2 [(.int .i64 0),(.list 1 [])],.aF 3 (.c (.int .i64 0))]) (.seq (.seq (.ops [.aj 4 (.t 0),.bin 5 .lss (.t 4) (.c (.int .i64 0)),.aj 6 (.t 5),.grd 6 false (.aj 7 (.t 0)),.grd 6 false (.bin 8 .gtr (.t 7) (.c (.int .i64 4096))),.pick 9 (.t 6) (.c (.bool true)) (.t 8)]) (.cond (.t 9) (.seq (.ops [.build 10 [(.int .i64 0),(.list 1 [])] [],.store none 2 (.t 2) (.t 10),.aF 3 (.c (.int .i64 2))]) .ret) .skip)) (.seq (.ops [.aj 11 (.t 0),.aj 12 (.t 0),.call 13 109 [(.t 12)],.make 14 (.int .u64 0) (.t 13) (.t 13),.build 15 [(.int .i64 0),(.list 1 [])] [(0,1,(.t 11)),(1,1,(.t 14))],.store none 2 (.t 2) (.t 15),.aF 3 (.c (.int .i64 0))]) .ret)))⟩
def ab4:gy:=⟨3,14,[.cell 5 (some 7),.tmp 6],(.seq (.ops [.Xe 3 (.t 0),.box 4 (.t 1),.alloc 5 [(.int .i64 0),(.list 1 []),(.list 5 []),(.bool false),(.int .i64 0),(.int .i64 0),(.list 2 [])],.aF 6 (.c (.int .i64 0))]) (.seq (.ops [.load 7 none (.t 2),.ZC 8 7 (.t 3),.load 9 (some 5) (.t 4),.iF 10 5 [(.t 9)],.linv 11 (.t 7) (.t 8) [(.t 10)],.ext 12 (.t 11) 0,.ext 13 (.t 11) 1,.store none 7 (.t 5) (.t 12),.aF 6 (.t 13)]) .ret))⟩
def agi:gy:=⟨1,8,[.tmp 2],(.seq (.ops [.aF 2 (.nil 1)]) (.seq (.seq (.ops [.aj 3 (.t 0),.Rk 4 false (.t 3)]) (.cond (.t 4) (.seq (.ops [.aF 2 (.nil 1)]) .ret) .skip)) (.seq (.ops [.iF 5 1 [],.aj 6 (.t 0),.app 7 1 (.t 5) (.t 6),.aF 2 (.t 7)]) .ret)))⟩
def agj:gy:=⟨1,8,[.tmp 2],(.seq (.ops [.aF 2 (.nil 8)]) (.seq (.seq (.ops [.aj 3 (.t 0),.Rk 4 false (.t 3)]) (.cond (.t 4) (.seq (.ops [.aF 2 (.nil 8)]) .ret) .skip)) (.seq (.ops [.iF 5 8 [],.aj 6 (.t 0),.app 7 8 (.t 5) (.t 6),.aF 2 (.t 7)]) .ret)))⟩
def zK:ay:=(.seq (.ops [.bin 12 .lss (.t 11) (.t 10)]) (.seq (.cond (.t 12) .skip (.exit 0)) (.seq (.block 1 (.seq (.ops [.bT 13 5 (.t 9) (.t 11),.load 14 (some 5) (.t 13),.alloc 5 [(.int .i64 0),(.int .i64 0),(.int .i64 0),(.list 1 []),(.list 3 [])],.store none 5 (.t 5) (.t 14)]) (.seq (.seq (.ops [.load 15 (some 5) (.t 5),.aC 16 (.t 1) 1,.load 17 none (.t 16),.call 18 42 [(.t 15),(.t 17)],.bin 19 .neq (.t 18) (.c (.int .i64 0)),.aj 20 (.t 19),.grd 20 false (.aC 21 (.t 5) 0),.grd 20 false (.load 22 none (.t 21)),.grd 20 false (.aj 23 (.t 3)),.grd 20 false (.bin 24 .neq (.t 22) (.t 23)),.pick 25 (.t 20) (.c (.bool true)) (.t 24)]) (.cond (.t 25) (.seq (.ops [.aF 2 (.c (.bool false))]) .ret) .skip)) (.ops [.aC 26 (.t 5) 1,.load 27 none (.t 26),.aF 3 (.t 27)])))) (.ops [.bin 28 .add (.t 11) (.c (.int .i64 1)),.aj 11 (.t 28)]))))
def LW:ay :=
(.clean [1,3,9,10,11] [1,2,3] (.block 0 (.loop [1,3,9,10,11] zK)))
def ab5:gy:=⟨1,47,[.tmp 2],(.seq (.ops [.box 1 (.t 0),.aF 2 (.c (.bool false))]) (.seq (.ops [.aC 6 (.t 1) 4,.load 7 none (.t 6),.aF 3 (.t 7)]) (.seq (.seq (.ops [.aC 8 (.t 1) 2,.load 9 none (.t 8),.len 10 (.t 9),.aj 11 (.c (.int .i64 0))])
   LW) (.seq (.ops [.aC 29 (.t 1) 6,.load 30 none (.t 29),.len 31 (.t 30),.bin 32 .eql (.t 31) (.c (.int .i64 0)),.aj 33 (.t 32),.grd 33 true (.aC 34 (.t 1) 2),.grd 33 true (.load 35 none (.t 34)),.grd 33 true (.len 36 (.t 35)),.grd 33 true (.aC 37 (.t 1) 0),.grd 33 true (.load 38 none (.t 37)),.grd 33 true (.bin 39 .leq (.t 36) (.t 38)),.pick 40 (.t 33) (.t 39) (.c (.bool false)),.aj 41 (.t 40),.grd 41 true (.aj 42 (.t 3)),.grd 41 true (.aC 43 (.t 1) 5),.grd 41 true (.load 44 none (.t 43)),.grd 41 true (.bin 45 .eql (.t 42) (.t 44)),.pick 46 (.t 41) (.t 45) (.c (.bool false)),.aF 2 (.t 46)]) .ret))))⟩
def Pz:gy:=⟨1,23,[.tmp 2],(.seq (.ops [.box 1 (.t 0),.aF 2 (.c (.bool false))]) (.seq (.ops [.aC 4 (.t 1) 6,.load 5 none (.t 4),.aC 6 (.t 1) 1,.load 7 none (.t 6),.call 8 89 [(.t 5),(.t 7),(.c (.func 90 []))],.aF 3 (.t 8)]) (.seq (.ops [.aj 9 (.t 3),.aj 10 (.t 9),.grd 10 true (.aC 11 (.t 1) 2),.grd 10 true (.load 12 none (.t 11)),.grd 10 true (.len 13 (.t 12)),.grd 10 true (.bin 14 .eql (.t 13) (.c (.int .i64 0))),.pick 15 (.t 10) (.t 14) (.c (.bool false)),.aj 16 (.t 15),.grd 16 true (.aC 17 (.t 1) 4),.grd 16 true (.load 18 none (.t 17)),.grd 16 true (.aC 19 (.t 1) 5),.grd 16 true (.load 20 none (.t 19)),.grd 16 true (.bin 21 .lss (.t 18) (.t 20)),.pick 22 (.t 16) (.t 21) (.c (.bool false)),.aF 2 (.t 22)]) .ret)))⟩
def Dz:ay:=(.seq (.ops [.bin 18 .lss (.t 17) (.t 16)]) (.seq (.cond (.t 18) .skip (.exit 0)) (.seq (.block 1 (.seq (.ops [.aj 19 (.t 17),.bT 20 2 (.t 15) (.t 17),.load 21 (some 2) (.t 20),.alloc 8 [(.int .i64 0),(.list 1 [])],.aF 7 (.t 19),.store none 2 (.t 8) (.t 21)]) (.seq (.ops [.aj 22 (.t 1),.aj 23 (.t 7),.bT 24 1 (.t 22) (.t 23),.load 25 none (.t 24),.aF 9 (.t 25)]) (.seq (.ops [.aj 26 (.t 2),.load 27 (some 2) (.t 8),.aj 28 (.t 9),.kL 29 (.t 26) [(.t 27),(.t 28)],.un 30 .not (.t 29)]) (.cond (.t 30) (.seq (.ops [.aF 6 (.c (.bool false))]) .ret) .skip))))) (.ops [.bin 31 .add (.t 17) (.c (.int .i64 1)),.aj 17 (.t 31)]))))
def LX:ay :=
(.clean [0,1,2,15,16,17] [6] (.block 0 (.loop [0,1,2,15,16,17] Dz)))
def YR:gy:=⟨3,32,[.tmp 6],(.seq (.ops [.aF 6 (.c (.bool false))]) (.seq (.seq (.ops [.aj 10 (.t 0),.len 11 (.t 10),.aj 12 (.t 1),.len 13 (.t 12),.bin 14 .neq (.t 11) (.t 13)]) (.cond (.t 14) (.seq (.ops [.aF 6 (.c (.bool false))]) .ret) .skip)) (.seq (.seq (.ops [.aj 15 (.t 0),.len 16 (.t 15),.aj 17 (.c (.int .i64 0))])
   LX) (.seq (.ops [.aF 6 (.c (.bool true))]) .ret))))⟩
def YS:gy:=⟨2,14,[.tmp 4],(.seq (.ops [.box 2 (.t 0),.aF 4 (.c (.bool false))]) (.seq (.ops [.load 5 (some 2) (.t 2),.call 6 91 [(.t 5)],.bin 7 .eql (.t 6) (.c (.int .i64 0)),.aj 8 (.t 7),.grd 8 true (.aC 9 (.t 2) 0),.grd 8 true (.load 10 none (.t 9)),.grd 8 true (.aj 11 (.t 1)),.grd 8 true (.bin 12 .eql (.t 10) (.t 11)),.pick 13 (.t 8) (.t 12) (.c (.bool false)),.aF 4 (.t 13)]) .ret))⟩
def Hg:gy:=⟨1,39,[.tmp 2],(.seq (.ops [.box 1 (.t 0),.aF 2 (.c (.int .i64 0))]) (.seq (.seq (.xW [] [([0,1,2,3,4,5,6,7,8,9,10,11,12,13],14)] none [15,16] [.aC 4 (.t 1) 0,.load 5 none (.t 4),.bin 6 .lss (.t 5) (.c (.int .i64 0)),.aj 7 (.t 6),.grd 7 false (.aC 8 (.t 1) 0),.grd 7 false (.load 9 none (.t 8)),.grd 7 false (.bin 10 .gtr (.t 9) (.c (.int .i64 4096))),.pick 11 (.t 7) (.c (.bool true)) (.t 10),.aj 12 (.t 11),.grd 12 false (.aC 13 (.t 1) 1),.grd 12 false (.load 14 none (.t 13)),.grd 12 false (.len 15 (.t 14)),.grd 12 false (.aC 16 (.t 1) 0),.grd 12 false (.load 17 none (.t 16)),.grd 12 false (.call 18 109 [(.t 17)]),.grd 12 false (.bin 19 .neq (.t 15) (.t 18)),.pick 20 (.t 12) (.c (.bool true)) (.t 19)]) (.cond (.t 20) (.seq (.ops [.aF 2 (.c (.int .i64 3))]) .ret) .skip)) (.seq (.seq (.ops [.aC 21 (.t 1) 0,.load 22 none (.t 21),.bin 23 .rem (.t 22) (.c (.int .i64 64)),.aF 3 (.t 23)]) (.seq (.ops [.aj 24 (.t 3),.bin 25 .gtr (.t 24) (.c (.int .i64 0)),.aj 26 (.t 25),.grd 26 true (.aC 27 (.t 1) 1),.grd 26 true (.load 28 none (.t 27)),.grd 26 true (.aC 29 (.t 1) 1),.grd 26 true (.load 30 none (.t 29)),.grd 26 true (.len 31 (.t 30)),.grd 26 true (.bin 32 .sub (.t 31) (.c (.int .i64 1))),.grd 26 true (.bT 33 1 (.t 28) (.t 32)),.grd 26 true (.load 34 none (.t 33)),.grd 26 true (.aj 35 (.t 3)),.grd 26 true (.bin 36 .shr (.t 34) (.t 35)),.grd 26 true (.bin 37 .neq (.t 36) (.c (.int .u64 0))),.pick 38 (.t 26) (.t 37) (.c (.bool false))]) (.cond (.t 38) (.seq (.ops [.aF 2 (.c (.int .i64 3))]) .ret) .skip))) (.seq (.ops [.aF 2 (.c (.int .i64 0))]) .ret))))⟩
def agk:ay:=(.seq (.seq (.ops [.aj 11 (.t 5),.aj 12 (.t 0),.len 13 (.t 12),.bin 14 .lss (.t 11) (.t 13)]) (.cond (.t 14) .skip (.exit 0))) (.seq (.block 1 (.seq (.xW [] [] none [0,1,2,3,4,5,6,7,8] [.aj 17 (.t 0),.aj 18 (.t 5),.bT 19 8 (.t 17) (.t 18),.load 20 (some 8) (.t 19),.aj 21 (.t 1),.aj 22 (.t 5),.bT 23 8 (.t 21) (.t 22),.load 24 (some 8) (.t 23),.Vw 25 true 8 (.t 20) (.t 24)]) (.cond (.t 25) (.seq (.ops [.aF 4 (.c (.bool false))]) .ret) .skip))) (.ops [.aj 15 (.t 5),.bin 16 .add (.t 15) (.c (.int .i64 1)),.aF 5 (.t 16)])))
def agl:ay :=
(.clean [0,1,5] [4] (.block 0 (.loop [0,1,5] agk)))
def ai2:gy:=⟨2,26,[.tmp 4],(.seq (.ops [.aF 4 (.c (.bool false))]) (.seq (.seq (.ops [.aj 6 (.t 0),.len 7 (.t 6),.aj 8 (.t 1),.len 9 (.t 8),.bin 10 .neq (.t 7) (.t 9)]) (.cond (.t 10) (.seq (.ops [.aF 4 (.c (.bool false))]) .ret) .skip)) (.seq (.seq (.ops [.aF 5 (.c (.int .i64 0))])
   agl) (.seq (.ops [.aF 4 (.c (.bool true))]) .ret))))⟩
def ab6:gy:=⟨1,5,[.tmp 2],(.seq (.ops [.aF 2 (.nil 1)]) (.seq (.ops [.aj 3 (.t 0),.call 4 112 [(.t 3),(.c (.func 113 []))],.aF 2 (.t 4)]) .ret))⟩
def DC:ay:=(.ops [.aF 4 (.t 8)])
def DF:ay:=(.block 1 (.seq (.seq (.ops [.load 9 none (.t 3),.len 10 (.t 9),.aF 5 (.t 10)]) (.seq (.xW [] [] none [0,1,2,3,4,5,6,7,8,9,10,11,12,13,14,15,16,17,18] [.aj 11 (.t 5),.bin 12 .gtr (.t 11) (.c (.int .i64 0)),.aj 13 (.t 12),.grd 13 true (.load 14 none (.t 3)),.grd 13 true (.aj 15 (.t 5)),.grd 13 true (.bin 16 .sub (.t 15) (.c (.int .i64 1))),.grd 13 true (.bT 17 2 (.t 14) (.t 16)),.grd 13 true (.aC 18 (.t 17) 0),.grd 13 true (.load 19 none (.t 18)),.grd 13 true (.load 20 none (.t 3)),.grd 13 true (.aj 21 (.t 5)),.grd 13 true (.bin 22 .sub (.t 21) (.c (.int .i64 1))),.grd 13 true (.bT 23 2 (.t 20) (.t 22)),.grd 13 true (.aC 24 (.t 23) 1),.grd 13 true (.load 25 none (.t 24)),.grd 13 true (.bin 26 .add (.t 19) (.t 25)),.grd 13 true (.aj 27 (.t 4)),.grd 13 true (.bin 28 .eql (.t 26) (.t 27)),.pick 29 (.t 13) (.t 28) (.c (.bool false))]) (.cond (.t 29) (.seq (.ops [.load 30 none (.t 3),.aj 31 (.t 5),.bin 32 .sub (.t 31) (.c (.int .i64 1)),.bT 33 2 (.t 30) (.t 32),.aC 34 (.t 33) 1,.load 35 none (.t 34),.bin 36 .add (.t 35) (.c (.int .i64 1)),.bT 37 2 (.t 30) (.t 32),.aC 38 (.t 37) 1,.store none 1 (.t 38) (.t 36)]) (.exit 1)) .skip))) (.ops [.load 39 none (.t 3),.aj 40 (.t 4),.build 41 [(.int .i64 0),(.int .i64 0)] [(0,1,(.t 40)),(1,1,(.c (.int .i64 1)))],.iF 42 2 [(.t 41)],.app 43 2 (.t 39) (.t 42),.store none 1 (.t 3) (.t 43)])))
def ab7:gy:=⟨1,45,[.tmp 2],(.seq (.ops [.box 1 (.t 0),.aF 2 (.nil 2)]) (.seq (.ops [.alloc 3 [(.list 2 [])]]) (.seq (.seq (.ops [.load 6 (some 2) (.t 1),.call 7 114 [(.t 6),(.c (.int .i64 0))]]) (.block 0 (.rng (.t 7) [8] DC DF))) (.seq (.ops [.load 44 none (.t 3),.aF 2 (.t 44)]) .ret))))⟩
def LY:ay:=(.seq (.seq (.ops [.aj 3 (.t 2),.bin 4 .lss (.t 3) (.c (.int .i64 8))]) (.cond (.t 4) .skip (.exit 0))) (.seq (.block 1 (.ops [.aj 7 (.t 1),.iF 8 1 [(.c (.int .i64 4096))],.app 9 1 (.t 7) (.t 8),.aF 1 (.t 9)])) (.ops [.aj 5 (.t 2),.bin 6 .add (.t 5) (.c (.int .i64 1)),.aF 2 (.t 6)])))
def LZ:ay :=
(.clean [1,2,9] [0,1] (.block 0 (.loop [1,2,9] LY)))
def ab8:gy:=⟨0,11,[.tmp 0],(.seq (.ops [.aF 0 (.nil 1)]) (.seq (.ops [.aF 1 (.nil 1)]) (.seq (.seq (.ops [.aF 2 (.c (.int .i64 0))])
   LZ) (.seq (.ops [.aj 10 (.t 1),.aF 0 (.t 10)]) .ret))))⟩
def L6:ay:=(.seq (.seq (.ops [.aj 26 (.t 10),.aj 27 (.t 2),.aj 28 (.t 8),.bT 29 2 (.t 27) (.t 28),.aC 30 (.t 29) 1,.load 31 none (.t 30),.bin 32 .lss (.t 26) (.t 31)]) (.cond (.t 32) .skip (.exit 2))) (.seq (.block 3 (.seq (.ops [.aj 36 (.t 0),.aj 37 (.t 1),.aj 38 (.t 2),.aj 39 (.t 8),.bT 40 2 (.t 38) (.t 39),.aC 41 (.t 40) 0,.load 42 none (.t 41),.aj 43 (.t 10),.bin 44 .add (.t 42) (.t 43),.call 45 34 [(.t 36),(.t 37),(.t 44)],.aj 35 (.t 45),.ext 46 (.t 35) 0,.ext 47 (.t 35) 1,.alloc 11 [(.int .u8 0),(.int .u8 0),(.int .u8 0),(.int .u8 0),(.int .u8 0),(.int .u8 0),(.int .u8 0),(.int .u8 0)],.store none 8 (.t 11) (.t 46),.aF 12 (.t 47)]) (.ops [.aC 48 (.t 9) 2,.load 49 none (.t 48),.load 50 (some 8) (.t 11),.iF 51 8 [(.t 50)],.app 52 8 (.t 49) (.t 51),.aC 53 (.t 9) 2,.store none 1 (.t 53) (.t 52)]))) (.ops [.aj 33 (.t 10),.bin 34 .add (.t 33) (.c (.int .i64 1)),.aF 10 (.t 34)])))
def L8:ay :=
(.clean [0,1,2,7,8,9,10,57] [0,1,2,6,7,8,9,57] (.block 2 (.loop [0,1,2,7,8,9,10,57] L6)))
def L9:ay:=(.seq (.seq (.ops [.aj 13 (.t 8),.aj 14 (.t 2),.len 15 (.t 14),.bin 16 .lss (.t 13) (.t 15)]) (.cond (.t 16) .skip (.exit 0))) (.seq (.block 1 (.seq (.ops [.aj 19 (.t 1),.aj 20 (.t 2),.aj 21 (.t 8),.bT 22 2 (.t 20) (.t 21),.aC 23 (.t 22) 0,.load 24 none (.t 23),.build 25 [(.int .i64 0),(.int .i64 0),(.lY 8)] [(0,1,(.t 19)),(1,1,(.t 24))],.alloc 9 [(.int .i64 0),(.int .i64 0),(.list 0 [])],.Vy 3 (.t 9) (.t 25)]) (.seq (.seq (.ops [.aF 10 (.c (.int .i64 0))])
    L8) (.ops [.aj 54 (.t 7),.load 55 (some 3) (.t 9),.iF 56 3 [(.t 55)],.app 57 3 (.t 54) (.t 56),.aF 7 (.t 57)])))) (.ops [.aj 17 (.t 8),.bin 18 .add (.t 17) (.c (.int .i64 1)),.aF 8 (.t 18)])))
def Mc:ay :=
(.clean [0,1,2,7,8,57] [6,7] (.block 0 (.loop [0,1,2,7,8,57] L9)))
def ab9:gy:=⟨3,59,[.tmp 6],(.seq (.ops [.aF 6 (.nil 3)]) (.seq (.ops [.aF 7 (.nil 3)]) (.seq (.seq (.ops [.aF 8 (.c (.int .i64 0))])
   Mc) (.seq (.ops [.aj 58 (.t 7),.aF 6 (.t 58)]) .ret))))⟩
def DI:ay:=(.seq (.seq (.ops [.aj 8 (.t 6),.aj 9 (.t 0),.len 10 (.t 9),.bin 11 .lss (.t 8) (.t 10)]) (.cond (.t 11) .skip (.exit 0))) (.seq (.block 1 (.seq (.ops [.aj 14 (.t 0),.aj 15 (.t 6),.bT 16 3 (.t 14) (.t 15),.aC 17 (.t 16) 0,.load 18 none (.t 17),.aj 19 (.t 1),.bin 20 .eql (.t 18) (.t 19)]) (.cond (.t 20) (.xW [] [] (some ([0,1,2,3,4,5,6,7,8,9,10,11,12],[],13,[])) [] [.aj 21 (.t 5),.aj 22 (.t 0),.aj 23 (.t 6),.bT 24 3 (.t 22) (.t 23),.aC 25 (.t 24) 1,.load 26 none (.t 25),.aj 27 (.t 0),.aj 28 (.t 6),.bT 29 3 (.t 27) (.t 28),.aC 30 (.t 29) 2,.load 31 none (.t 30),.len 32 (.t 31),.build 33 [(.int .i64 0),(.int .i64 0)] [(0,1,(.t 26)),(1,1,(.t 32))],.BM 34 115 (.t 21) (.t 33)]) .skip))) (.ops [.aj 12 (.t 6),.bin 13 .add (.t 12) (.c (.int .i64 1)),.aF 6 (.t 13)])))
def Md:ay :=
(.clean [0,1,5,6,7] [4,5] (.block 0 (.loop [0,1,5,6,7] DI)))
def acd:gy:=⟨2,37,[.tmp 4],(.seq (.ops [.aF 4 (.nil 2)]) (.seq (.ops [.make 7 (.bool false) (.c (.int .i64 4096)) (.c (.int .i64 4096)),.aF 5 (.t 7)]) (.seq (.seq (.ops [.aF 6 (.c (.int .i64 0))])
   Md) (.seq (.ops [.aj 35 (.t 5),.call 36 116 [(.t 35)],.aF 4 (.t 36)]) .ret))))⟩
def PD:gy:=⟨2,9,[.tmp 4],(.seq (.ops [.aF 4 (.c (.bool false))]) (.seq (.ops [.aj 5 (.t 0),.aj 6 (.t 1),.call 7 119 [(.t 5),(.t 6)],.bin 8 .geq (.t 7) (.c (.int .i64 0)),.aF 4 (.t 8)]) .ret))⟩
def PE:gy:=⟨1,9,[.tmp 2],(.seq (.ops [.aF 2 (.c (.bool false))]) (.seq (.ops [.aj 3 (.t 0),.bin 4 .lss (.t 3) (.c (.int .i64 1)),.aj 5 (.t 4),.grd 5 false (.aj 6 (.t 0)),.grd 5 false (.bin 7 .gtr (.t 6) (.c (.int .i64 4096))),.pick 8 (.t 5) (.c (.bool true)) (.t 7),.aF 2 (.t 8)]) .ret))⟩
def PG:gy:=⟨1,6,[.tmp 2],(.seq (.ops [.aF 2 (.c (.bool false))]) (.seq (.ops [.aj 3 (.t 0),.call 4 72 [(.t 3),(.c (.int .i64 0)),(.c (.int .i64 1073741824))],.un 5 .not (.t 4),.aF 2 (.t 5)]) .ret))⟩
def oJ:ay:=(.seq (.ops [.bin 12 .lss (.t 11) (.t 10)]) (.seq (.cond (.t 12) .skip (.exit 0)) (.seq (.block 1 (.seq (.ops [.aj 13 (.t 11),.bT 14 3 (.t 9) (.t 11),.load 15 (some 3) (.t 14),.alloc 6 [(.int .i64 0),(.int .i64 0),(.list 0 [])],.aF 5 (.t 13),.store none 3 (.t 6) (.t 15)]) (.seq (.seq (.ops [.aj 16 (.t 1),.load 17 (some 3) (.t 6),.kL 18 (.t 16) [(.t 17)],.aF 7 (.t 18)]) (.seq (.ops [.aj 19 (.t 7),.bin 20 .neq (.t 19) (.c (.int .i64 0))]) (.cond (.t 20) (.seq (.ops [.aj 21 (.t 7),.aF 4 (.t 21)]) .ret) .skip))) (.seq (.seq (.ops [.aj 22 (.t 5),.bin 23 .eql (.t 22) (.c (.int .i64 0))]) (.cond (.t 23) (.exit 1) .skip)) (.seq (.ops [.aj 24 (.t 0),.aj 25 (.t 5),.bin 26 .sub (.t 25) (.c (.int .i64 1)),.bT 27 3 (.t 24) (.t 26),.load 28 (some 3) (.t 27),.alloc 8 [(.int .i64 0),(.int .i64 0),(.list 0 [])],.store none 3 (.t 8) (.t 28)]) (.seq (.ops [.aC 29 (.t 6) 0,.load 30 none (.t 29),.aC 31 (.t 8) 0,.load 32 none (.t 31),.bin 33 .lss (.t 30) (.t 32),.aj 34 (.t 33),.grd 34 false (.aC 35 (.t 6) 0),.grd 34 false (.load 36 none (.t 35)),.grd 34 false (.aC 37 (.t 8) 0),.grd 34 false (.load 38 none (.t 37)),.grd 34 false (.bin 39 .eql (.t 36) (.t 38)),.grd 34 false (.aj 40 (.t 39)),.grd 40 true (.aC 41 (.t 6) 1),.grd 40 true (.load 42 none (.t 41)),.grd 40 true (.aC 43 (.t 8) 1),.grd 40 true (.load 44 none (.t 43)),.grd 40 true (.aC 45 (.t 8) 2),.grd 40 true (.load 46 none (.t 45)),.grd 40 true (.len 47 (.t 46)),.grd 40 true (.bin 48 .add (.t 44) (.t 47)),.grd 40 true (.bin 49 .leq (.t 42) (.t 48)),.grd 34 false (.pick 50 (.t 40) (.t 49) (.c (.bool false))),.pick 51 (.t 34) (.c (.bool true)) (.t 50)]) (.cond (.t 51) (.seq (.ops [.aF 4 (.c (.int .i64 3))]) .ret) .skip))))))) (.ops [.bin 52 .add (.t 11) (.c (.int .i64 1)),.aj 11 (.t 52)]))))
def EM:ay :=
(.clean [0,1,9,10,11] [4] (.block 0 (.loop [0,1,9,10,11] oJ)))
def PI:gy:=⟨2,53,[.tmp 4],(.seq (.ops [.aF 4 (.c (.int .i64 0))]) (.seq (.seq (.ops [.aj 9 (.t 0),.len 10 (.t 9),.aj 11 (.c (.int .i64 0))])
  EM) (.seq (.ops [.aF 4 (.c (.int .i64 0))]) .ret)))⟩
def PK:gy:=⟨2,7,[.tmp 3],(.seq (.ops [.box 2 (.t 0),.aF 3 (.c (.int .i64 0))]) (.seq (.ops [.load 4 none (.t 1),.load 5 (some 3) (.t 2),.call 6 106 [(.t 4),(.t 5)],.aF 3 (.t 6)]) .ret))⟩
def PL:gy:=⟨2,14,[.tmp 4],(.seq (.ops [.box 3 (.t 1),.aF 4 (.c (.int .i64 0))]) (.seq (.seq (.ops [.aj 6 (.t 0),.call 7 53 [(.t 6)],.aF 5 (.t 7)]) (.seq (.ops [.aj 8 (.t 5),.bin 9 .neq (.t 8) (.c (.int .i64 0))]) (.cond (.t 9) (.seq (.ops [.aj 10 (.t 5),.aF 4 (.t 10)]) .ret) .skip))) (.seq (.ops [.aj 11 (.t 0),.load 12 (some 3) (.t 3),.call 13 118 [(.t 11),(.t 12)],.aF 4 (.t 13)]) .ret)))⟩
def zL:ay:=(.seq (.ops [.bin 11 .lss (.t 10) (.t 9)]) (.seq (.cond (.t 11) .skip (.exit 0)) (.seq (.block 1 (.seq (.ops [.bT 12 3 (.t 8) (.t 10),.load 13 (some 3) (.t 12),.alloc 7 [(.int .i64 0),(.int .i64 0),(.list 0 [])],.store none 3 (.t 7) (.t 13)]) (.seq (.ops [.aC 14 (.t 7) 0,.load 15 none (.t 14),.aj 16 (.t 1),.bin 17 .eql (.t 15) (.t 16)]) (.cond (.t 17) (.ops [.aj 18 (.t 5),.aC 19 (.t 7) 1,.load 20 none (.t 19),.aC 21 (.t 7) 2,.load 22 none (.t 21),.len 23 (.t 22),.build 24 [(.int .i64 0),(.int .i64 0)] [(0,1,(.t 20)),(1,1,(.t 23))],.iF 25 2 [(.t 24)],.app 26 2 (.t 18) (.t 25),.aF 5 (.t 26)]) .skip)))) (.ops [.bin 27 .add (.t 10) (.c (.int .i64 1)),.aj 10 (.t 27)]))))
def EN:ay :=
(.clean [0,1,5,8,9,10,26] [4,5] (.block 0 (.loop [0,1,5,8,9,10,26] zL)))
def PN:gy:=⟨2,30,[.tmp 4],(.seq (.ops [.aF 4 (.nil 2)]) (.seq (.ops [.aF 5 (.nil 2)]) (.seq (.seq (.ops [.aj 8 (.t 0),.len 9 (.t 8),.aj 10 (.c (.int .i64 0))])
   EN) (.seq (.ops [.aj 28 (.t 5),.call 29 120 [(.t 28),(.nil 2)],.aF 4 (.t 29)]) .ret))))⟩
def PO:gy:=⟨2,12,[.cell 4 (some 2),.tmp 5],(.seq (.ops [.box 2 (.t 0),.box 3 (.t 1),.alloc 4 [(.int .i64 0),(.list 1 [])],.aF 5 (.c (.int .i64 0))]) (.seq (.ops [.build 6 [.nJ] [(0,1,(.c (.func 121 [])))],.load 7 (some 2) (.t 2),.load 8 (some 2) (.t 3),.call 9 122 [(.t 6),(.t 7),(.t 8)],.ext 10 (.t 9) 0,.ext 11 (.t 9) 1,.store none 2 (.t 4) (.t 10),.aF 5 (.t 11)]) .ret))⟩
def PS:gy:=⟨1,7,[.tmp 2],(.seq (.ops [.aF 2 (.c (.int .i64 0))]) (.seq (.ops [.aj 3 (.t 0),.bin 4 .add (.t 3) (.c (.int .i64 64)),.bin 5 .sub (.t 4) (.c (.int .i64 1)),.bin 6 .quo (.t 5) (.c (.int .i64 64)),.aF 2 (.t 6)]) .ret))⟩
def EO:ay:=(.seq (.ops [.bin 14 .lss (.t 13) (.t 12)]) (.seq (.cond (.t 14) .skip (.exit 0)) (.seq (.block 1 (.seq (.ops [.bT 15 1 (.t 11) (.t 13),.load 16 none (.t 15),.aF 7 (.t 16)]) (.ops [.aj 17 (.t 5),.aj 18 (.t 1),.aj 19 (.t 7),.kL 20 (.t 18) [(.t 19)],.iF 21 1 [(.t 20)],.app 22 1 (.t 17) (.t 21),.aF 5 (.t 22)]))) (.ops [.bin 23 .add (.t 13) (.c (.int .i64 1)),.aj 13 (.t 23)]))))
def EP:ay :=
(.clean [0,1,5,10,11,12,13,22] [4,5] (.block 0 (.loop [0,1,5,10,11,12,13,22] EO)))
def PU:gy:=⟨2,25,[.tmp 4],(.seq (.ops [.aF 4 (.nil 1)]) (.seq (.ops [.aj 8 (.t 0),.len 9 (.t 8),.make 10 (.int .i64 0) (.c (.int .i64 0)) (.t 9),.aF 5 (.t 10)]) (.seq (.seq (.ops [.aj 11 (.t 0),.len 12 (.t 11),.aj 13 (.c (.int .i64 0))])
   EP) (.seq (.ops [.aj 24 (.t 5),.aF 4 (.t 24)]) .ret))))⟩
def PW:gy:=⟨1,5,[.tmp 2],(.seq (.ops [.aF 2 (.c (.int .i64 0))]) (.seq (.ops [.aj 3 (.t 0),.len 4 (.t 3),.aF 2 (.t 4)]) .ret))⟩
def PX:gy:=⟨2,6,[.tmp 4],(.seq (.ops [.box 2 (.t 0),.box 3 (.t 1),.aF 4 (.c .nJ)]) (.seq (.ops [.Rn 5 124 [(.t 2),(.t 3)],.aF 4 (.t 5)]) .ret))⟩
def sH:ay:=(.seq (.seq (.ops [.aj 5 (.t 4),.aj 6 (.t 0),.len 7 (.t 6),.bin 8 .lss (.t 5) (.t 7)]) (.cond (.t 8) .skip (.exit 0))) (.seq (.block 1 (.seq (.seq (.ops [.aj 11 (.t 0),.aj 12 (.t 4),.bT 13 1 (.t 11) (.t 12),.load 14 none (.t 13),.un 15 .not (.t 14)]) (.cond (.t 15) (.exit 1) .skip)) (.seq (.ops [.aj 16 (.t 4),.bin 17 .gtr (.t 16) (.c (.int .i64 0)),.aj 18 (.t 17),.grd 18 true (.aj 19 (.t 0)),.grd 18 true (.aj 20 (.t 4)),.grd 18 true (.bin 21 .sub (.t 20) (.c (.int .i64 1))),.grd 18 true (.bT 22 1 (.t 19) (.t 21)),.grd 18 true (.load 23 none (.t 22)),.pick 24 (.t 18) (.t 23) (.c (.bool false))]) (.cond (.t 24) (.ops [.aj 25 (.t 3),.aj 26 (.t 3),.len 27 (.t 26),.bin 28 .sub (.t 27) (.c (.int .i64 1)),.bT 29 2 (.t 25) (.t 28),.aC 30 (.t 29) 1,.load 31 none (.t 30),.bin 32 .add (.t 31) (.c (.int .i64 1)),.bT 33 2 (.t 25) (.t 28),.aC 34 (.t 33) 1,.store none 1 (.t 34) (.t 32)]) (.ops [.aj 35 (.t 3),.aj 36 (.t 4),.build 37 [(.int .i64 0),(.int .i64 0)] [(0,1,(.t 36)),(1,1,(.c (.int .i64 1)))],.iF 38 2 [(.t 37)],.app 39 2 (.t 35) (.t 38),.aF 3 (.t 39)]))))) (.ops [.aj 9 (.t 4),.bin 10 .add (.t 9) (.c (.int .i64 1)),.aF 4 (.t 10)])))
def ER:ay :=
(.clean [0,3,4,39] [2,3] (.block 0 (.loop [0,3,4,39] sH)))
def PY:gy:=⟨1,41,[.tmp 2],(.seq (.ops [.aF 2 (.nil 2)]) (.seq (.ops [.aF 3 (.nil 2)]) (.seq (.seq (.ops [.aF 4 (.c (.int .i64 0))])
   ER) (.seq (.ops [.aj 40 (.t 3),.aF 2 (.t 40)]) .ret))))⟩
def I5:gy:=⟨2,40,[.tmp 4],(.seq (.ops [.box 3 (.t 1),.aF 4 (.c (.int .i64 0))]) (.seq (.block 0 (.seq (.ops [.aC 6 (.t 3) 0,.load 7 none (.t 6),.bin 8 .lss (.t 7) (.c (.int .i64 0)),.aj 9 (.t 8),.grd 9 false (.aC 10 (.t 3) 0),.grd 9 false (.load 11 none (.t 10)),.grd 9 false (.aj 12 (.t 0)),.grd 9 false (.len 13 (.t 12)),.grd 9 false (.bin 14 .geq (.t 11) (.t 13)),.pick 15 (.t 9) (.c (.bool true)) (.t 14),.aF 5 (.t 15)]) (.cond (.t 5) (.seq (.ops [.aF 4 (.c (.int .i64 7))]) .ret) (.seq (.ops [.aC 17 (.t 3) 2,.load 18 none (.t 17),.len 19 (.t 18),.bin 20 .eql (.t 19) (.c (.int .i64 0)),.aF 16 (.t 20)]) (.cond (.t 16) (.seq (.ops [.aF 4 (.c (.int .i64 1))]) .ret) (.seq (.xW [] [] none [0,1,2,3,4,5,6,7,8,9,10,11,12,13,14,15,16,17,18] [.aC 22 (.t 3) 1,.load 23 none (.t 22),.bin 24 .lss (.t 23) (.c (.int .i64 0)),.aj 25 (.t 24),.grd 25 false (.aC 26 (.t 3) 1),.grd 25 false (.load 27 none (.t 26)),.grd 25 false (.aj 28 (.t 0)),.grd 25 false (.aC 29 (.t 3) 0),.grd 25 false (.load 30 none (.t 29)),.grd 25 false (.bT 31 1 (.t 28) (.t 30)),.grd 25 false (.load 32 none (.t 31)),.grd 25 false (.len 33 (.t 32)),.grd 25 false (.aC 34 (.t 3) 2),.grd 25 false (.load 35 none (.t 34)),.grd 25 false (.len 36 (.t 35)),.grd 25 false (.bin 37 .sub (.t 33) (.t 36)),.grd 25 false (.bin 38 .gtr (.t 27) (.t 37)),.pick 39 (.t 25) (.c (.bool true)) (.t 38),.aF 21 (.t 39)]) (.cond (.t 21) (.seq (.ops [.aF 4 (.c (.int .i64 2))]) .ret) .skip))))))) (.seq (.ops [.aF 4 (.c (.int .i64 0))]) .ret)))⟩
def ES:ay:=(.seq (.ops [.bin 9 .lss (.t 8) (.t 7)]) (.seq (.cond (.t 9) .skip (.exit 0)) (.seq (.block 1 (.seq (.ops [.aj 10 (.t 8),.aF 5 (.t 10)]) (.seq (.ops [.aj 11 (.t 1),.aj 12 (.t 0),.aj 13 (.t 5),.bT 14 1 (.t 12) (.t 13),.load 15 none (.t 14),.kL 16 (.t 11) [(.t 15)]]) (.cond (.t 16) (.seq (.ops [.aj 17 (.t 5),.aF 4 (.t 17)]) .ret) .skip)))) (.ops [.bin 18 .add (.t 8) (.c (.int .i64 1)),.aj 8 (.t 18)]))))
def ET:ay :=
(.clean [0,1,7,8] [4] (.block 0 (.loop [0,1,7,8] ES)))
def PZ:gy:=⟨2,19,[.tmp 4],(.seq (.ops [.aF 4 (.c (.int .i64 0))]) (.seq (.seq (.ops [.aj 6 (.t 0),.len 7 (.t 6),.aj 8 (.c (.int .i64 0))])
  ET) (.seq (.ops [.aF 4 (.c (.int .i64 (-1)))]) .ret)))⟩
def P5:gy:=⟨2,9,[.tmp 4],(.seq (.ops [.aF 4 (.nil 2)]) (.seq (.ops [.aj 5 (.t 0),.aj 6 (.t 1),.call 7 129 [(.t 5),(.t 6),(.c (.func 130 []))],.call 8 128 [(.t 7)],.aF 4 (.t 8)]) .ret))⟩
def P6:gy:=⟨2,8,[.tmp 4],(.seq (.ops [.aF 4 (.c (.int .u64 0))]) (.seq (.ops [.aj 5 (.t 0),.aj 6 (.t 1),.bin 7 .or (.t 5) (.t 6),.aF 4 (.t 7)]) .ret))⟩
def EU:ay:=(.seq (.ops [.bin 29 .lss (.t 28) (.t 27)]) (.seq (.cond (.t 29) .skip (.exit 0)) (.seq (.block 1 (.seq (.ops [.aj 30 (.t 28),.aF 10 (.t 30)]) (.xW [] [([0,1,2,3,4,5,6,7,8,9,10,11,12,13,14,15],16),([],17)] (some ([18],[],19,[])) [] [.aj 31 (.t 9),.aj 32 (.t 10),.aC 33 (.t 3) 0,.load 34 none (.t 33),.aj 35 (.t 9),.aj 36 (.t 10),.bT 37 1 (.t 35) (.t 36),.load 38 none (.t 37),.aj 39 (.t 10),.aC 40 (.t 5) 0,.load 41 none (.t 40),.aC 42 (.t 5) 0,.load 43 none (.t 42),.aC 44 (.t 5) 1,.load 45 none (.t 44),.bin 46 .add (.t 43) (.t 45),.call 47 125 [(.t 39),(.t 41),(.t 46)],.kL 48 (.t 34) [(.t 38),(.t 47)],.bT 49 1 (.t 31) (.t 32),.store none 1 (.t 49) (.t 48)]))) (.ops [.bin 50 .add (.t 28) (.c (.int .i64 1)),.aj 28 (.t 50)]))))
def EW:ay :=
(.clean [3,4,5,6,9,25,27,28] [4,6,7,9] (.block 0 (.loop [3,4,5,6,9,25,27,28] EU)))
def EX:gy:=⟨3,55,[.cell 6 (some 2),.tmp 7],(.seq (.ops [.box 3 (.t 0),.box 4 (.t 1),.box 5 (.t 2),.alloc 6 [(.int .i64 0),(.list 1 [])],.aF 7 (.c (.int .i64 0))]) (.seq (.seq (.ops [.load 11 (some 2) (.t 4),.call 12 91 [(.t 11)],.aF 8 (.t 12)]) (.seq (.ops [.aj 13 (.t 8),.bin 14 .neq (.t 13) (.c (.int .i64 0))]) (.cond (.t 14) (.seq (.ops [.build 15 [(.int .i64 0),(.list 1 [])] [],.aj 16 (.t 8),.store none 2 (.t 6) (.t 15),.aF 7 (.t 16)]) .ret) .skip))) (.seq (.seq (.ops [.load 17 (some 2) (.t 5),.aC 18 (.t 4) 0,.load 19 none (.t 18),.call 20 131 [(.t 17),(.t 19)],.un 21 .not (.t 20)]) (.cond (.t 21) (.seq (.ops [.build 22 [(.int .i64 0),(.list 1 [])] [],.store none 2 (.t 6) (.t 22),.aF 7 (.c (.int .i64 2))]) .ret) .skip)) (.seq (.ops [.aC 23 (.t 4) 1,.load 24 none (.t 23),.call 25 80 [(.t 24)],.aF 9 (.t 25)]) (.seq (.seq (.ops [.aj 26 (.t 9),.len 27 (.t 26),.aj 28 (.c (.int .i64 0))])
    EW) (.seq (.ops [.aC 51 (.t 4) 0,.load 52 none (.t 51),.aj 53 (.t 9),.build 54 [(.int .i64 0),(.list 1 [])] [(0,1,(.t 52)),(1,1,(.t 53))],.store none 2 (.t 6) (.t 54),.aF 7 (.c (.int .i64 0))]) .ret))))))⟩
def EY:ay:=(.seq (.seq (.ops [.aj 24 (.t 5),.bin 25 .neq (.t 24) (.c (.int .u64 0))]) (.cond (.t 25) .skip (.exit 2))) (.block 3 (.seq (.seq (.ops [.aj 26 (.t 0),.aj 27 (.t 4),.bin 28 .mul (.t 27) (.c (.int .i64 64)),.aj 29 (.t 5),.call 30 126 [(.t 29)],.bin 31 .add (.t 28) (.t 30),.yield 32 (.t 26) [(.t 31)],.un 33 .not (.t 32)]) (.cond (.t 33) .ret .skip)) (.ops [.aj 34 (.t 5),.aj 35 (.t 5),.bin 36 .sub (.t 35) (.c (.int .u64 1)),.bin 37 .and (.t 34) (.t 36),.aF 5 (.t 37)]))))
def EZ:ay :=
(.clean [0,1,2,4,5,10,11,12] [0,1,2,10,11,12] (.block 2 (.loop [0,1,2,4,5,10,11,12] EY)))
def E5:ay:=(.seq (.ops [.bin 13 .lss (.t 12) (.t 11)]) (.seq (.cond (.t 13) .skip (.exit 0)) (.seq (.block 1 (.seq (.ops [.aj 14 (.t 12),.bT 15 1 (.t 10) (.t 12),.load 16 none (.t 15),.aF 4 (.t 14),.aF 5 (.t 16)]) (.seq (.ops [.aj 17 (.t 5),.aj 18 (.t 4),.load 19 none (.t 2),.aC 20 (.t 1) 0,.load 21 none (.t 20),.call 22 125 [(.t 18),(.t 19),(.t 21)],.bin 23 .and (.t 17) (.t 22),.aF 5 (.t 23)])
    EZ))) (.ops [.bin 38 .add (.t 12) (.c (.int .i64 1)),.aj 12 (.t 38)]))))
def E8:ay :=
(.clean [0,1,2,10,11,12] [] (.block 0 (.loop [0,1,2,10,11,12] E5)))
def P7:gy:=⟨3,39,[],(.seq (.seq (.ops [.load 6 (some 2) (.t 1),.call 7 91 [(.t 6)],.bin 8 .neq (.t 7) (.c (.int .i64 0))]) (.cond (.t 8) .ret .skip)) (.seq (.ops [.aC 9 (.t 1) 1,.load 10 none (.t 9),.len 11 (.t 10),.aj 12 (.c (.int .i64 0))])
  E8))⟩
def I7:gy:=⟨3,27,[.tmp 6],(.seq (.ops [.aF 6 (.c (.int .u64 0))]) (.seq (.ops [.aj 7 (.t 1),.aj 8 (.t 0),.bin 9 .mul (.t 8) (.c (.int .i64 64)),.bin 10 .sub (.t 7) (.t 9),.mn 11 true (.t 10) (.c (.int .i64 0)),.aj 12 (.t 2),.aj 13 (.t 0),.bin 14 .mul (.t 13) (.c (.int .i64 64)),.bin 15 .sub (.t 12) (.t 14),.mn 16 false (.t 15) (.c (.int .i64 64)),.aF 1 (.t 11),.aF 2 (.t 16)]) (.seq (.seq (.ops [.aj 17 (.t 1),.aj 18 (.t 2),.bin 19 .geq (.t 17) (.t 18)]) (.cond (.t 19) (.seq (.ops [.aF 6 (.c (.int .u64 0))]) .ret) .skip)) (.seq (.ops [.aj 20 (.t 2),.aj 21 (.t 1),.bin 22 .sub (.t 20) (.t 21),.bin 23 .sub (.c (.int .i64 64)) (.t 22),.bin 24 .shr (.c (.int .u64 18446744073709551615)) (.t 23),.aj 25 (.t 1),.bin 26 .shl (.t 24) (.t 25),.aF 6 (.t 26)]) .ret))))⟩
def P8:gy:=⟨1,5,[.tmp 2],(.seq (.ops [.aF 2 (.nil 2)]) (.seq (.ops [.aj 3 (.t 0),.call 4 132 [(.c (.lY 2)),(.t 3)],.aF 2 (.t 4)]) .ret))⟩
def P9:gy:=⟨3,8,[.tmp 6],(.seq (.ops [.box 3 (.t 0),.box 4 (.t 1),.box 5 (.t 2),.aF 6 (.c .nJ)]) (.seq (.ops [.Rn 7 133 [(.t 3),(.t 4),(.t 5)],.aF 6 (.t 7)]) .ret))⟩
def Qc:gy:=⟨2,9,[.tmp 4],(.seq (.ops [.aF 4 (.c (.bool false))]) (.seq (.ops [.aj 5 (.t 0),.aj 6 (.t 5),.grd 6 false (.aj 7 (.t 1)),.pick 8 (.t 6) (.c (.bool true)) (.t 7),.aF 4 (.t 8)]) .ret))⟩
def CP:gy:=⟨2,28,[.tmp 4],(.seq (.ops [.box 2 (.t 0),.aF 4 (.c (.bool false))]) (.seq (.ops [.aC 5 (.t 2) 0,.load 6 none (.t 5),.bin 7 .geq (.t 6) (.c (.int .i64 0)),.aj 8 (.t 7),.grd 8 true (.aC 9 (.t 2) 1),.grd 8 true (.load 10 none (.t 9)),.grd 8 true (.bin 11 .geq (.t 10) (.c (.int .i64 0))),.pick 12 (.t 8) (.t 11) (.c (.bool false)),.aj 13 (.t 12),.grd 13 true (.aC 14 (.t 2) 0),.grd 13 true (.load 15 none (.t 14)),.grd 13 true (.aj 16 (.t 1)),.grd 13 true (.bin 17 .leq (.t 15) (.t 16)),.pick 18 (.t 13) (.t 17) (.c (.bool false)),.aj 19 (.t 18),.grd 19 true (.aC 20 (.t 2) 1),.grd 19 true (.load 21 none (.t 20)),.grd 19 true (.aj 22 (.t 1)),.grd 19 true (.aC 23 (.t 2) 0),.grd 19 true (.load 24 none (.t 23)),.grd 19 true (.bin 25 .sub (.t 22) (.t 24)),.grd 19 true (.bin 26 .leq (.t 21) (.t 25)),.pick 27 (.t 19) (.t 26) (.c (.bool false)),.aF 4 (.t 27)]) .ret))⟩
def Qd:ay:=(.ops [.alloc 5 [(.int .i64 0),(.int .i64 0)],.store none 2 (.t 5) (.t 7)])
def Qe:ay:=(.block 1 (.ops [.load 8 none (.t 2),.load 9 (some 2) (.t 5),.iF 10 2 [(.t 9)],.app 11 2 (.t 8) (.t 10),.store none 1 (.t 2) (.t 11)]))
def Qg:gy:=⟨2,13,[.tmp 4],(.seq (.ops [.box 2 (.t 0),.aF 4 (.nil 2)]) (.seq (.seq (.ops [.aj 6 (.t 1)]) (.block 0 (.rng (.t 6) [7] Qd Qe))) (.seq (.ops [.load 12 none (.t 2),.aF 4 (.t 12)]) .ret)))⟩
def oK:ay:=(.seq (.ops [.bin 19 .lss (.t 18) (.t 17)]) (.seq (.cond (.t 19) .skip (.exit 0)) (.seq (.block 1 (.seq (.ops [.aj 20 (.t 18),.bT 21 3 (.t 16) (.t 18),.load 22 (some 3) (.t 21),.alloc 10 [(.int .i64 0),(.int .i64 0),(.int .i64 0)],.aF 9 (.t 20),.store none 3 (.t 10) (.t 22)]) (.seq (.xW [] [] (some ([0,1,2,3,4,5,6,7],[],8,[])) [] [.aC 23 (.t 10) 1,.load 24 none (.t 23),.xM 25 (.t 6) (.t 24) 2 1,.load 26 none (.t 25),.aC 27 (.t 10) 2,.load 28 none (.t 27),.bin 29 .add (.t 26) (.t 28),.xM 30 (.t 6) (.t 24) 2 1,.store none 1 (.t 30) (.t 29)]) (.seq (.seq (.xW [] [] none [0,1,2,3,4,5,6,7,8,9,10,11,12,13,14,15] [.aj 31 (.t 9),.bin 32 .add (.t 31) (.c (.int .i64 1)),.aj 33 (.t 5),.len 34 (.t 33),.bin 35 .lss (.t 32) (.t 34),.aj 36 (.t 35),.grd 36 true (.aj 37 (.t 5)),.grd 36 true (.aj 38 (.t 9)),.grd 36 true (.bin 39 .add (.t 38) (.c (.int .i64 1))),.grd 36 true (.bT 40 3 (.t 37) (.t 39)),.grd 36 true (.aC 41 (.t 40) 0),.grd 36 true (.load 42 none (.t 41)),.grd 36 true (.aC 43 (.t 10) 0),.grd 36 true (.load 44 none (.t 43)),.grd 36 true (.bin 45 .eql (.t 42) (.t 44)),.pick 46 (.t 36) (.t 45) (.c (.bool false))]) (.cond (.t 46) (.exit 1) .skip)) (.seq (.ops [.load 47 none (.t 3),.xM 48 (.t 6) (.c (.int .i64 0)) 2 1,.load 49 none (.t 48),.bin 50 .gtr (.t 49) (.c (.int .i64 0)),.xM 51 (.t 6) (.c (.int .i64 1)) 2 1,.load 52 none (.t 51),.bin 53 .gtr (.t 52) (.c (.int .i64 0)),.kL 54 (.t 47) [(.t 50),(.t 53)],.aF 11 (.t 54)]) (.seq (.seq (.ops [.aj 55 (.t 11),.aj 56 (.t 55),.grd 56 true (.aj 57 (.t 8)),.grd 56 true (.un 58 .not (.t 57)),.pick 59 (.t 56) (.t 58) (.c (.bool false))]) (.cond (.t 59) (.ops [.aC 60 (.t 10) 0,.load 61 none (.t 60),.aF 7 (.t 61)]) .skip)) (.seq (.seq (.ops [.aj 62 (.t 11),.un 63 .not (.t 62),.aj 64 (.t 63),.grd 64 true (.aj 65 (.t 8)),.pick 66 (.t 64) (.t 65) (.c (.bool false)),.aj 67 (.t 66),.grd 67 true (.aj 68 (.t 0)),.grd 67 true (.aj 69 (.t 7)),.grd 67 true (.aC 70 (.t 10) 0),.grd 67 true (.load 71 none (.t 70)),.grd 67 true (.aj 72 (.t 7)),.grd 67 true (.bin 73 .sub (.t 71) (.t 72)),.grd 67 true (.build 74 [(.int .i64 0),(.int .i64 0)] [(0,1,(.t 69)),(1,1,(.t 73))]),.grd 67 true (.yield 75 (.t 68) [(.t 74)]),.grd 67 true (.un 76 .not (.t 75)),.pick 77 (.t 67) (.t 76) (.c (.bool false))]) (.cond (.t 77) .ret .skip)) (.ops [.aj 78 (.t 11),.aF 8 (.t 78)])))))))) (.ops [.bin 79 .add (.t 18) (.c (.int .i64 1)),.aj 18 (.t 79)]))))
def Fa:ay :=
(.clean [0,3,5,6,7,8,15,16,17,18] [] (.block 0 (.loop [0,3,5,6,7,8,15,16,17,18] oK)))
def Qh:gy:=⟨4,80,[],(.seq (.ops [.load 12 none (.t 1),.load 13 none (.t 2),.iF 14 1 [(.t 12),(.t 13)],.call 15 134 [(.t 14)],.aF 5 (.t 15)]) (.seq (.ops [.alloc 6 [(.int .i64 0),(.int .i64 0)]]) (.seq (.ops [.aF 7 (.c (.int .i64 0)),.aF 8 (.c (.bool false))]) (.seq (.ops [.aj 16 (.t 5),.len 17 (.t 16),.aj 18 (.c (.int .i64 0))])
   Fa))))⟩
def zM:ay:=(.seq (.ops [.bin 21 .lss (.t 20) (.t 19)]) (.seq (.cond (.t 21) .skip (.exit 2)) (.seq (.block 3 (.seq (.ops [.bT 22 2 (.t 18) (.t 20),.load 23 (some 2) (.t 22),.alloc 7 [(.int .i64 0),(.int .i64 0)],.store none 2 (.t 7) (.t 23)]) (.seq (.ops [.load 25 (some 2) (.t 7),.call 26 135 [(.t 25)],.aj 24 (.t 26),.ext 27 (.t 24) 0,.ext 28 (.t 24) 1,.ext 29 (.t 24) 2,.aF 8 (.t 27),.aF 9 (.t 28),.aF 10 (.t 29)]) (.seq (.ops [.aj 30 (.t 10)]) (.cond (.t 30) (.ops [.aj 31 (.t 3),.aj 32 (.t 8),.aj 33 (.t 4),.build 34 [(.int .i64 0),(.int .i64 0),(.int .i64 0)] [(0,1,(.t 32)),(1,1,(.t 33)),(2,1,(.c (.int .i64 1)))],.aj 35 (.t 9),.aj 36 (.t 4),.build 37 [(.int .i64 0),(.int .i64 0),(.int .i64 0)] [(0,1,(.t 35)),(1,1,(.t 36)),(2,1,(.c (.int .i64 (-1))))],.iF 38 3 [(.t 34),(.t 37)],.app 39 3 (.t 31) (.t 38),.aF 3 (.t 39)]) .skip))))) (.ops [.bin 40 .add (.t 20) (.c (.int .i64 1)),.aj 20 (.t 40)]))))
def Fb:ay :=
(.clean [0,3,4,5,11,12,13,17,18,19,20,39] [0,2,3,11,12,13,39] (.block 2 (.loop [0,3,4,5,11,12,13,17,18,19,20,39] zM)))
def Fe:ay:=(.seq (.ops [.bin 14 .lss (.t 13) (.t 12)]) (.seq (.cond (.t 14) .skip (.exit 0)) (.seq (.block 1 (.seq (.ops [.aj 15 (.t 13),.bT 16 1 (.t 11) (.t 13),.load 17 none (.t 16),.aF 4 (.t 15),.aF 5 (.t 17)]) (.seq (.ops [.aj 18 (.t 5),.len 19 (.t 18),.aj 20 (.c (.int .i64 0))])
    Fb))) (.ops [.bin 41 .add (.t 13) (.c (.int .i64 1)),.aj 13 (.t 41)]))))
def Fg:ay :=
(.clean [0,3,11,12,13,39] [2,3] (.block 0 (.loop [0,3,11,12,13,39] Fe)))
def Qi:gy:=⟨1,45,[.tmp 2],(.seq (.ops [.aF 2 (.nil 3)]) (.seq (.ops [.aF 3 (.nil 3)]) (.seq (.seq (.ops [.aj 11 (.t 0),.len 12 (.t 11),.aj 13 (.c (.int .i64 0))])
   Fg) (.seq (.ops [.aj 42 (.t 3),.BM 43 136 (.t 42) (.c (.func 137 []))]) (.seq (.ops [.aj 44 (.t 3),.aF 2 (.t 44)]) .ret)))))⟩
def CQ:gy:=⟨1,35,[.tmp 2,.tmp 3,.tmp 4],(.seq (.ops [.box 1 (.t 0),.aF 2 (.c (.int .i64 0)),.aF 3 (.c (.int .i64 0)),.aF 4 (.c (.bool false))]) (.seq (.seq (.ops [.aC 7 (.t 1) 1,.load 8 none (.t 7),.bin 9 .leq (.t 8) (.c (.int .i64 0))]) (.cond (.t 9) (.seq (.ops [.aF 2 (.c (.int .i64 0)),.aF 3 (.c (.int .i64 0)),.aF 4 (.c (.bool false))]) .ret) .skip)) (.seq (.ops [.aC 10 (.t 1) 0,.load 11 none (.t 10),.mn 12 true (.t 11) (.c (.int .i64 0)),.aF 5 (.t 12),.aF 6 (.c (.int .i64 4096))]) (.seq (.seq (.ops [.aC 13 (.t 1) 0,.load 14 none (.t 13),.bin 15 .lss (.t 14) (.c (.int .i64 0)),.aj 16 (.t 15),.grd 16 false (.aC 17 (.t 1) 1),.grd 16 false (.load 18 none (.t 17)),.grd 16 false (.aC 19 (.t 1) 0),.grd 16 false (.load 20 none (.t 19)),.grd 16 false (.bin 21 .sub (.c (.int .i64 4096)) (.t 20)),.grd 16 false (.bin 22 .lss (.t 18) (.t 21)),.pick 23 (.t 16) (.c (.bool true)) (.t 22)]) (.cond (.t 23) (.ops [.aC 24 (.t 1) 0,.load 25 none (.t 24),.aC 26 (.t 1) 1,.load 27 none (.t 26),.bin 28 .add (.t 25) (.t 27),.mn 29 false (.t 28) (.c (.int .i64 4096)),.aF 6 (.t 29)]) .skip)) (.seq (.ops [.aj 30 (.t 5),.aj 31 (.t 6),.aj 32 (.t 5),.aj 33 (.t 6),.bin 34 .lss (.t 32) (.t 33),.aF 2 (.t 30),.aF 3 (.t 31),.aF 4 (.t 34)]) .ret)))))⟩
def ace:gy:=⟨2,10,[.tmp 4],(.seq (.ops [.box 2 (.t 0),.box 3 (.t 1),.aF 4 (.c (.int .i64 0))]) (.seq (.ops [.aC 5 (.t 2) 0,.load 6 none (.t 5),.aC 7 (.t 3) 0,.load 8 none (.t 7),.call 9 138 [(.t 6),(.t 8)],.aF 4 (.t 9)]) .ret))⟩
def acf:gy:=⟨2,20,[.tmp 4],(.seq (.ops [.aF 4 (.c (.int .i64 0))]) (.seq (.ops [.aj 7 (.t 0),.call 8 141 [(.t 7)],.aF 5 (.t 8)]) (.seq (.ops [.aj 9 (.t 1),.call 10 141 [(.t 9)],.aF 6 (.t 10)]) (.seq (.seq (.ops [.aj 11 (.t 5)]) (.cond (.t 11) (.seq (.seq (.ops [.aj 12 (.t 6)]) (.cond (.t 12) (.seq (.ops [.aF 4 (.c (.int .i64 0))]) .ret) .skip)) (.seq (.ops [.aF 4 (.c (.int .i64 (-1)))]) .ret)) .skip)) (.seq (.seq (.ops [.aj 13 (.t 6)]) (.cond (.t 13) (.seq (.ops [.aF 4 (.c (.int .i64 1))]) .ret) .skip)) (.seq (.seq (.ops [.aj 14 (.t 0),.aj 15 (.t 1),.bin 16 .lss (.t 14) (.t 15)]) (.cond (.t 16) (.seq (.ops [.aF 4 (.c (.int .i64 (-1)))]) .ret) .skip)) (.seq (.seq (.ops [.aj 17 (.t 0),.aj 18 (.t 1),.bin 19 .gtr (.t 17) (.t 18)]) (.cond (.t 19) (.seq (.ops [.aF 4 (.c (.int .i64 1))]) .ret) .skip)) (.seq (.ops [.aF 4 (.c (.int .i64 0))]) .ret))))))))⟩
def acg:gy:=⟨1,6,[.tmp 2],(.seq (.ops [.aF 2 (.c (.bool false))]) (.seq (.ops [.aj 3 (.t 0),.aj 4 (.t 0),.bin 5 .neq (.t 3) (.t 4),.aF 2 (.t 5)]) .ret))⟩
def tab:List (Nat × ZO):=[(7,.code fn7),(10,.code abD),(11,.code Py),(15,.code Uo),(16,.code Ku),(18,.code Ur),(20,.code zF),(23,.code Hf),(26,.code EL),(28,.code abE),(29,.code abG),(30,.code abH),(31,.code YH),(32,.code abI),(33,.code abJ),(34,.code abK),(35,.code YI),(36,.code aiZ),(37,.code ai0),(38,.code YJ),(39,.ext (lK 1)),(42,.code KI),(43,.code abL),(44,.code YK),(45,.code abM),(48,.code abN),(49,.code abO),(52,.code ai1),(53,.code abP),(54,.code YL),(55,.code abQ),(56,.code abR),(57,.code abS),(59,.code YM),(60,.code YN),(61,.code abT),(62,.code abU),(63,.code abV),(64,.code abW),(65,.code Us),(66,.code abX),(67,.code LC),(68,.code abY),(69,.code abZ),(70,.code ab1),(72,.code YO),(73,.code Ut),(74,.code YP),(75,.code ab2),(76,.code ab3),(77,.code YQ),(78,.code Uu),(79,.code ab4),(80,.ext (lK 1)),(86,.ext (lK 8)),(87,.code ab5),(88,.code Pz),(89,.code YR),(90,.code YS),(91,.code Hg),(93,.code ai2),(94,.code ab6),(95,.code ab7),(97,.code ab8),(98,.code ab9),(99,.code acd),(100,.ext uG),(101,.code PD),(102,.code PE),(103,.code PG),(104,.code PI),(105,.code PK),(106,.code PL),(107,.code PN),(108,.code PO),(109,.code PS),(112,.code PU),(113,.code PW),(114,.code PX),(115,.BM Px),(116,.code PY),(118,.code I5),(119,.code PZ),(120,.code P5),(121,.code P6),(122,.code EX),(124,.code P7),(125,.code I7),(126,.ext tzX),(128,.code P8),(129,.code P9),(130,.code Qc),(131,.code CP),(132,.code Qg),(133,.code Qh),(134,.code Qi),(135,.code CQ),(136,.BM (lW 137)),(137,.code ace),(138,.code acf),(141,.code acg)]
def env:Env:=fun f=>tab.lookup f
theorem alL:env 7=some (.code fn7):=rfl
theorem alM:env 10=some (.code abD):=rfl
theorem VT:env 11=some (.code Py):=rfl
theorem ach:env 15=some (.code Uo):=rfl
theorem Qj:env 16=some (.code Ku):=rfl
theorem aci:env 18=some (.code Ur):=rfl
theorem xQ:env 20=some (.code zF):=rfl
theorem I8:env 23=some (.code Hf):=rfl
theorem Fh:env 26=some (.code EL):=rfl
theorem alN:env 28=some (.code abE):=rfl
theorem alO:env 29=some (.code abG):=rfl
theorem alP:env 30=some (.code abH):=rfl
theorem ahF:env 31=some (.code YH):=rfl
theorem alQ:env 32=some (.code abI):=rfl
theorem alR:env 33=some (.code abJ):=rfl
theorem alS:env 34=some (.code abK):=rfl
theorem ahG:env 35=some (.code YI):=rfl
theorem ahH:env 38=some (.code YJ):=rfl
theorem alT:env 39=some (.ext (lK 1)):=rfl
theorem Qk:env 42=some (.code KI):=rfl
theorem alU:env 43=some (.code abL):=rfl
theorem ahI:env 44=some (.code YK):=rfl
theorem alV:env 45=some (.code abM):=rfl
theorem alW:env 48=some (.code abN):=rfl
theorem alX:env 49=some (.code abO):=rfl
theorem alY:env 53=some (.code abP):=rfl
theorem ahJ:env 54=some (.code YL):=rfl
theorem alZ:env 55=some (.code abQ):=rfl
theorem al0:env 56=some (.code abR):=rfl
theorem al1:env 57=some (.code abS):=rfl
theorem ahK:env 59=some (.code YM):=rfl
theorem ahL:env 60=some (.code YN):=rfl
theorem al2:env 61=some (.code abT):=rfl
theorem al3:env 62=some (.code abU):=rfl
theorem al4:env 63=some (.code abV):=rfl
theorem al5:env 64=some (.code abW):=rfl
theorem acj:env 65=some (.code Us):=rfl
theorem al6:env 66=some (.code abX):=rfl
theorem Ql:env 67=some (.code LC):=rfl
theorem al7:env 68=some (.code abY):=rfl
theorem al8:env 69=some (.code abZ):=rfl
theorem al9:env 70=some (.code ab1):=rfl
theorem ahM:env 72=some (.code YO):=rfl
theorem acn:env 73=some (.code Ut):=rfl
theorem ahN:env 74=some (.code YP):=rfl
theorem ama:env 75=some (.code ab2):=rfl
theorem amb:env 76=some (.code ab3):=rfl
theorem amc:env 77=some (.code YQ):=rfl
theorem aco:env 78=some (.code Uu):=rfl
theorem amd:env 79=some (.code ab4):=rfl
theorem ahO:env 80=some (.ext (lK 1)):=rfl
theorem ame:env 86=some (.ext (lK 8)):=rfl
theorem amf:env 87=some (.code ab5):=rfl
theorem VU:env 88=some (.code Pz):=rfl
theorem ahP:env 89=some (.code YR):=rfl
theorem ahQ:env 90=some (.code YS):=rfl
theorem I9:env 91=some (.code Hg):=rfl
theorem amg:env 94=some (.code ab6):=rfl
theorem amh:env 95=some (.code ab7):=rfl
theorem ami:env 97=some (.code ab8):=rfl
theorem amj:env 98=some (.code ab9):=rfl
theorem amk:env 99=some (.code acd):=rfl
theorem ai3:env 100=some (.ext uG):=rfl
theorem ai4:env 101=some (.code PD):=rfl
theorem ai5:env 102=some (.code PE):=rfl
theorem ai6:env 103=some (.code PG):=rfl
theorem ai7:env 104=some (.code PI):=rfl
theorem ai8:env 105=some (.code PK):=rfl
theorem ai9:env 106=some (.code PL):=rfl
theorem aja:env 107=some (.code PN):=rfl
theorem ajb:env 108=some (.code PO):=rfl
theorem ajc:env 109=some (.code PS):=rfl
theorem ajd:env 112=some (.code PU):=rfl
theorem aje:env 113=some (.code PW):=rfl
theorem ajf:env 114=some (.code PX):=rfl
theorem ajg:env 115=some (.BM Px):=rfl
theorem ajh:env 116=some (.code PY):=rfl
theorem acp:env 118=some (.code I5):=rfl
theorem aji:env 119=some (.code PZ):=rfl
theorem ajj:env 120=some (.code P5):=rfl
theorem ajk:env 121=some (.code P6):=rfl
theorem Uw:env 122=some (.code EX):=rfl
theorem ajl:env 124=some (.code P7):=rfl
theorem acr:env 125=some (.code I7):=rfl
theorem ajm:env 126=some (.ext tzX):=rfl
theorem ajn:env 128=some (.code P8):=rfl
theorem ajo:env 129=some (.code P9):=rfl
theorem ajp:env 130=some (.code Qc):=rfl
theorem Me:env 131=some (.code CP):=rfl
theorem ajq:env 132=some (.code Qg):=rfl
theorem ajr:env 133=some (.code Qh):=rfl
theorem ajs:env 134=some (.code Qi):=rfl
theorem MB:env 135=some (.code CQ):=rfl
theorem acs:env 136=some (.BM (lW 137)):=rfl
end Go.Proofs.YtpcncggjmabnaaaGreatDoor

namespace Go.Proofs.YtpcncggjmabnaaaGreatDoor
open V
def yA:=(And.intro (And.intro (And.intro (And.intro (And.intro (And.intro (And.intro (And.intro @OY (And.intro @aaU @aaV)) (And.intro (And.intro @afk @OZ) (And.intro @O1 @aaT))) (And.intro (And.intro (And.intro @J7 @aaY) (And.intro @afg @Tf)) (And.intro (And.intro @Tj @OU) (And.intro @OV @afh)))) (And.intro (And.intro (And.intro (And.intro @J6 @OW) (And.intro @XT @XU)) (And.intro (And.intro @dH @List.foldl_nil.{0,0}) (And.intro @List.foldl_cons.{0,0} @afd))) (And.intro (And.intro (And.intro @afe @afi) (And.intro @aaP @IL)) (And.intro (And.intro @aaR @afj) (And.intro @OX @XW))))) (And.intro (And.intro (And.intro (And.intro @aaS (And.intro @Dh @J8)) (And.intro (And.intro @G9 @O6) (And.intro @aaZ @XY))) (And.intro (And.intro (And.intro @Tq @afl) (And.intro @Td @CG)) (And.intro (And.intro @O7 @TD) (And.intro @O8 @TF)))) (And.intro (And.intro (And.intro (And.intro @fU.eq_1 @fU.eq_2) (And.intro @fU.eq_3 @resultList.eq_1)) (And.intro (And.intro @resultList.eq_2 @oG.eq_1) (And.intro @oG.eq_2 @oG.eq_3))) (And.intro (And.intro (And.intro @zBV.eq_1 @zBV.eq_2) (And.intro @splice.eq_1 @PV.vw.eq_1)) (And.intro (And.intro @PV.vw.eq_2 @PV.vw.eq_3) (And.intro @PV.vw.eq_4 @St.iQ.eq_1)))))) (And.intro (And.intro (And.intro (And.intro (And.intro @St.bF.eq_1 (And.intro @St.fQ.eq_1 @St.fQ.eq_2)) (And.intro (And.intro @PV.single.eq_1 @PV.single.eq_2) (And.intro @aa1 @X4))) (And.intro (And.intro (And.intro @afu @aa2) (And.intro @aa3 @X6)) (And.intro (And.intro @aa4 @X7) (And.intro @afw @aa6)))) (And.intro (And.intro (And.intro (And.intro @afx @aa7) (And.intro @aa8 @afy)) (And.intro (And.intro @afz @afA) (And.intro @afB @dH))) (And.intro (And.intro (And.intro @dH @afC) (And.intro @dH @dH)) (And.intro (And.intro @dH @dH) (And.intro @afN @afJ))))) (And.intro (And.intro (And.intro (And.intro @afH (And.intro @afD @afF)) (And.intro (And.intro @dH @afL) (And.intro @aiU @aa9))) (And.intro (And.intro (And.intro @abb @abd) (And.intro @abe @abf)) (And.intro (And.intro @dH @afQ) (And.intro @afR @afS)))) (And.intro (And.intro (And.intro (And.intro @dH @afT) (And.intro @X8 @aiV)) (And.intro (And.intro @afU @X9) (And.intro @afV @Ya))) (And.intro (And.intro (And.intro @abg @abh) (And.intro @afW @dH)) (And.intro (And.intro @dH @dH) (And.intro @Yb @afX))))))) (And.intro (And.intro (And.intro (And.intro (And.intro (And.intro @afY (And.intro @afZ @af0)) (And.intro (And.intro @dH @dH) (And.intro @afP @dH))) (And.intro (And.intro (And.intro @dH @dH) (And.intro @dH @afO)) (And.intro (And.intro @afK @afI) (And.intro @afE @afG)))) (And.intro (And.intro (And.intro (And.intro @dH @afM) (And.intro @aiW @abj)) (And.intro (And.intro @abk @abl) (And.intro @abm @abn))) (And.intro (And.intro (And.intro @dH @af2) (And.intro @af4 @af5)) (And.intro (And.intro @dH @af6) (And.intro @Yc @aiX))))) (And.intro (And.intro (And.intro (And.intro @af7 (And.intro @Yd @af8)) (And.intro (And.intro @Ye @abo) (And.intro @abp @af9))) (And.intro (And.intro (And.intro @dH @dH) (And.intro @dH @Yf)) (And.intro (And.intro @plain.eq_1 @plain.eq_2) (And.intro @plain.eq_3 @plain.eq_4)))) (And.intro (And.intro (And.intro (And.intro @plain.eq_5 @plain.eq_6) (And.intro @plain.eq_7 @plain.eq_8)) (And.intro (And.intro @plain.eq_9 @plain.eq_10) (And.intro @plain.eq_11 @plain.eq_12))) (And.intro (And.intro (And.intro @plain.eq_13 @plain.eq_14) (And.intro @plain.eq_15 @plain.eq_16)) (And.intro (And.intro @plain.eq_17 @plain.eq_18) (And.intro @plain.eq_19 @plain.eq_20)))))) (And.intro (And.intro (And.intro (And.intro (And.intro @plain.eq_21 (And.intro @plain.eq_22 @plain.eq_23)) (And.intro (And.intro @plain.eq_24 @plain.eq_25) (And.intro @plain.eq_26 @plain.eq_27))) (And.intro (And.intro (And.intro @plain.eq_28 @plain.eq_29) (And.intro @plain.eq_30 @plain.eq_31)) (And.intro (And.intro @plain.eq_32 @plain.eq_33) (And.intro @act.eq_1 @act.eq_2)))) (And.intro (And.intro (And.intro (And.intro @act.eq_3 @act.eq_4) (And.intro @act.eq_5 @act.eq_6)) (And.intro (And.intro @act.eq_7 @act.eq_8) (And.intro @act.eq_9 @act.eq_10))) (And.intro (And.intro (And.intro @act.eq_11 @act.eq_12) (And.intro @act.eq_13 @act.eq_14)) (And.intro (And.intro @act.eq_15 @act.eq_16) (And.intro @act.eq_17 @act.eq_18))))) (And.intro (And.intro (And.intro (And.intro (And.intro @act.eq_19 @bZ.eq_1) (And.intro @bZ.eq_2 @bZ.eq_3)) (And.intro (And.intro @bZ.eq_4 @bZ.eq_5) (And.intro @bZ.eq_6 @bZ.eq_7))) (And.intro (And.intro (And.intro @bZ.eq_8 @bZ.eq_9) (And.intro @bZ.eq_10 @bZ.eq_11)) (And.intro (And.intro @bZ.eq_12 @bZ.eq_13) (And.intro @bZ.eq_14 @bZ.eq_15)))) (And.intro (And.intro (And.intro (And.intro @bZ.eq_16 @bZ.eq_17) (And.intro @bZ.eq_18 @bZ.eq_19)) (And.intro (And.intro @bZ.eq_20 @bZ.eq_21) (And.intro @bZ.eq_22 @bZ.eq_23))) (And.intro (And.intro (And.intro @bZ.eq_24 @bZ.eq_25) (And.intro @bZ.eq_26 @bZ.eq_27)) (And.intro (And.intro @bZ.eq_28 @bZ.eq_29) (And.intro @bZ.eq_30 @bZ.eq_31)))))))) (And.intro (And.intro (And.intro (And.intro (And.intro (And.intro (And.intro @bZ.eq_32 (And.intro @bZ.eq_33 @bZ.eq_34)) (And.intro (And.intro @bZ.eq_35 @bZ.eq_36) (And.intro @bZ.eq_37 @bZ.eq_38))) (And.intro (And.intro (And.intro @bZ.eq_39 @bZ.eq_40) (And.intro @bZ.eq_41 @bZ.eq_42)) (And.intro (And.intro @bZ.eq_43 @bZ.eq_44) (And.intro @bZ.eq_45 @bZ.eq_46)))) (And.intro (And.intro (And.intro (And.intro @bZ.eq_47 @bZ.eq_48) (And.intro @bZ.eq_49 @Bool.false_eq_true)) (And.intro (And.intro @if_true.{1} @if_false.{1}) (And.intro @TG @O9))) (And.intro (And.intro (And.intro @St.get.eq_1 @St.get.eq_2) (And.intro @St.get.eq_3 @St.put.eq_1)) (And.intro (And.intro @St.dA.eq_1 @St.putRow.eq_1) (And.intro @St.consume.eq_1 @St.consume.eq_2))))) (And.intro (And.intro (And.intro (And.intro @St.consume.eq_3 (And.intro @St.freeze.eq_1 @St.row.eq_1)) (And.intro (And.intro @St.row.eq_2 @St.row.eq_3) (And.intro @St.elems.eq_1 @St.grab.eq_1))) (And.intro (And.intro (And.intro @St.grab.eq_2 @St.grab.eq_3) (And.intro @qL.eq_1 @qL.eq_2)) (And.intro (And.intro @qL.eq_3 @qL.eq_4) (And.intro @Xg.eq_1 @Xg.eq_2)))) (And.intro (And.intro (And.intro (And.intro @jW.eq_1 @jW.eq_2) (And.intro @jW.eq_3 @jW.eq_4)) (And.intro (And.intro @St.takeRow.eq_1 @St.takeRow.eq_2) (And.intro @St.takeRow.eq_3 @St.setRow.eq_1))) (And.intro (And.intro (And.intro @St.setRow.eq_2 @St.setRow.eq_3) (And.intro @St.place.eq_1 @St.place.eq_2)) (And.intro (And.intro @St.xP.eq_1 @St.xP.eq_2) (And.intro @St.setCell.eq_1 @St.jV.eq_1)))))) (And.intro (And.intro (And.intro (And.intro (And.intro @BN.eq_1 (And.intro @BN.eq_2 @BN.eq_3)) (And.intro (And.intro @BN.eq_4 @DW.eq_1) (And.intro @DW.eq_2 @DW.eq_3))) (And.intro (And.intro (And.intro @DW.eq_4 @gQ.eq_1) (And.intro @gQ.eq_2 @gQ.eq_3)) (And.intro (And.intro @gQ.eq_4 @gQ.eq_5) (And.intro @gQ.eq_6 @gQ.eq_7)))) (And.intro (And.intro (And.intro (And.intro @gQ.eq_8 @gQ.eq_9) (And.intro @gQ.eq_10 @gQ.eq_11)) (And.intro (And.intro @gQ.eq_12 @gQ.eq_13) (And.intro @gQ.eq_14 @gQ.eq_15))) (And.intro (And.intro (And.intro @gQ.eq_16 @gQ.eq_17) (And.intro @Xf.eq_1 @Xf.eq_2)) (And.intro (And.intro @Xf.eq_3 @Xf.eq_4) (And.intro @BV.val.eq_1 @BV.val.eq_2))))) (And.intro (And.intro (And.intro (And.intro @BV.av.eq_1 (And.intro @BV.av.eq_2 @Yz)) (And.intro (And.intro @Uj @YA) (And.intro @Uk @cells_func))) (And.intro (And.intro (And.intro @YB @Pv) (And.intro @IX @IY)) (And.intro (And.intro @abq @Yg) (And.intro @Yh @TQ)))) (And.intro (And.intro (And.intro (And.intro @abr @Yj) (And.intro @Yi @Yk)) (And.intro (And.intro @TS @TU) (And.intro @TV @TW))) (And.intro (And.intro (And.intro @abt @Yl) (And.intro @Ym @TY)) (And.intro (And.intro @abu @Yo) (And.intro @Yn @Yp))))))) (And.intro (And.intro (And.intro (And.intro (And.intro (And.intro @Ub (And.intro @Ua @Ud)) (And.intro (And.intro @Uc @abv) (And.intro @Yq @Yr))) (And.intro (And.intro (And.intro @Ue @abw) (And.intro @Yu @Yt)) (And.intro (And.intro @Yv @Ug) (And.intro @Uf @Ui)))) (And.intro (And.intro (And.intro (And.intro @Uh @bound.eq_1) (And.intro @bound.eq_2 @bound.eq_3)) (And.intro (And.intro @eY.eq_1 @eY.eq_2) (And.intro @iH.eq_1 @iH.eq_2))) (And.intro (And.intro (And.intro @xX.eq_1 @xX.eq_2) (And.intro @capOf.eq_1 @IU)) (And.intro (And.intro @aiT @aN) (And.intro @aT @aJ))))) (And.intro (And.intro (And.intro (And.intro @aS (And.intro @List.append_nil.{0} @aQ)) (And.intro (And.intro @aK @Nat.zero_add) (And.intro @Nat.add_zero @Pj))) (And.intro (And.intro (And.intro @Ph @Pg) (And.intro @qU @decide_true)) (And.intro (And.intro @decide_false @Bool.not_true) (And.intro @Bool.not_false @Bool.true_eq_false)))) (And.intro (And.intro (And.intro (And.intro @beq_self_eq_true.{0} @Bool.true_and) (And.intro @Bool.and_true @Bool.false_and)) (And.intro (And.intro @Bool.and_false @Bool.true_or) (And.intro @Bool.false_or @Bool.or_false))) (And.intro (And.intro (And.intro @Bool.or_true @alI) (And.intro @alJ @IK)) (And.intro (And.intro @XR @List.length_map.{0,0}) (And.intro @Pm @aa0)))))) (And.intro (And.intro (And.intro (And.intro (And.intro @Pn (And.intro @TI @afs)) (And.intro (And.intro @TJ @TK) (And.intro @aft @TL))) (And.intro (And.intro (And.intro @dcall.eq_1 @Ba.eq_1) (And.intro @afv.eq_1 @Pq.eq_1)) (And.intro (And.intro @IW.eq_1 @Ko.eq_1) (And.intro @tH.eq_1 @oh.eq_1)))) (And.intro (And.intro (And.intro (And.intro @oh.eq_2 @oh.eq_3) (And.intro @Tv @TA)) (And.intro (And.intro @TB @afm) (And.intro @afn @afo))) (And.intro (And.intro (And.intro @afp @afq) (And.intro @afr @O4)) (And.intro (And.intro @aaW @Di) (And.intro @EC @List.mapM_cons.{0,0,0}))))) (And.intro (And.intro (And.intro (And.intro (And.intro @TM @St.jM.eq_1) (And.intro @St.jM.eq_2 @St.snap.eq_1)) (And.intro (And.intro @St.snap.eq_2 @St.snap.eq_3) (And.intro @St.snap.eq_4 @St.snap.eq_5))) (And.intro (And.intro (And.intro @St.snap.eq_6 @TN) (And.intro @XZ @TP)) (And.intro (And.intro @X0 @abx) (And.intro @Yw @aby)))) (And.intro (And.intro (And.intro (And.intro @Yx @Yy) (And.intro @St.layAll.eq_1 @St.layAll.eq_2)) (And.intro (And.intro @St.lay.eq_1 @St.lay.eq_2) (And.intro @St.lay.eq_3 @J9))) (And.intro (And.intro (And.intro @Po @St.bU.eq_1) (And.intro @St.bI.eq_1 @St.bI.eq_2)) (And.intro (And.intro @St.bI.eq_3 @St.bI.eq_4) (And.intro @St.bI.eq_5 @St.bI.eq_6)))))))))
def acu:=(And.intro (And.intro (And.intro (And.intro @List.isEmpty_nil.{0} (And.intro @aeU @Ru)) (And.intro @H8 (And.intro @Xh @Xi))) (And.intro (And.intro @Rt (And.intro @Int.le_refl @zB)) (And.intro @Nat.le_refl (And.intro @St.bH.eq_1 @BV.frozen.eq_1)))) (And.intro (And.intro (And.intro @BV.frozen.eq_2 (And.intro @List.take_length.{0} @List.take_append_drop.{0})) (And.intro @aG (And.intro @Int.toNat_zero @true_and))) (And.intro (And.intro @and_true (And.intro @and_self @eq_self.{1})) (And.intro @qU (And.intro @List.drop_nil.{0} @List.take_nil.{0})))))
def bg:=(And.intro (And.intro @Nat.zero_le (And.intro @List.take_zero.{0} @List.take_nil.{0})) (And.intro (And.intro @List.take_succ_cons.{0} @List.length_cons.{0}) (And.intro @List.length_nil.{0} @Nat.le_refl)))
def bK:=And.intro @acu @yA
end Go.Proofs.YtpcncggjmabnaaaGreatDoor

namespace Go.Proofs.YtpcncggjmabnaaaGreatDoor.V
theorem Ux:lT vF=[.int .u8 0,.int .u8 0,.int .u8 0,.int .u8 0,.int .u8 0,.int .u8 0,.int .u8 0,.int .u8 0]:=rfl
theorem acv (x:fM):part (lT x) 0 (some 8)=some (.agg (lT x)):=by
 simp only [part,jG,Nat.zero_add,List.drop_zero]
 rw [if_pos (Nat.le_refl _),List.take_of_length_le (by rw [jG];exact Nat.le_refl _)]
theorem Fj:∀ a b:List UInt8,a.length=b.length→jF (a.map fun b=>.int .u8 (b.toNat:Int)) (b.map fun b=>.int .u8 (b.toNat:Int))=some (decide (a=b))
 |[],[],_=>rfl
 |x :: a,y :: b,h=>by
  simp only [List.length_cons,Nat.add_right_cancel_iff] at h
  simp only [List.map_cons,jF,if_pos,Fj a b h,Option.map_some,List.cons.injEq]
  congr 1
  have:((x.toNat:Int)==(y.toNat:Int))=decide (x=y):=by
   by_cases e:x=y
   ·subst e;simp
   ·have:¬ x.toNat=y.toNat:=fun h=>e (UInt8.toNat_inj.1 h)
    simp [e];omega
  rw [this,Bool.decide_and]
 |[],_ :: _,h=>by simp at h
 |_ :: _,[],h=>by simp at h
theorem Qm (a b:fM):jF (lT a) (lT b)=some (decide (a=b)):=by
 unfold lT
 rw [Fj _ _ (by simp)]
 congr 1
 apply decide_eq_decide.2
 exact ⟨fun h=>Vector.toList_inj.1 h,fun h=>by rw [h]⟩
end Go.Proofs.YtpcncggjmabnaaaGreatDoor.V

namespace Go.Proofs.YtpcncggjmabnaaaGreatDoor.V
def agm {α:Type} (p:α→Bool) (l:List α):Int:=if l.any p then (l.findIdx p:Int) else -1
theorem Qn {α:Type} (p:α→Bool) (l:List α):decide (agm p l ≥ 0)=l.any p:=by
 unfold agm
 cases l.any p
 ·rfl
 ·simp only [if_true];exact decide_eq_true (by omega)
def eqF {α β:Type} (eq:α→β→Bool) (l:List α) (m:List β):Bool:=decide (l.length=m.length)&&(l.zip m).all fun q=>eq q.1 q.2
--+
theorem agn {α:Type} {enc:α→PV} {l:List α} {p:α→Bool} {gf:Nat} {caps:List PV} (hp:∀ x∈l,cal env gf (enc x :: caps)=some [(.bool (p x),false)]) (hs:∀ x,part (enc x).cells 0 none=some (enc x)) (hl:l.length≤lim)
  {st:St} (h:st.head [0,1,7,8] st.boxes.length=some ⟨[.pv (.list 1 (l.map enc)),.pv (.func gf caps),.any,.any,.any,.any,.any,.pv (.int .i64 l.length),.pv (.int .i64 (0:Nat)),.any,.any,.any,.any,.any,.any,.any,.any,.any,.any],[],[],none⟩) :
  den env ET st=if l.any p then some (.ret,⟨[.any,.any,.any,.any,.pv (.int .i64 (l.findIdx p)),.any,.any,.any,.any,.any,.any,.any,.any,.any,.any,.any,.any,.any,.any],[],[],none⟩) else some (.normal,⟨[.any,.any,.any,.any,.any,.any,.any,.any,.any,.any,.any,.any,.any,.any,.any,.any,.any,.any,.any],[],[],none⟩):=by
 unfold ET
 rw [bC l.length (fun i=>⟨[.pv (.list 1 (l.map enc)),.pv (.func gf caps),.any,.any,.any,.any,.any,.pv (.int .i64 l.length),.pv (.int .i64 i),.any,.any,.any,.any,.any,.any,.any,.any,.any,.any],[],[],none⟩)
  (fun i=>if (l.drop i).any p then some (.ret,⟨[.any,.any,.any,.any,.pv (.int .i64 ((i+(l.drop i).findIdx p:Nat):Int)),.any,.any,.any,.any,.any,.any,.any,.any,.any,.any,.any,.any,.any,.any],[],[],none⟩) else some (.normal,⟨[.any,.any,.any,.any,.any,.any,.any,.any,.any,.any,.any,.any,.any,.any,.any,.any,.any,.any,.any],[],[],none⟩)) h (fun _=>rfl) (fun _=>rfl) ?_ ?_]
 ·simp only [List.drop_zero,Nat.zero_add]
 ·intro i rb hi ih
  have hi1:=bG hi hl
  have F1:((i:Int)<(l.length:Int))=True:=eq_true (by omega)
  simp only [ES,F1,List.length_map,au hi,List.getElem?_map,List.getElem?_eq_getElem hi,hp _ (List.getElem_mem hi),hs,yA,reduceCtorEq,Nat.reduceEqDiff,Nat.reduceAdd,Nat.reduceLT,Nat.reduceLeDiff,Nat.beq]
  (try simp only [dI,dY,dJ]);refine cu (fun hb=>?_) (fun hb=>?_)<;>try simp only [hb,bK,reduceCtorEq,Nat.reduceEqDiff,Nat.reduceAdd,Nat.reduceLT,Nat.reduceLeDiff,Nat.beq]
  ·rw [List.drop_eq_getElem_cons hi]
   simp only [List.any_cons,hb,Bool.true_or,if_true,List.findIdx_cons,cond_true,Nat.add_zero]
   rfl
  ·rw [ih _ (by simp only [hi1];rfl),List.drop_eq_getElem_cons hi]
   simp only [List.any_cons,hb,Bool.false_or,List.findIdx_cons,cond_false,Nat.add_assoc,Nat.add_comm 1]
 ·intro rb
  simp only [ES,Int.lt_irrefl,yA,reduceCtorEq,Nat.reduceEqDiff,Nat.reduceAdd,Nat.reduceLT,Nat.reduceLeDiff,Nat.beq]
  simp only [List.drop_length,List.any_nil,Bool.false_eq_true,if_false]
  rfl
theorem ajt {α:Type} {enc:α→PV} {l:List α} {p:α→Bool} {gf:Nat} {caps:List PV} (hp:∀ x∈l,cal env gf (enc x :: caps)=some [(.bool (p x),false)]) (hs:∀ x,part (enc x).cells 0 none=some (enc x)) (hl:l.length≤lim) :
  cal env 119 [.list 1 (l.map enc),.func gf caps]=some [(.int .i64 (agm p l),false)]:=by
 rw [ah aji rfl];simp only [PZ];simp only [start,aN,aT,aJ,aS,aG,aH,aK,aQ,Nat.reduceAdd,Nat.reduceSub]
 simp only [List.length_map,yA,reduceCtorEq,Nat.reduceEqDiff,Nat.reduceAdd,Nat.reduceLT,Nat.reduceLeDiff,Nat.beq]
 rw [agn hp hs hl]
 rotate_left
 ·rfl
 ·simp only [agm]
  split<;>simp only [yA,reduceCtorEq,Nat.reduceEqDiff,Nat.reduceAdd,Nat.reduceLT,Nat.reduceLeDiff,Nat.beq]
--+
theorem acw {α:Type} {enc:α→PV} {l:List α} {p:α→Bool} {gf:Nat} {caps:List PV} (hp:∀ x∈l,cal env gf (enc x :: caps)=some [(.bool (p x),false)]) (hs:∀ x,part (enc x).cells 0 none=some (enc x)) (hl:l.length≤lim) :
  cal env 101 [.list 1 (l.map enc),.func gf caps]=some [(.bool (l.any p),false)]:=by
 rw [ah ai4 rfl];simp only [PD];simp only [start,aN,aT,aJ,aS,aG,aH,aK,aQ,Nat.reduceAdd,Nat.reduceSub]
 simp only [ajt hp hs hl,Qn,yA,reduceCtorEq,Nat.reduceEqDiff,Nat.reduceAdd,Nat.reduceLT,Nat.reduceLeDiff,Nat.beq]
--+
end Go.Proofs.YtpcncggjmabnaaaGreatDoor.V

namespace Go.Proofs.YtpcncggjmabnaaaGreatDoor.V
def aP (l:List Int):Int:=if l.length<1∨8<l.length then 6 else if l.any (fun n=>decide (n<1) || decide (n > 4096)) then 2 else 0
def aA (im:iw):List Int:=im.map fun v=>(v.length:Int)
def fG (im:iw):Int:=aP (aA im)
def aV (im:iw) (w:bP):Int :=
 if w.volume<0∨(im.length:Int)≤w.volume then 7 else if w.data.length=0 then 1
 else if w.start<0∨((im.getD w.volume.toNat []).length:Int) - w.data.length<w.start then 2 else 0
def uJ (im:iw) (w:bP):Int:=if fG im≠0 then fG im else aV im w
def bn (l:List Int):iw:=l.map fun n=>List.replicate n.toNat vF
theorem rO {α β:Type} (f:α→β) {l:List α} {i:Nat} (h:i<l.length):(l.take i).map f++[f l[i]]=(l.take (i+1)).map f:=by
 rw [List.take_succ,List.getElem?_eq_getElem h,List.map_append];rfl
theorem aju {α:Type} {enc:α→PV} {l:List α} {g:α→List fM} {gf:Nat} {caps:List PV} (hp:∀ x∈l,cal env gf (enc x :: caps)=some [(aX (g x),true)]) (hs:∀ x,part (enc x).cells 0 none=some (enc x)) (hs3:∀ x,(enc x).cells.length=1) (hl:l.length≤lim)
  {st:St} (h:st.head [0,1,5,10,11,12,13,22] st.boxes.length=some ⟨[.pv (.list 1 (l.map enc)),.pv (.func gf caps),.any,.any,.any,.row 1 [],.any,.any,.any,.any,.any,.pv (.list 1 (l.map enc)),.pv (.int .i64 l.length),.pv (.int .i64 (0:Nat)),.any,.any,.any,.any,.any,.any,.any,.any,.any,.any,.any],[],[],none⟩) :
  den env LG st=some (.normal,⟨[.any,.any,.any,.any,.any,.row 1 (l.map fun x=>aX (g x)),.any,.any,.any,.any,.any,.any,.any,.any,.any,.any,.any,.any,.any,.any,.any,.any,.any,.any,.any],[],[],none⟩):=by
 unfold LG
 rw [bC l.length (fun i=>⟨[.pv (.list 1 (l.map enc)),.pv (.func gf caps),.any,.any,.any,.row 1 ((l.take i).map fun x=>aX (g x)),.any,.any,.any,.any,.any,.pv (.list 1 (l.map enc)),.pv (.int .i64 l.length),.pv (.int .i64 i),.any,.any,.any,.any,.any,.any,.any,.any,.any,.any,.any],[],[],none⟩)
  (fun i=>some (.normal,⟨[.any,.any,.any,.any,.any,.row 1 (l.map fun x=>aX (g x)),.any,.any,.any,.any,.any,.any,.any,.any,.any,.any,.any,.any,.any,.any,.any,.any,.any,.any,.any],[],[],none⟩)) h (fun _=>rfl) (fun _=>rfl) ?_ ?_]
 ·intro i rb hi ih
  have hi1:=bG hi hl
  have F1:((i:Int)<(l.length:Int))=True:=eq_true (by omega)
  have F2:((l.take i).length+1≤lim)=True:=eq_true (by rw [List.length_take];omega)
  have hpi:cal env gf (enc l[i] :: caps)=some [((PV.list 8 ((g l[i]).map iI)),true)]:=hp _ (List.getElem_mem hi)
  try simp only [dD] at hpi
  simp only [LD,F1,F2,au hi,List.getElem?_map,List.getElem?_eq_getElem hi,hpi,hs,hs3,bK,reduceCtorEq,Nat.reduceEqDiff,Nat.reduceAdd,Nat.reduceLT,Nat.reduceLeDiff,Nat.beq]
  rw [ih _ (by simp only [hi1];rw [← rO _ hi];rfl)]
 ·intro rb
  simp only [LD,Int.lt_irrefl,yA,reduceCtorEq,Nat.reduceEqDiff,Nat.reduceAdd,Nat.reduceLT,Nat.reduceLeDiff,Nat.beq]
  rw [List.take_length]
  rfl
theorem aml {α:Type} {enc:α→PV} {l:List α} {g:α→List fM} {gf:Nat} {caps:List PV} (hp:∀ x∈l,cal env gf (enc x :: caps)=some [(aX (g x),true)]) (hs:∀ x,part (enc x).cells 0 none=some (enc x)) (hs3:∀ x,(enc x).cells.length=1) (hl:l.length≤lim) :
  cal env 69 [.list 1 (l.map enc),.func gf caps]=some [(.list 1 (l.map fun x=>aX (g x)),true)]:=by
 rw [ah al8 rfl];simp only [abZ];simp only [start,aN,aT,aJ,aS,aG,aH,aK,aQ,Nat.reduceAdd,Nat.reduceSub]
 have F1:((l.length:Int)≤(lim:Int))=True:=eq_true (by omega)
 have F2:((0:Int)≤(l.length:Int))=True:=eq_true (by omega)
 simp only [F1,F2,Int.le_refl,bK,reduceCtorEq,Nat.reduceEqDiff,Nat.reduceAdd,Nat.reduceLT,Nat.reduceLeDiff,Nat.beq]
 rw [aju hp hs hs3 hl]
 rotate_left
 ·rfl
 ·simp only [bK,reduceCtorEq,Nat.reduceEqDiff,Nat.reduceAdd,Nat.reduceLT,Nat.reduceLeDiff,Nat.beq]
--+
theorem agp {α:Type} {enc:α→PV} {l:List α} {g:α→Int} {gf:Nat} {caps:List PV} (hp:∀ x∈l,cal env gf (enc x :: caps)=some [(eI (g x),false)]) (hs:∀ x,part (enc x).cells 0 none=some (enc x)) (hs3:∀ x,(enc x).cells.length=1) (hl:l.length≤lim)
  {st:St} (h:st.head [0,1,5,10,11,12,13,22] st.boxes.length=some ⟨[.pv (.list 1 (l.map enc)),.pv (.func gf caps),.any,.any,.any,.row 1 [],.any,.any,.any,.any,.any,.pv (.list 1 (l.map enc)),.pv (.int .i64 l.length),.pv (.int .i64 (0:Nat)),.any,.any,.any,.any,.any,.any,.any,.any,.any,.any,.any],[],[],none⟩) :
  den env EP st=some (.normal,⟨[.any,.any,.any,.any,.any,.row 1 (l.map fun x=>eI (g x)),.any,.any,.any,.any,.any,.any,.any,.any,.any,.any,.any,.any,.any,.any,.any,.any,.any,.any,.any],[],[],none⟩):=by
 unfold EP
 rw [bC l.length (fun i=>⟨[.pv (.list 1 (l.map enc)),.pv (.func gf caps),.any,.any,.any,.row 1 ((l.take i).map fun x=>eI (g x)),.any,.any,.any,.any,.any,.pv (.list 1 (l.map enc)),.pv (.int .i64 l.length),.pv (.int .i64 i),.any,.any,.any,.any,.any,.any,.any,.any,.any,.any,.any],[],[],none⟩)
  (fun i=>some (.normal,⟨[.any,.any,.any,.any,.any,.row 1 (l.map fun x=>eI (g x)),.any,.any,.any,.any,.any,.any,.any,.any,.any,.any,.any,.any,.any,.any,.any,.any,.any,.any,.any],[],[],none⟩)) h (fun _=>rfl) (fun _=>rfl) ?_ ?_]
 ·intro i rb hi ih
  have hi1:=bG hi hl
  have F1:((i:Int)<(l.length:Int))=True:=eq_true (by omega)
  have F2:((l.take i).length+1≤lim)=True:=eq_true (by rw [List.length_take];omega)
  have hpi:cal env gf (enc l[i] :: caps)=some [((PV.int .i64 (g l[i])),false)]:=hp _ (List.getElem_mem hi)
  try simp only [dD] at hpi
  simp only [EO,F1,F2,au hi,List.getElem?_map,List.getElem?_eq_getElem hi,hpi,hs,hs3,bK,reduceCtorEq,Nat.reduceEqDiff,Nat.reduceAdd,Nat.reduceLT,Nat.reduceLeDiff,Nat.beq]
  rw [ih _ (by simp only [hi1];rw [← rO _ hi];rfl)]
 ·intro rb
  simp only [EO,Int.lt_irrefl,yA,reduceCtorEq,Nat.reduceEqDiff,Nat.reduceAdd,Nat.reduceLT,Nat.reduceLeDiff,Nat.beq]
  rw [List.take_length]
  rfl
theorem ajv {α:Type} {enc:α→PV} {l:List α} {g:α→Int} {gf:Nat} {caps:List PV} (hp:∀ x∈l,cal env gf (enc x :: caps)=some [(eI (g x),false)]) (hs:∀ x,part (enc x).cells 0 none=some (enc x)) (hs3:∀ x,(enc x).cells.length=1) (hl:l.length≤lim) :
  cal env 112 [.list 1 (l.map enc),.func gf caps]=some [(.list 1 (l.map fun x=>eI (g x)),true)]:=by
 rw [ah ajd rfl];simp only [PU];simp only [start,aN,aT,aJ,aS,aG,aH,aK,aQ,Nat.reduceAdd,Nat.reduceSub]
 have F1:((l.length:Int)≤(lim:Int))=True:=eq_true (by omega)
 have F2:((0:Int)≤(l.length:Int))=True:=eq_true (by omega)
 simp only [F1,F2,Int.le_refl,bK,reduceCtorEq,Nat.reduceEqDiff,Nat.reduceAdd,Nat.reduceLT,Nat.reduceLeDiff,Nat.beq]
 rw [agp hp hs hs3 hl]
 rotate_left
 ·rfl
 ·simp only [bK,reduceCtorEq,Nat.reduceEqDiff,Nat.reduceAdd,Nat.reduceLT,Nat.reduceLeDiff,Nat.beq]
theorem ajw {x:Int}:cal env 102 [eI x]=some [(.bool (decide (x<1) || decide (x > 4096)),false)]:=by
 unfold eI
 rw [ah ai5 rfl];simp only [PE];simp only [start,aN,aT,aJ,aS,aG,aH,aK,aQ,Nat.reduceAdd,Nat.reduceSub]
 simp only [bK,reduceCtorEq,Nat.reduceEqDiff,Nat.reduceAdd,Nat.reduceLT,Nat.reduceLeDiff,Nat.beq]
 (try simp only [dI,dY,dJ]);refine cu (fun hb=>?_) (fun hb=>?_)<;>try simp only [hb,bK,reduceCtorEq,Nat.reduceEqDiff,Nat.reduceAdd,Nat.reduceLT,Nat.reduceLeDiff,Nat.beq]
theorem ahR {l:List Int} (hl:l.length≤lim):cal env 68 [.list 1 (l.map eI)]=some [(.int .i64 (aP l),false)]:=by
 have e1:=acw (l:=l) (enc:=eI) (fun x _=>ajw (x:=x)) (fun x=>rfl) hl
 rw [ah al7 rfl];simp only [abY];simp only [start,aN,aT,aJ,aS,aG,aH,aK,aQ,Nat.reduceAdd,Nat.reduceSub]
 simp only [e1,bK,reduceCtorEq,Nat.reduceEqDiff,Nat.reduceAdd,Nat.reduceLT,Nat.reduceLeDiff,Nat.beq]
 repeat' ((try simp only [dI,dY,dJ]);refine cu (fun hb=>?_) (fun hb=>?_)<;>try simp only [hb,e1,bK,reduceCtorEq,Nat.reduceEqDiff,Nat.reduceAdd,Nat.reduceLT,Nat.reduceLeDiff,Nat.beq])
 all_goals grind [aP]
theorem ajx {v:List fM}:cal env 113 [aX v]=some [(eI v.length,false)]:=by
 unfold aX eI
 rw [ah aje rfl];simp only [PW];simp only [start,aN,aT,aJ,aS,aG,aH,aK,aQ,Nat.reduceAdd,Nat.reduceSub]
 simp only [bK,reduceCtorEq,Nat.reduceEqDiff,Nat.reduceAdd,Nat.reduceLT,Nat.reduceLeDiff,Nat.beq]
theorem amm {im:iw} (hl:im.length≤lim):cal env 94 [.list 1 (im.map aX)]=some [(.list 1 ((aA im).map eI),true)]:=by
 have e1:=ajv (enc:=aX) (l:=im) (fun x _=>ajx (v:=x)) (fun x=>rfl) (fun x=>rfl) hl
 rw [ah amg rfl];simp only [ab6];simp only [start,aN,aT,aJ,aS,aG,aH,aK,aQ,Nat.reduceAdd,Nat.reduceSub]
 simp only [e1,bK,reduceCtorEq,Nat.reduceEqDiff,Nat.reduceAdd,Nat.reduceLT,Nat.reduceLeDiff,Nat.beq]
 simp [aA]
theorem acy {im:iw} (hl:im.length≤lim):cal env 53 [.list 1 (im.map aX)]=some [(.int .i64 (fG im),false)]:=by
 have h2:(aA im).length≤lim:=by simpa [aA] using hl
 have e1:=amm hl
 have e2:=ahR h2
 rw [ah alY rfl];simp only [abP];simp only [start,aN,aT,aJ,aS,aG,aH,aK,aQ,Nat.reduceAdd,Nat.reduceSub]
 simp only [e1,e2,bK,reduceCtorEq,Nat.reduceEqDiff,Nat.reduceAdd,Nat.reduceLT,Nat.reduceLeDiff,Nat.beq]
 rfl
theorem amn {n:Int} (h0:0≤n) (h1:n≤4096):cal env 70 [eI n]=some [(aX (List.replicate n.toNat vF),true)]:=by
 unfold eI aX
 rw [ah al9 rfl];simp only [ab1];simp only [start,aN,aT,aJ,aS,aG,aH,aK,aQ,Nat.reduceAdd,Nat.reduceSub]
 have F1:(n≤(lim:Int))=True:=eq_true (by simp [lim];omega)
 simp only [F1,h0,← Ux,jG,bK,reduceCtorEq,Nat.reduceEqDiff,Nat.reduceAdd,Nat.reduceLT,Nat.reduceLeDiff,Nat.beq]
 simp only [List.map_replicate]
 rfl
theorem VW {l:List Int} (hl:l.length≤lim):cal env 38 [.list 1 (l.map eI)]=some [(.list 1 ((if aP l=0 then bn l else []).map aX),true),(.int .i64 (aP l),false)]:=by
 have e0:=ahR hl
 by_cases h:aP l=0
 ·have hs:∀ x∈l,1≤x∧x≤4096:=by
   intro x hx
   unfold aP at h
   split at h
   ·omega
   ·split at h
    ·omega
    ·rename_i h2
     simp only [List.any_eq_true,not_exists,not_and,Bool.not_eq_true] at h2
     have:=h2 x hx
     simp at this
     omega
  have e1:=aml (enc:=eI) (g:=fun n=>List.replicate n.toNat vF) (l:=l) (fun x hx=>amn (n:=x) (by have:=hs x hx;omega) (by have:=hs x hx;omega)) (fun x=>rfl) (fun x=>rfl) hl
  rw [ah ahH rfl];simp only [YJ];simp only [start,aN,aT,aJ,aS,aG,aH,aK,aQ,Nat.reduceAdd,Nat.reduceSub]
  simp only [e0,e1,bK,reduceCtorEq,Nat.reduceEqDiff,Nat.reduceAdd,Nat.reduceLT,Nat.reduceLeDiff,Nat.beq]
  (try simp only [dI,dY,dJ]);refine cu (fun hb=>?_) (fun hb=>?_)<;>try simp only [hb,e0,e1,bK,reduceCtorEq,Nat.reduceEqDiff,Nat.reduceAdd,Nat.reduceLT,Nat.reduceLeDiff,Nat.beq]
  ·simp [bn,h]
  ·simp at hb;omega
 ·have e1:=e0
  rw [ah ahH rfl];simp only [YJ];simp only [start,aN,aT,aJ,aS,aG,aH,aK,aQ,Nat.reduceAdd,Nat.reduceSub]
  simp only [e0,e1,bK,reduceCtorEq,Nat.reduceEqDiff,Nat.reduceAdd,Nat.reduceLT,Nat.reduceLeDiff,Nat.beq]
  (try simp only [dI,dY,dJ]);refine cu (fun hb=>?_) (fun hb=>?_)<;>try simp only [hb,e0,e1,bK,reduceCtorEq,Nat.reduceEqDiff,Nat.reduceAdd,Nat.reduceLT,Nat.reduceLeDiff,Nat.beq]
  ·simp at hb;omega
  ·simp [h]
end Go.Proofs.YtpcncggjmabnaaaGreatDoor.V

namespace Go.Proofs.YtpcncggjmabnaaaGreatDoor.V
theorem ajy {l:List Int} (hl:l.length≤lim) {st:St} (h:st.head [0,3] st.boxes.length=some ⟨[.pv (.list 1 (l.map eI)),.any,.any,.pv (.int .i64 (0:Nat)),.any,.any,.any,.any,.any,.any,.any,.any,.any,.any,.any,.any,.any,.any,.any,.any,.any,.any,.any,.any,.any,.any,.any,.any,.any,.any],[],[],none⟩) :
  den env Le st=if l.any (fun n=>decide (n<1) || decide (n > 4096)) then some (.ret,⟨[.any,.any,.pv (.int .i64 2),.any,.any,.any,.any,.any,.any,.any,.any,.any,.any,.any,.any,.any,.any,.any,.any,.any,.any,.any,.any,.any,.any,.any,.any,.any,.any,.any],[],[],none⟩) else some (.normal,⟨[.any,.any,.any,.any,.any,.any,.any,.any,.any,.any,.any,.any,.any,.any,.any,.any,.any,.any,.any,.any,.any,.any,.any,.any,.any,.any,.any,.any,.any,.any],[],[],none⟩):=by
 unfold Le
 rw [ bC (env:=env) (l.length) (fun i=>⟨[.pv (.list 1 (l.map eI)),.any,.any,.pv (.int .i64 i),.any,.any,.any,.any,.any,.any,.any,.any,.any,.any,.any,.any,.any,.any,.any,.any,.any,.any,.any,.any,.any,.any,.any,.any,.any,.any],[],[],none⟩) (fun i=>if (l.drop i).any (fun n=>decide (n<1) || decide (n > 4096)) then some (.ret,⟨[.any,.any,.pv (.int .i64 2),.any,.any,.any,.any,.any,.any,.any,.any,.any,.any,.any,.any,.any,.any,.any,.any,.any,.any,.any,.any,.any,.any,.any,.any,.any,.any,.any],[],[],none⟩) else some (.normal,⟨[.any,.any,.any,.any,.any,.any,.any,.any,.any,.any,.any,.any,.any,.any,.any,.any,.any,.any,.any,.any,.any,.any,.any,.any,.any,.any,.any,.any,.any,.any],[],[],none⟩)) h (fun _=>rfl) (fun _=>rfl) ?_ ?_]
 ·first|rfl|simp only [List.drop_zero,List.take_zero,List.map_nil,Nat.zero_add,List.nil_append,List.foldl_nil]
 ·intro i rb hi ih
  have hi1:=bG hi hl;have F1:((i:Int)<(l.length:Int))=True:=eq_true (by omega)
  simp only [Ld,eI,F1,au hi,List.getElem?_map,List.getElem?_eq_getElem hi,bK,reduceCtorEq,Nat.reduceEqDiff,Nat.reduceAdd,Nat.reduceLT,Nat.reduceLeDiff,Nat.beq]
  rw [List.drop_eq_getElem_cons hi]
  repeat' ((try simp only [dI,dY,dJ]);refine cu (fun hb=>?_) (fun hb=>?_)<;>try simp only [hb,eI,au hi,List.getElem?_map,List.getElem?_eq_getElem hi,bK,reduceCtorEq,Nat.reduceEqDiff,Nat.reduceAdd,Nat.reduceLT,Nat.reduceLeDiff,Nat.beq])
  ·rfl
  ·rfl
  ·rw [ih _ (by simp only [hi1];rfl)]
 ·intro rb
  simp only [Ld,Int.lt_irrefl,eI,bK,reduceCtorEq,Nat.reduceEqDiff,Nat.reduceAdd,Nat.reduceLT,Nat.reduceLeDiff,Nat.beq]
  rw [List.drop_length]
  rfl
theorem ahS {l:List Int} (hl:l.length≤lim):cal env 62 [.list 1 (l.map eI)]=some [(.int .i64 (aP l),false)]:=by
 rw [ah al3 rfl];simp only [abU];simp only [start,aN,aT,aJ,aS,aG,aH,aK,aQ,Nat.reduceAdd,Nat.reduceSub]
 simp only [eI,bK,reduceCtorEq,Nat.reduceEqDiff,Nat.reduceAdd,Nat.reduceLT,Nat.reduceLeDiff,Nat.beq]
 repeat' ((try simp only [dI,dY,dJ]);refine cu (fun hb=>?_) (fun hb=>?_)<;>try simp only [hb,eI,bK,reduceCtorEq,Nat.reduceEqDiff,Nat.reduceAdd,Nat.reduceLT,Nat.reduceLeDiff,Nat.beq])
 ·grind [aP]
 ·grind [aP]
 ·rw [ajy hl]
  rotate_left
  ·rfl
  ·by_cases h:l.any (fun n=>decide (n<1) || decide (n > 4096))=true
   ·simp only [h,yA,reduceCtorEq,Nat.reduceEqDiff,Nat.reduceAdd,Nat.reduceLT,Nat.reduceLeDiff,Nat.beq]
    grind [aP]
   ·simp only [h,yA,reduceCtorEq,Nat.reduceEqDiff,Nat.reduceAdd,Nat.reduceLT,Nat.reduceLeDiff,Nat.beq]
    grind [aP]
theorem ajz {im:iw} (hl:im.length≤lim) {st:St} (h:st.head [0,3,4,18] st.boxes.length=some ⟨[.pv (.list 1 (im.map aX)),.any,.any,.row 1 ((im.take (0:Nat)).map fun v=>eI (v.length:Int)),.pv (.int .i64 (0:Nat)),.any,.any,.any,.any,.any,.any,.any,.any,.any,.any,.any,.any,.any,.any,.any],[],[],none⟩) :
  den env Lu st=some (.normal,⟨[.any,.any,.any,.row 1 (im.map fun v=>eI (v.length:Int)),.any,.any,.any,.any,.any,.any,.any,.any,.any,.any,.any,.any,.any,.any,.any,.any],[],[],none⟩):=by
 unfold Lu
 refine bC (env:=env) (im.length) (fun i=>⟨[.pv (.list 1 (im.map aX)),.any,.any,.row 1 ((im.take i).map fun v=>eI (v.length:Int)),.pv (.int .i64 i),.any,.any,.any,.any,.any,.any,.any,.any,.any,.any,.any,.any,.any,.any,.any],[],[],none⟩) (fun i=>some (.normal,⟨[.any,.any,.any,.row 1 (im.map fun v=>eI (v.length:Int)),.any,.any,.any,.any,.any,.any,.any,.any,.any,.any,.any,.any,.any,.any,.any,.any],[],[],none⟩)) h (fun _=>rfl) (fun _=>rfl) ?_ ?_
 ·intro i rb hi ih
  have hi1:=bG hi hl
  have F1:((i:Int)<(im.length:Int))=True:=eq_true (by omega)
  have F2:((im.take i).length+1≤lim)=True:=eq_true (by rw [List.length_take];omega)
  simp only [Ls,F1,F2,aX,au hi,List.getElem?_map,List.getElem?_eq_getElem hi,bK,reduceCtorEq,Nat.reduceEqDiff,Nat.reduceAdd,Nat.reduceLT,Nat.reduceLeDiff,Nat.beq]
  rw [ih _ (by simp only [hi1];rw [← rO _ hi];rfl)]
 ·intro rb
  simp only [Ls,Int.lt_irrefl,bK,reduceCtorEq,Nat.reduceEqDiff,Nat.reduceAdd,Nat.reduceLT,Nat.reduceLeDiff,Nat.beq]
  try rw [List.take_length]
  rfl
theorem ahT {im:iw} (hl:im.length≤lim):cal env 66 [.list 1 (im.map aX)]=some [(.list 1 ((aA im).map eI),true)]:=by
 rw [ah al6 rfl];simp only [abX];simp only [start,aN,aT,aJ,aS,aG,aH,aK,aQ,Nat.reduceAdd,Nat.reduceSub]
 simp only [bK,reduceCtorEq,Nat.reduceEqDiff,Nat.reduceAdd,Nat.reduceLT,Nat.reduceLeDiff,Nat.beq]
 rw [ajz hl]
 rotate_left
 ·rfl
 ·simp only [bK,reduceCtorEq,Nat.reduceEqDiff,Nat.reduceAdd,Nat.reduceLT,Nat.reduceLeDiff,Nat.beq]
  simp [aA]
theorem amo {im:iw} (hl:im.length≤lim):cal env 57 [.list 1 (im.map aX)]=some [(.int .i64 (fG im),false)]:=by
 have h2:(aA im).length≤lim:=by simpa [aA] using hl
 have e1:=ahT hl
 have e2:=ahS h2
 rw [ah al1 rfl];simp only [abS];simp only [start,aN,aT,aJ,aS,aG,aH,aK,aQ,Nat.reduceAdd,Nat.reduceSub]
 simp only [e1,e2,bK,reduceCtorEq,Nat.reduceEqDiff,Nat.reduceAdd,Nat.reduceLT,Nat.reduceLeDiff,Nat.beq]
 rfl
theorem ajA {a b:List fM} (hl:a.length≤lim) (hab:a.length=b.length) {st:St} (h:st.head [0,1,5] st.boxes.length=some ⟨[.pv (.list 8 (a.map iI)),.pv (.list 8 (b.map iI)),.any,.any,.any,.pv (.int .i64 (0:Nat)),.any,.any,.any,.any,.any,.any,.any,.any,.any,.any,.any,.any,.any,.any,.any,.any,.any,.any,.any,.any],[],[],none⟩) :
  den env Lc st=if a=b then some (.normal,⟨[.any,.any,.any,.any,.any,.any,.any,.any,.any,.any,.any,.any,.any,.any,.any,.any,.any,.any,.any,.any,.any,.any,.any,.any,.any,.any],[],[],none⟩) else some (.ret,⟨[.any,.any,.any,.any,.pv (.bool false),.any,.any,.any,.any,.any,.any,.any,.any,.any,.any,.any,.any,.any,.any,.any,.any,.any,.any,.any,.any,.any],[],[],none⟩):=by
 unfold Lc
 rw [ bC (env:=env) (a.length) (fun i=>⟨[.pv (.list 8 (a.map iI)),.pv (.list 8 (b.map iI)),.any,.any,.any,.pv (.int .i64 i),.any,.any,.any,.any,.any,.any,.any,.any,.any,.any,.any,.any,.any,.any,.any,.any,.any,.any,.any,.any],[],[],none⟩) (fun i=>if a.drop i=b.drop i then some (.normal,⟨[.any,.any,.any,.any,.any,.any,.any,.any,.any,.any,.any,.any,.any,.any,.any,.any,.any,.any,.any,.any,.any,.any,.any,.any,.any,.any],[],[],none⟩) else some (.ret,⟨[.any,.any,.any,.any,.pv (.bool false),.any,.any,.any,.any,.any,.any,.any,.any,.any,.any,.any,.any,.any,.any,.any,.any,.any,.any,.any,.any,.any],[],[],none⟩)) h (fun _=>rfl) (fun _=>rfl) ?_ ?_]
 ·first|rfl|simp only [List.drop_zero,List.take_zero,List.map_nil,Nat.zero_add,List.nil_append,List.foldl_nil]
 ·intro i rb hi ih
  have hi1:=bG hi hl
  have hj:i<b.length:=by omega
  have F1:((i:Int)<(a.length:Int))=True:=eq_true (by omega)
  simp only [La,F1,iI,au hi,au hj,List.getElem?_map,List.getElem?_eq_getElem hi,List.getElem?_eq_getElem hj,acv,jG,Qm,bK,reduceCtorEq,Nat.reduceEqDiff,Nat.reduceAdd,Nat.reduceLT,Nat.reduceLeDiff,Nat.beq]
  rw [List.drop_eq_getElem_cons hi,List.drop_eq_getElem_cons hj]
  (try simp only [dI,dY,dJ]);refine cu (fun hb=>?_) (fun hb=>?_)<;>try simp only [hb,bK,reduceCtorEq,Nat.reduceEqDiff,Nat.reduceAdd,Nat.reduceLT,Nat.reduceLeDiff,Nat.beq]
  ·rw [ih _ (by simp only [hi1];rfl)]
   simp only [decide_eq_true_eq] at hb
   simp only [hb,List.cons.injEq,true_and]
  ·simp only [decide_eq_false_iff_not] at hb
   simp only [hb,List.cons.injEq,false_and,if_false]
   rfl
 ·intro rb
  simp only [La,Int.lt_irrefl,bK,reduceCtorEq,Nat.reduceEqDiff,Nat.reduceAdd,Nat.reduceLT,Nat.reduceLeDiff,Nat.beq]
  rw [List.drop_length,hab,List.drop_length,if_pos rfl]
  rfl
theorem amq {a b:List fM} (hl:a.length≤lim):cal env 61 [.list 8 (a.map iI),.list 8 (b.map iI)]=some [(.bool (decide (a=b)),false)]:=by
 rw [ah al2 rfl];simp only [abT];simp only [start,aN,aT,aJ,aS,aG,aH,aK,aQ,Nat.reduceAdd,Nat.reduceSub]
 simp only [bK,reduceCtorEq,Nat.reduceEqDiff,Nat.reduceAdd,Nat.reduceLT,Nat.reduceLeDiff,Nat.beq]
 (try simp only [dI,dY,dJ]);refine cu (fun hb=>?_) (fun hb=>?_)<;>try simp only [hb,bK,reduceCtorEq,Nat.reduceEqDiff,Nat.reduceAdd,Nat.reduceLT,Nat.reduceLeDiff,Nat.beq]
 ·have hab:a.length=b.length:=by simp at hb;omega
  rw [ajA hl hab]
  rotate_left
  ·rfl
  ·by_cases e:a=b<;>simp only [e,yA,reduceCtorEq,Nat.reduceEqDiff,Nat.reduceAdd,Nat.reduceLT,Nat.reduceLeDiff,Nat.beq]
 ·have:a≠b:=fun e=>by subst e;simp at hb
  simp only [this,yA,reduceCtorEq,Nat.reduceEqDiff,Nat.reduceAdd,Nat.reduceLT,Nat.reduceLeDiff,Nat.beq]
theorem ajB {a b:iw} (hl:a.length≤lim) (hr:∀ v∈a,v.length≤lim) (hab:a.length=b.length) {st:St} (h:st.head [0,1,5] st.boxes.length=some ⟨[.pv (.list 1 (a.map aX)),.pv (.list 1 (b.map aX)),.any,.any,.any,.pv (.int .i64 (0:Nat)),.any,.any,.any,.any,.any,.any,.any,.any,.any,.any,.any,.any,.any,.any,.any,.any,.any,.any,.any,.any,.any],[],[],none⟩) :
  den env KD st=if a=b then some (.normal,⟨[.any,.any,.any,.any,.any,.any,.any,.any,.any,.any,.any,.any,.any,.any,.any,.any,.any,.any,.any,.any,.any,.any,.any,.any,.any,.any,.any],[],[],none⟩) else some (.ret,⟨[.any,.any,.any,.any,.pv (.bool false),.any,.any,.any,.any,.any,.any,.any,.any,.any,.any,.any,.any,.any,.any,.any,.any,.any,.any,.any,.any,.any,.any],[],[],none⟩):=by
 unfold KD
 rw [ bC (env:=env) (a.length) (fun i=>⟨[.pv (.list 1 (a.map aX)),.pv (.list 1 (b.map aX)),.any,.any,.any,.pv (.int .i64 i),.any,.any,.any,.any,.any,.any,.any,.any,.any,.any,.any,.any,.any,.any,.any,.any,.any,.any,.any,.any,.any],[],[],none⟩) (fun i=>if a.drop i=b.drop i then some (.normal,⟨[.any,.any,.any,.any,.any,.any,.any,.any,.any,.any,.any,.any,.any,.any,.any,.any,.any,.any,.any,.any,.any,.any,.any,.any,.any,.any,.any],[],[],none⟩) else some (.ret,⟨[.any,.any,.any,.any,.pv (.bool false),.any,.any,.any,.any,.any,.any,.any,.any,.any,.any,.any,.any,.any,.any,.any,.any,.any,.any,.any,.any,.any,.any],[],[],none⟩)) h (fun _=>rfl) (fun _=>rfl) ?_ ?_]
 ·first|rfl|simp only [List.drop_zero,List.take_zero,List.map_nil,Nat.zero_add,List.nil_append,List.foldl_nil]
 ·intro i rb hi ih
  have hi1:=bG hi hl
  have hj:i<b.length:=by omega
  have F1:((i:Int)<(a.length:Int))=True:=eq_true (by omega)
  have e1:=amq (b:=b[i]) (hr _ (List.getElem_mem hi))
  simp only [KC,F1,e1,aX,au hi,au hj,List.getElem?_map,List.getElem?_eq_getElem hi,List.getElem?_eq_getElem hj,bK,reduceCtorEq,Nat.reduceEqDiff,Nat.reduceAdd,Nat.reduceLT,Nat.reduceLeDiff,Nat.beq]
  rw [List.drop_eq_getElem_cons hi,List.drop_eq_getElem_cons hj]
  (try simp only [dI,dY,dJ]);refine cu (fun hb=>?_) (fun hb=>?_)<;>try simp only [hb,bK,reduceCtorEq,Nat.reduceEqDiff,Nat.reduceAdd,Nat.reduceLT,Nat.reduceLeDiff,Nat.beq]
  ·rw [ih _ (by simp only [hi1];rfl)]
   simp only [decide_eq_true_eq] at hb
   simp only [hb,List.cons.injEq,true_and]
  ·simp only [decide_eq_false_iff_not] at hb
   simp only [hb,List.cons.injEq,false_and,if_false]
   rfl
 ·intro rb
  simp only [KC,Int.lt_irrefl,bK,reduceCtorEq,Nat.reduceEqDiff,Nat.reduceAdd,Nat.reduceLT,Nat.reduceLeDiff,Nat.beq]
  rw [List.drop_length,hab,List.drop_length,if_pos rfl]
  rfl
theorem amr {a b:iw} (hl:a.length≤lim) (hr:∀ v∈a,v.length≤lim):cal env 30 [.list 1 (a.map aX),.list 1 (b.map aX)]=some [(.bool (decide (a=b)),false)]:=by
 rw [ah alP rfl];simp only [abH];simp only [start,aN,aT,aJ,aS,aG,aH,aK,aQ,Nat.reduceAdd,Nat.reduceSub]
 simp only [bK,reduceCtorEq,Nat.reduceEqDiff,Nat.reduceAdd,Nat.reduceLT,Nat.reduceLeDiff,Nat.beq]
 (try simp only [dI,dY,dJ]);refine cu (fun hb=>?_) (fun hb=>?_)<;>try simp only [hb,bK,reduceCtorEq,Nat.reduceEqDiff,Nat.reduceAdd,Nat.reduceLT,Nat.reduceLeDiff,Nat.beq]
 ·have hab:a.length=b.length:=by simp at hb;omega
  rw [ajB hl hr hab]
  rotate_left
  ·rfl
  ·by_cases e:a=b<;>simp only [e,yA,reduceCtorEq,Nat.reduceEqDiff,Nat.reduceAdd,Nat.reduceLT,Nat.reduceLeDiff,Nat.beq]
 ·have:a≠b:=fun e=>by subst e;simp at hb
  simp only [this,yA,reduceCtorEq,Nat.reduceEqDiff,Nat.reduceAdd,Nat.reduceLT,Nat.reduceLeDiff,Nat.beq]
theorem getD_get {α:Type} {l:List α} {i:Nat} {d:α} (h:i<l.length):l.getD i d=l[i]:=by simp [List.getD_eq_getElem?_getD,List.getElem?_eq_getElem h]
theorem ajC {im:iw} {w:bP} (hl:im.length≤lim) (hr:∀ v∈im,v.length≤lim) (hd:w.data.length≤lim):cal env 118 [.list 1 (im.map aX),dZ w]=some [(.int .i64 (aV im w),false)]:=by
 obtain ⟨v,s,d⟩:=w
 simp only [dZ] at *
 by_cases h0:0≤v∧v<im.length
 ·have h1:=IZ (k:=.i64) h0.1 h0.2
  have h2:v.toNat<im.length:=by omega
  have h3:=List.getElem?_eq_getElem h2
  have h4:im[v.toNat].length≤lim:=hr _ (List.getElem_mem h2)
  have h5:IntKind.i64.wrap ((im[v.toNat].length:Int) - d.length)=im[v.toNat].length - d.length:=bf (by unfold lim at *;omega)
  rw [ah acp rfl];simp only [I5];simp only [start,aN,aT,aJ,aS,aG,aH,aK,aQ,Nat.reduceAdd,Nat.reduceSub]
  simp only [h1,h3,h5,aX,List.getElem?_map,bK,reduceCtorEq,Nat.reduceEqDiff,Nat.reduceAdd,Nat.reduceLT,Nat.reduceLeDiff,Nat.beq]
  repeat' ((try simp only [dI,dY,dJ]);refine cu (fun hb=>?_) (fun hb=>?_)<;>try simp only [hb,h1,h3,h5,aX,List.getElem?_map,bK,reduceCtorEq,Nat.reduceEqDiff,Nat.reduceAdd,Nat.reduceLT,Nat.reduceLeDiff,Nat.beq])
  all_goals clear h1 h3 h5
  all_goals simp only [aV,getD_get h2,decide_eq_true_eq,decide_eq_false_iff_not,beq_iff_eq,beq_eq_false_iff_ne,ne_eq,ge_iff_le,gt_iff_lt,Bool.and_eq_true,Bool.or_eq_true,Bool.not_eq_true',Bool.not_eq_false'] at *
  all_goals ((repeat' split)<;>first|rfl|(exfalso;omega))
 ·rw [ah acp rfl];simp only [I5];simp only [start,aN,aT,aJ,aS,aG,aH,aK,aQ,Nat.reduceAdd,Nat.reduceSub]
  simp only [aX,List.getElem?_map,Dv,bK,reduceCtorEq,Nat.reduceEqDiff,Nat.reduceAdd,Nat.reduceLT,Nat.reduceLeDiff,Nat.beq]
  repeat' ((try simp only [dI,dY,dJ]);refine cu (fun hb=>?_) (fun hb=>?_)<;>try simp only [hb,aX,List.getElem?_map,Dv,bK,reduceCtorEq,Nat.reduceEqDiff,Nat.reduceAdd,Nat.reduceLT,Nat.reduceLeDiff,Nat.beq])
  all_goals simp only [aV,decide_eq_true_eq,decide_eq_false_iff_not,beq_iff_eq,beq_eq_false_iff_ne,ne_eq,ge_iff_le,gt_iff_lt,Bool.and_eq_true,Bool.or_eq_true,Bool.not_eq_true',Bool.not_eq_false'] at *
  all_goals ((repeat' split)<;>first|rfl|(exfalso;omega))
theorem ahU {im:iw} {w:bP} (hl:im.length≤lim) (hr:∀ v∈im,v.length≤lim) (hd:w.data.length≤lim):cal env 65 [.list 1 ((aA im).map eI),dZ w]=some [(.int .i64 (aV im w),false)]:=by
 obtain ⟨v,s,d⟩:=w
 simp only [dZ,aA,List.map_map] at *
 by_cases h0:0≤v∧v<im.length
 ·have h1:=IZ (k:=.i64) h0.1 h0.2
  have h2:v.toNat<im.length:=by omega
  have h3:=List.getElem?_eq_getElem h2
  have h4:im[v.toNat].length≤lim:=hr _ (List.getElem_mem h2)
  by_cases h6:0≤s∧s<im[v.toNat].length
  ·have h5:IntKind.i64.wrap ((im[v.toNat].length:Int) - s)=im[v.toNat].length - s:=bf (by unfold lim at *;omega)
   rw [ah acj rfl];simp only [Us];simp only [start,aN,aT,aJ,aS,aG,aH,aK,aQ,Nat.reduceAdd,Nat.reduceSub]
   simp only [h1,h3,h5,eI,List.getElem?_map,Function.comp_apply,bK,reduceCtorEq,Nat.reduceEqDiff,Nat.reduceAdd,Nat.reduceLT,Nat.reduceLeDiff,Nat.beq]
   repeat' ((try simp only [dI,dY,dJ]);refine cu (fun hb=>?_) (fun hb=>?_)<;>try simp only [hb,h1,h3,h5,eI,List.getElem?_map,Function.comp_apply,bK,reduceCtorEq,Nat.reduceEqDiff,Nat.reduceAdd,Nat.reduceLT,Nat.reduceLeDiff,Nat.beq])
   all_goals clear h1 h3 h5
   all_goals simp only [aV,getD_get h2,decide_eq_true_eq,decide_eq_false_iff_not,beq_iff_eq,beq_eq_false_iff_ne,ne_eq,ge_iff_le,gt_iff_lt,Bool.and_eq_true,Bool.or_eq_true,Bool.not_eq_true',Bool.not_eq_false'] at *
   all_goals ((repeat' split)<;>first|rfl|(exfalso;omega))
  ·--
   rw [ah acj rfl];simp only [Us];simp only [start,aN,aT,aJ,aS,aG,aH,aK,aQ,Nat.reduceAdd,Nat.reduceSub]
   simp only [h1,h3,eI,List.getElem?_map,Function.comp_apply,bK,reduceCtorEq,Nat.reduceEqDiff,Nat.reduceAdd,Nat.reduceLT,Nat.reduceLeDiff,Nat.beq]
   repeat' ((try simp only [dI,dY,dJ]);refine cu (fun hb=>?_) (fun hb=>?_)<;>try simp only [hb,h1,h3,eI,List.getElem?_map,Function.comp_apply,bK,reduceCtorEq,Nat.reduceEqDiff,Nat.reduceAdd,Nat.reduceLT,Nat.reduceLeDiff,Nat.beq])
   all_goals clear h1 h3
   all_goals simp only [aV,getD_get h2,decide_eq_true_eq,decide_eq_false_iff_not,beq_iff_eq,beq_eq_false_iff_ne,ne_eq,ge_iff_le,gt_iff_lt,Bool.and_eq_true,Bool.or_eq_true,Bool.not_eq_true',Bool.not_eq_false'] at *
   all_goals first|(exfalso;omega)|((repeat' split)<;>first|rfl|(exfalso;omega))
 ·rw [ah acj rfl];simp only [Us];simp only [start,aN,aT,aJ,aS,aG,aH,aK,aQ,Nat.reduceAdd,Nat.reduceSub]
  simp only [eI,List.getElem?_map,Dv,Function.comp_apply,bK,reduceCtorEq,Nat.reduceEqDiff,Nat.reduceAdd,Nat.reduceLT,Nat.reduceLeDiff,Nat.beq]
  repeat' ((try simp only [dI,dY,dJ]);refine cu (fun hb=>?_) (fun hb=>?_)<;>try simp only [hb,eI,List.getElem?_map,Dv,Function.comp_apply,bK,reduceCtorEq,Nat.reduceEqDiff,Nat.reduceAdd,Nat.reduceLT,Nat.reduceLeDiff,Nat.beq])
  all_goals simp only [aV,decide_eq_true_eq,decide_eq_false_iff_not,beq_iff_eq,beq_eq_false_iff_ne,ne_eq,ge_iff_le,gt_iff_lt,Bool.and_eq_true,Bool.or_eq_true,Bool.not_eq_true',Bool.not_eq_false'] at *
  all_goals first|(exfalso;omega)|((repeat' split)<;>first|rfl|(exfalso;omega))
theorem ajD {im:iw} {w:bP} (hl:im.length≤lim) (hr:∀ v∈im,v.length≤lim) (hd:w.data.length≤lim):cal env 106 [.list 1 (im.map aX),dZ w]=some [(.int .i64 (uJ im w),false)]:=by
 have e1:=acy hl
 have e2:=ajC (w:=w) hl hr hd
 simp only [dZ] at *
 rw [ah ai9 rfl];simp only [PL];simp only [start,aN,aT,aJ,aS,aG,aH,aK,aQ,Nat.reduceAdd,Nat.reduceSub]
 simp only [e1,e2,bK,reduceCtorEq,Nat.reduceEqDiff,Nat.reduceAdd,Nat.reduceLT,Nat.reduceLeDiff,Nat.beq]
 repeat' ((try simp only [dI,dY,dJ]);refine cu (fun hb=>?_) (fun hb=>?_)<;>try simp only [hb,e1,e2,bK,reduceCtorEq,Nat.reduceEqDiff,Nat.reduceAdd,Nat.reduceLT,Nat.reduceLeDiff,Nat.beq])
 all_goals simp only [uJ,decide_eq_true_eq,decide_eq_false_iff_not,beq_iff_eq,beq_eq_false_iff_ne,ne_eq,ge_iff_le,gt_iff_lt,Bool.and_eq_true,Bool.or_eq_true,Bool.not_eq_true',Bool.not_eq_false'] at *
 all_goals ((repeat' split)<;>first|rfl|(exfalso;omega))
theorem ams {im:iw} {w:bP} (hl:im.length≤lim) (hr:∀ v∈im,v.length≤lim) (hd:w.data.length≤lim):cal env 33 [.list 1 (im.map aX),dZ w]=some [(.int .i64 (uJ im w),false)]:=by
 have e0:=ahT hl
 have e1:=amo hl
 have e2:=ahU (w:=w) hl hr hd
 simp only [dZ] at *
 rw [ah alR rfl];simp only [abJ];simp only [start,aN,aT,aJ,aS,aG,aH,aK,aQ,Nat.reduceAdd,Nat.reduceSub]
 simp only [e0,e1,e2,bK,reduceCtorEq,Nat.reduceEqDiff,Nat.reduceAdd,Nat.reduceLT,Nat.reduceLeDiff,Nat.beq]
 repeat' ((try simp only [dI,dY,dJ]);refine cu (fun hb=>?_) (fun hb=>?_)<;>try simp only [hb,e0,e1,e2,bK,reduceCtorEq,Nat.reduceEqDiff,Nat.reduceAdd,Nat.reduceLT,Nat.reduceLeDiff,Nat.beq])
 all_goals simp only [uJ,decide_eq_true_eq,decide_eq_false_iff_not,beq_iff_eq,beq_eq_false_iff_ne,ne_eq,ge_iff_le,gt_iff_lt,Bool.and_eq_true,Bool.or_eq_true,Bool.not_eq_true',Bool.not_eq_false'] at *
 all_goals ((repeat' split)<;>first|rfl|(exfalso;omega))
end Go.Proofs.YtpcncggjmabnaaaGreatDoor.V

namespace Go.Proofs.YtpcncggjmabnaaaGreatDoor
noncomputable def iter (env:Env) (f:Nat) (caps:List PV) (stop:Option Nat):Option (List (List PV)):=jT (den env) env f caps stop
def Uy (n:Nat) (caps:List PV) (stop:Option Nat):St:=⟨.rV :: (caps.map .pv++List.replicate (n - (caps.length+1)) .any),[],[],some stop⟩
def ajE:Ex × St→Option (List (List PV))
 |(.exit _,_)=>none
 |(.oV _ _,_)=>none
 |(_,st)=>some st.ys
section
variable {env:Env}
theorem Qo (st:St):ajE (.normal,st)=some st.ys:=(rfl)
theorem acz (st:St):ajE (.ret,st)=some st.ys:=(rfl)
theorem Ja {f:Nat} {fn:gy} {caps:List PV} {stop:Option Nat} (h:env f=some (.code fn)) (hl:caps.length+1=fn.nargs) (hr:fn.results.isEmpty=true):iter env f caps stop=(den env fn.body (Uy fn.ntmps caps stop)).bind ajE:=by
 unfold iter jT
 rw [h]
 simp only [if_pos (And.intro hl hr)]
 show (den env fn.body _).bind _=_
 congr 1
 funext ⟨e,st⟩
 cases e<;>rfl
noncomputable def Fp (env:Env) (slots:List AV) (ps:List Nat) (assign body:ay) (nb:Nat) (x:List PV) (st:St):Option (Ex × St) :=
 (fV slots ps x).bind fun sl=>(den env assign { st with slots:=sl }).bind fun p=>match p with
  |(.normal,st)=>(den env body st).bind fun p=>match p with
   |(.normal,st)=>if nb≤st.boxes.length then some (.normal,{ st with boxes:=st.boxes.take nb }) else none
   |(.oV _ _,_)=>none
   |p=>some p
  |_=>none
theorem Qp {slots:List AV} {ps:List Nat} {assign body:ay} {nb k:Nat} {x:List PV} {xs:List (List PV)} {st:St} :
  rounds (den env) slots ps assign body nb k (x :: xs) st=(Fp env slots ps assign body nb x st).bind fun p=>match p with
   |(.normal,st)=>rounds (den env) slots ps assign body nb (k+1) xs st
   |(e,st)=>some (some (e,k+1),st):=by
 conv=>lhs;unfold rounds
 unfold Fp
 show (fV slots ps x).bind _=_
 cases fV slots ps x with
 |none=>rfl
 |some sl =>
  simp only [Option.bind_some]
  show (den env assign _).bind _=_
  cases den env assign { st with slots:=sl } with
  |none=>rfl
  |some p =>
   obtain ⟨e,s⟩:=p
   simp only [Option.bind_some]
   cases e with
   |normal =>
    simp only
    show (den env body _).bind _=_
    cases den env body s with
    |none=>rfl
    |some p =>
     obtain ⟨e,s⟩:=p
     simp only [Option.bind_some]
     cases e with
     |normal =>
      simp only
      split<;>rfl
     |exit i=>rfl
     |ret=>rfl
     |oV t n=>rfl
   |exit i=>rfl
   |ret=>rfl
   |oV t n=>rfl
theorem agq {g:bQ} {ps:List Nat} {assign body:ay} {st st1:St} {f:Nat} {caps:List PV} {xs:List (List PV)} (hg:st.dA g=some (.func f caps)) (hi:iter env f caps none=some xs)
  (hr:rounds (den env) (st.slots.map AV.froze) ps assign body st.boxes.length 0 xs { st with slots:=st.slots.map AV.froze }=some (none,st1)):den env (.rng g ps assign body) st=some (.normal,{ st1 with slots:=st.slots.map AV.froze }):=by
 rw [mX]
 show ranged (den env) env g ps assign body st=_
 unfold ranged
 rw [hg]
 unfold iter at hi
 simp only [IU,Option.bind_some,hi,hr]
theorem VX (B:Nat→List Box) {g:bQ} {ps:List Nat} {assign body:ay} {st:St} {f:Nat} {caps:List PV} {xs:List (List PV)} (hg:st.dA g=some (.func f caps)) (hi:iter env f caps none=some xs) (hB:st.boxes=B 0)
  (h:∀ j x,xs[j]?=some x→∀ sl0,∃ sl1,Fp env (st.slots.map AV.froze) ps assign body st.boxes.length x ⟨sl0,B j,st.ys,st.stop⟩=some (.normal,⟨sl1,B (j+1),st.ys,st.stop⟩)) :
  den env (.rng g ps assign body) st=some (.normal,⟨st.slots.map AV.froze,B xs.length,st.ys,st.stop⟩):=by
 have key:∀ (l:List (List PV)) (j:Nat),xs.drop j=l→∀ (k:Nat) (sl0:List AV),∃ sl1,rounds (den env) (st.slots.map AV.froze) ps assign body st.boxes.length k l ⟨sl0,B j,st.ys,st.stop⟩=some (none,⟨sl1,B (j+l.length),st.ys,st.stop⟩):=by
  intro l
  induction l with
  |nil=>intro j _ k sl0;exact ⟨sl0,rfl⟩
  |cons x l ih =>
   intro j hj k sl0
   have hx:xs[j]?=some x:=by rw [← List.head?_drop,hj];rfl
   have hd:xs.drop (j+1)=l:=by rw [← List.drop_drop,hj];rfl
   obtain ⟨sl1,q⟩:=h j x hx sl0
   obtain ⟨sl2,q2⟩:=ih (j+1) hd (k+1) sl1
   refine ⟨sl2,?_⟩
   rw [Qp,q]
   simp only [Option.bind_some,q2,List.length_cons]
   rw [show j+1+l.length=j+(l.length+1) by omega]
 obtain ⟨sl1,q⟩:=key xs 0 (by simp) 0 (st.slots.map AV.froze)
 rw [← hB,Nat.zero_add] at q
 have r:=agq hg hi q
 exact r
theorem YT {keep post:List Nat} {id nb:Nat} {b:ay} (n:Nat) (P:Nat→Prop) (S:Nat→St) (R:Nat→Option (Ex × St)) {st:St} (h:st.head keep st.boxes.length=some (S 0)) (hP:P 0) (hS:∀ i,(S i).boxes.length=nb) (hh:∀ i,(S i).head keep nb=some (S i))
  (step:∀ i rb,i<n→P i→(P (i+1)→∀ s,s.head keep nb=some (S (i+1))→kS env id post nb (den env rb s)=R (i+1))→kS env id post nb ((den env b (S i)).bind (next env rb))=R i)
  (last:∀ rb,P n→kS env id post nb ((den env b (S n)).bind (next env rb))=R n) :
  den env (.clean keep post (.block id (.loop keep b))) st=R 0:=by
 refine A8 S R (fun i=>i≤n∧P i) (fun i=>n - i) 0 h ⟨Nat.zero_le _,hP⟩ hS hh fun i rb hi ih=>?_
 by_cases hn:i=n
 ·subst hn;exact last rb hi.2
 ·exact step i rb (by omega) hi.2 fun hp s hs=>ih (i+1) (by omega) ⟨by omega,hp⟩ s hs
noncomputable def VY (env:Env) (body:ay) (nb:Nat):Ex × St→Option (Ex × St)
 |(.normal,st)=>(den env body st).bind fun p=>match p with
  |(.normal,st)=>if nb≤st.boxes.length then some (.normal,{ st with boxes:=st.boxes.take nb }) else none
  |(.oV _ _,_)=>none
  |p=>some p
 |_=>none
def rend (nb:Nat):Ex × St→Option (Ex × St)
 |(.normal,st)=>if nb≤st.boxes.length then some (.normal,{ st with boxes:=st.boxes.take nb }) else none
 |(.oV _ _,_)=>none
 |p=>some p
theorem YU (slots:List AV) (ps:List Nat) (assign body:ay) (nb:Nat) (x:List PV) (st:St):Fp env slots ps assign body nb x st=(fV slots ps x).bind fun sl=>(den env assign { st with slots:=sl }).bind (VY env body nb):=by
 unfold Fp
 rfl
theorem Fq (body:ay) (nb:Nat) (st:St):VY env body nb (.normal,st)=(den env body st).bind (rend nb):=by
 rfl
theorem Qq (nb:Nat) (st:St):rend nb (.normal,st)=if nb≤st.boxes.length then some (.normal,{ st with boxes:=st.boxes.take nb }) else none:=(rfl)
theorem YV (nb i:Nat) (st:St):rend nb (.exit i,st)=some (.exit i,st):=(rfl)
theorem acA (nb:Nat) (st:St):rend nb (.ret,st)=some (.ret,st):=(rfl)
theorem acB (slots:List AV):fV slots [] []=some slots:=(rfl)
theorem YW (slots:List AV) (p:Nat) (ps:List Nat) (v:PV) (vs:List PV):fV slots (p :: ps) (v :: vs)=fV (slots.set p (.pv v)) ps vs:=(rfl)
theorem acC (v:PV):AV.froze (.pv v)=.pv v:=(rfl)
theorem YX (sz:Nat) (es:List PV):AV.froze (.row sz es)=.pv (.list sz es):=(rfl)
theorem YZ:AV.froze .any=.any:=(rfl)
theorem Y0 (k:Bool) (l:List AV):AV.froze (.kN k l)=.any:=(rfl)
theorem Y1 (r:Root) (i j:Nat):AV.froze (.ref r i j)=.any:=(rfl)
theorem Y2 (r:Root) (i j:Nat):AV.froze (.oN r i j)=.any:=(rfl)
theorem Uz (i j:Nat):AV.froze (.aI i j)=.aI i j:=(rfl)
theorem acD (f:Nat) (l:List AV):AV.froze (.fn f l)=.fn f l:=(rfl)
theorem Y3:AV.froze .rV=.rV:=(rfl)
end
def Qr:=And.intro @YU (And.intro @Fq (And.intro @Qq (And.intro @YV (And.intro @acA (And.intro @acB (And.intro @YW (And.intro @acC (And.intro @YX (And.intro @YZ (And.intro @Y0 (And.intro @Y1 (And.intro @Y2 (And.intro @Uz (And.intro @acD (And.intro @Y3 (And.intro @Qo @acz))))))))))))))))
end Go.Proofs.YtpcncggjmabnaaaGreatDoor

namespace Go.Proofs.YtpcncggjmabnaaaGreatDoor.V
def sJ (out:List fJ) (i:Nat):List fJ:=match out.getLast? with
 |some x=>if x.start+x.count=(i:Int) then out.dropLast++[⟨x.start,x.count+1⟩] else out++[⟨i,1⟩]
 |none=>[⟨i,1⟩]
def exts (l:List Nat):List fJ:=l.foldl sJ []
theorem gq (pre:List fJ) (x:fJ) (i:Nat):sJ (pre++[x]) i=if x.start+x.count=(i:Int) then pre++[⟨x.start,x.count+1⟩] else pre++[x]++[⟨i,1⟩]:=by
 simp [sJ]
theorem nY (l:List Nat) (i:Nat):exts (l++[i])=sJ (exts l) i:=by simp [exts]
theorem iK {α:Type} (l:List α):l=[]∨∃ p x,l=p++[x]:=by
 rcases List.eq_nil_or_concat l with h|⟨p,x,h⟩
 ·exact .inl h
 ·exact .inr ⟨p,x,by rw [h];simp⟩
theorem xw:∀ (n:Nat) (l:List Nat),l.length=n→∀ i:Nat,∃ pre x,exts (l++[i])=pre++[x]∧x.start+x.count=(i:Int)+1∧0≤x.start∧1≤x.count∧pre.length≤l.length:=by
 intro n
 induction n with
 |zero =>
  intro l hl i
  have:=List.eq_nil_of_length_eq_zero hl
  subst this
  exact ⟨[],⟨i,1⟩,rfl,rfl,by simp,by simp,by simp⟩
 |succ n ih =>
  intro l hl i
  rcases iK l with rfl|⟨p,j,rfl⟩
  ·simp at hl
  ·obtain ⟨pre,x,e,h1,h2,h3,h4⟩:=ih p (by simpa using hl) j
   rw [nY,e,gq]
   split
   ·rename_i hx
    exact ⟨pre,_,rfl,by simp;omega,h2,by simp;omega,by simp;omega⟩
   ·exact ⟨pre++[x],_,rfl,by simp,by simp,by simp,by simp;omega⟩
theorem Jb {n:Nat} (h:n≤lim):IntKind.i64.wrap (((n+1:Nat):Int) - 1)=(n:Int):=by
 rw [bf (by unfold lim at h;omega)];omega
def yI (l:List Nat):List (List PV):=l.map fun (i:Nat)=>[PV.int .i64 (i:Int)]
end Go.Proofs.YtpcncggjmabnaaaGreatDoor.V

namespace Go.Proofs.YtpcncggjmabnaaaGreatDoor.V
def ext (p:Nat→Bool) (n:Nat):List fJ:=exts ((List.range n).filter p)
theorem Qs (p:Nat→Bool):ext p 0=[]:=rfl
theorem oL (p:Nat→Bool) (n:Nat):ext p (n+1)=if p n then sJ (ext p n) n else ext p n:=by
 unfold ext
 rw [List.range_succ,List.filter_append]
 cases h:p n
 ·simp [h]
 ·rw [List.filter_cons_of_pos h,List.filter_nil,nY];rfl
theorem agr {p:Nat→Bool} {n:Nat} (h:n=0∨p (n - 1)=false):sJ (ext p n) n=ext p n++[⟨(n:Int),1⟩]:=by
 unfold ext
 rcases iK ((List.range n).filter p) with h0|⟨l,j,h0⟩
 ·rw [h0];rfl
 ·obtain ⟨pre,⟨s,c⟩,e0,h1,h2,h3,h4⟩:=xw _ l rfl j
  have hmem:j∈(List.range n).filter p:=by rw [h0];simp
  obtain ⟨q1,q2⟩:=List.mem_filter.1 hmem
  have hj:=List.mem_range.1 q1
  simp only at h1
  rw [h0,e0,gq,if_neg]
  intro hh
  simp only at hh
  have:j=n - 1:=by omega
  rcases h with h|h
  ·omega
  ·rw [← this,q2] at h;cases h
theorem pV {p:Nat→Bool} {a:Nat}:∀ k,(∀ s,a≤s→s<a+k→p s=false)→ext p (a+k)=ext p a
 |0,_=>rfl
 |k+1,h=>by
  rw [← Nat.add_assoc,oL,h (a+k) (by omega) (by omega),if_neg (by simp)]
  exact pV k fun s h1 h2=>h s h1 (by omega)
theorem Fv {p:Nat→Bool} {a:Nat} {pre:List fJ} {s0:Int} (h0:ext p a=pre++[⟨s0,a - s0⟩]):∀ k,(∀ s,a≤s→s<a+k→p s=true)→ext p (a+k)=pre++[⟨s0,((a+k:Nat):Int) - s0⟩]
 |0,_=>h0
 |k+1,h=>by
  rw [← Nat.add_assoc,oL,h (a+k) (by omega) (by omega),if_pos rfl,Fv h0 k fun s h1 h2=>h s h1 (by omega),gq,if_pos (by simp only;omega)]
  congr 2
  simp only [fJ.mk.injEq,true_and]
  omega
theorem Y4 {p:Nat→Bool} {a k:Nat} (hn:a=0∨p (a - 1)=false) (h:∀ s,a≤s→s<a+(k+1)→p s=true):ext p (a+(k+1))=ext p a++[⟨(a:Int),((a+(k+1):Nat):Int) - a⟩]:=by
 have h1:ext p (a+1)=ext p a++[⟨(a:Int),((a+1:Nat):Int) - a⟩]:=by
  rw [oL,h a (Nat.le_refl _) (by omega),if_pos rfl,agr hn]
  congr 2
  simp only [fJ.mk.injEq,true_and]
  omega
 have:=Fv (a:=a+1) h1 k fun s h2 h3=>h s (by omega) (by omega)
 rw [show a+(k+1)=a+1+k by omega]
 exact this
theorem Y5 {p q:Nat→Bool} {n:Nat} (h:∀ s,s<n→p s=q s):ext p n=ext q n:=by
 unfold ext
 rw [List.filter_congr fun s hs=>h s (List.mem_range.1 hs)]
def dep (i:Nat) (s:Nat):List End→Int
 |[]=>0
 |x :: l=>(if x.list=i∧x.pos≤s then x.step else 0)+dep i s l
def tot (i:Nat):List End→Int
 |[]=>0
 |x :: l=>(if x.list=i then x.step else 0)+tot i l
theorem xA (i s:Nat):∀ l m:List End,dep i s (l++m)=dep i s l+dep i s m
 |[],m=>by simp [dep]
 |x :: l,m=>by simp only [List.cons_append,dep,xA i s l m];omega
theorem VZ {i s:Nat}:∀ {l:List End},(∀ x∈l,x.pos≤s)→dep i s l=tot i l
 |[],_=>rfl
 |x :: l,h=>by
  have h1:=h x (by simp)
  have ih:=VZ (i:=i) (s:=s) (l:=l) fun y hy=>h y (by simp [hy])
  simp only [dep,tot,ih,h1,and_true]
theorem zN {i s:Nat}:∀ {l:List End},(∀ x∈l,s<x.pos)→dep i s l=0
 |[],_=>rfl
 |x :: l,h=>by
  have h1:=h x (by simp)
  have ih:=zN (i:=i) (s:=s) (l:=l) fun y hy=>h y (by simp [hy])
  simp only [dep,ih]
  rw [if_neg (by omega)];rfl
theorem zO (i:Nat):∀ l m:List End,tot i (l++m)=tot i l+tot i m
 |[],m=>by simp [tot]
 |x :: l,m=>by simp only [List.cons_append,tot,zO i l m];omega
def kT (keep:Bool→Bool→Bool) (l:List End) (s:Nat):Bool:=keep (decide (dep 0 s l > 0)) (decide (dep 1 s l > 0))
def jK (x:End):List End→Bool
 |[]=>false
 |y :: _=>decide (y.pos=x.pos)
def Bd (keep:Bool→Bool→Bool):List End→Int→Int→Int→Bool→List fJ
 |[],_,_,_,_=>[]
 |x :: l,d0,d1,st,ins =>
  if jK x l then Bd keep l (if x.list=0 then d0+x.step else d0) (if x.list=1 then d1+x.step else d1) st ins
  else
   (if !keep (decide ((if x.list=0 then d0+x.step else d0) > 0)) (decide ((if x.list=1 then d1+x.step else d1) > 0))&&ins then [⟨st,x.pos - st⟩] else []) ++
   Bd keep l (if x.list=0 then d0+x.step else d0) (if x.list=1 then d1+x.step else d1)
    (if keep (decide ((if x.list=0 then d0+x.step else d0) > 0)) (decide ((if x.list=1 then d1+x.step else d1) > 0))&&!ins then x.pos else st)
    (keep (decide ((if x.list=0 then d0+x.step else d0) > 0)) (decide ((if x.list=1 then d1+x.step else d1) > 0)))
def Asc:List End→Prop
 |[]=>True
 |[_]=>True
 |x :: y :: l=>x.pos≤y.pos∧Asc (y :: l)
theorem Asc.tail {x:End} {l:List End} (h:Asc (x :: l)):Asc l:=by
 cases l with
 |nil=>trivial
 |cons y l=>exact h.2
theorem Asc.le {x:End}:∀ {l:List End},Asc (x :: l)→∀ y∈l,x.pos≤y.pos
 |[],_,y,hy=>by cases hy
 |z :: l,h,y,hy=>by
  rcases List.mem_cons.1 hy with rfl|hy
  ·exact h.1
  ·exact Nat.le_trans h.1 (Asc.le h.2 y hy)
def atStart (N:Nat):List End→Nat→Prop
 |[],a=>a=N
 |x :: _,a=>a=x.pos
theorem xB {keep:Bool→Bool→Bool} (hk:keep false false=false) {L:List End} {N:Nat} (hN:∀ x∈L,x.pos≤N) (h0:tot 0 L=0) (h1:tot 1 L=0) :
  ∀ (R P:List End) (out:List fJ) (st:Int) (ins:Bool) (a:Nat),L=P++R→Asc R→(∀ x∈P,∀ y∈R,x.pos≤y.pos)→(∀ x∈P,x.pos≤a) →
   atStart N R a→ext (kT keep L) a=out++(if ins then [⟨st,a - st⟩] else [])→(a=0∨ins=true∨kT keep L (a - 1)=false)→(R=[]→ins=false)→(a=0→ins=false) →
   ext (kT keep L) N=out++Bd keep R (tot 0 P) (tot 1 P) st ins
 |[],P,out,st,ins,a,hL,_,_,_,ha,he,hi,hr,_=>by
  have ha:a=N:=ha
  rw [hr rfl] at he
  rw [ha] at he
  simpa [Bd] using he
 |x :: l,P,out,st,ins,a,hL,hs,hP,hPa,ha,he,hi,_,hz=>by
  have ha:a=x.pos:=ha
  subst ha
  have hL2:L=(P++[x])++l:=by rw [hL];simp
  have t0:tot 0 (P++[x])=(if x.list=0 then tot 0 P+x.step else tot 0 P):=by
   rw [zO];simp only [tot];split<;>omega
  have t1:tot 1 (P++[x])=(if x.list=1 then tot 1 P+x.step else tot 1 P):=by
   rw [zO];simp only [tot];split<;>omega
  have hP2:∀ z∈P++[x],∀ y∈l,z.pos≤y.pos:=by
   intro z hz y hy
   rcases List.mem_append.1 hz with hz|hz
   ·exact hP z hz y (by simp [hy])
   ·simp only [List.mem_singleton] at hz;rw [hz];exact hs.le y hy
  have hPx:∀ z∈P++[x],z.pos≤x.pos:=by
   intro z hz
   rcases List.mem_append.1 hz with hz|hz
   ·exact hP z hz x (by simp)
   ·simp only [List.mem_singleton] at hz;rw [hz];exact Nat.le_refl _
  unfold Bd
  rw [← t0,← t1]
  by_cases hn:jK x l=true
  ·rw [if_pos hn]
   cases l with
   |nil=>simp [jK] at hn
   |cons y l =>
    have hy:y.pos=x.pos:=by simpa [jK] using hn
    exact xB hk hN h0 h1 (y :: l) (P++[x]) out st ins x.pos hL2 hs.tail hP2 hPx hy.symm he hi (fun e=>by cases e) hz
  ·rw [if_neg hn]
   -- the next place
   obtain ⟨b,hb,hbl,hbx,hbm⟩:∃ b,x.pos≤b∧(∀ y∈l,b≤y.pos)∧(l≠[]→x.pos<b)∧atStart N l b:=by
    cases l with
    |nil=>exact ⟨N,hN x (by rw [hL];simp),fun y hy=>(by cases hy),fun h=>absurd rfl h,rfl⟩
    |cons y l =>
     have hy:y.pos≠x.pos:=by simpa [jK] using hn
     have:=hs.1
     exact ⟨y.pos,hs.1,fun z hz=>by
      rcases List.mem_cons.1 hz with rfl|hz
      ·exact Nat.le_refl _
      ·exact hs.tail.le z hz,fun _=>by omega,rfl⟩
   have hconst:∀ s,x.pos≤s→s<b→kT keep L s=keep (decide (tot 0 (P++[x]) > 0)) (decide (tot 1 (P++[x]) > 0)):=by
    intro s hs1 hs2
    unfold kT
    have e:∀ i,dep i s L=tot i (P++[x]):=by
     intro i
     rw [hL2,xA,VZ (fun z hz=>by have:=hPx z hz;omega),zN (fun z hz=>by have:=hbl z hz;omega)]
     omega
    rw [e 0,e 1]
   have hlast:l=[]→keep (decide (tot 0 (P++[x]) > 0)) (decide (tot 1 (P++[x]) > 0))=false:=by
    intro hl
    have e0:tot 0 (P++[x])=0:=by rw [← h0,hL2,hl,List.append_nil]
    have e1:tot 1 (P++[x])=0:=by rw [← h1,hL2,hl,List.append_nil]
    rw [e0,e1]
    exact hk
   have hPb:∀ z∈P++[x],z.pos≤b:=fun z hz=>Nat.le_trans (hPx z hz) hb
   obtain ⟨k,rfl⟩:∃ k,b=x.pos+k:=⟨b - x.pos,by omega⟩
   generalize keep (decide (tot 0 (P++[x]) > 0)) (decide (tot 1 (P++[x]) > 0))=now at *
   have ahV:k≠0→kT keep L (x.pos+k - 1)=now:=fun hk0=>hconst _ (by omega) (by omega)
   cases now with
   |false =>
    have hf:=pV (p:=kT keep L) (a:=x.pos) k fun s q1 q2=>hconst s q1 q2
    cases ins with
    |false =>
     simp only [Bool.not_false,Bool.and_false,Bool.false_eq_true,if_false,List.nil_append,Bool.and_true,Bool.false_and,List.append_nil,if_true] at he ⊢
     refine xB hk hN h0 h1 l (P++[x]) out _ false (x.pos+k) hL2 hs.tail hP2 hPb hbm ?_ ?_ (fun _=>rfl) (fun _=>rfl)
     ·rw [hf,he];simp
     ·by_cases hk0:k=0
      ·subst hk0
       rcases hi with hi|hi|hi
       ·exact .inl hi
       ·cases hi
       ·exact .inr (.inr hi)
      ·exact .inr (.inr (ahV hk0))
    |true =>
     simp only [Bool.not_false,Bool.and_self,if_true,Bool.not_true,Bool.and_false,Bool.false_and,Bool.false_eq_true,if_false] at he ⊢
     rw [← List.append_assoc]
     by_cases hk0:k=0
     ·subst hk0
      have hl:l=[]:=by
       cases l with
       |nil=>rfl
       |cons y l=>have:=hbx (by simp);omega
      subst hl
      have hb2:x.pos+0=N:=hbm
      simp only [Bd,List.append_nil]
      rw [← hb2]
      exact he
     ·refine xB hk hN h0 h1 l (P++[x]) _ _ false (x.pos+k) hL2 hs.tail hP2 hPb hbm ?_ (.inr (.inr (ahV hk0))) (fun _=>rfl) (fun _=>rfl)
      rw [hf,he];simp
   |true =>
    have hl:l≠[]:=fun e=>by have:=hlast e;cases this
    have hk1:=hbx hl
    obtain ⟨j,rfl⟩:∃ j,k=j+1:=⟨k - 1,by omega⟩
    cases ins with
    |false =>
     simp only [Bool.not_true,Bool.false_and,Bool.false_eq_true,if_false,List.nil_append,Bool.not_false,Bool.and_self,if_true,List.append_nil] at he ⊢
     refine xB hk hN h0 h1 l (P++[x]) out _ true (x.pos+(j+1)) hL2 hs.tail hP2 hPb hbm ?_ (.inr (.inl rfl)) (fun e=>absurd e hl) (fun e=>by omega)
     have hi2:x.pos=0∨kT keep L (x.pos - 1)=false:=by
      rcases hi with hi|hi|hi
      ·exact .inl hi
      ·cases hi
      ·exact .inr hi
     rw [Y4 hi2 fun s q1 q2=>hconst s q1 q2,he]
     simp
    |true =>
     simp only [Bool.not_true,Bool.false_and,Bool.false_eq_true,if_false,List.nil_append,Bool.and_false,if_true] at he ⊢
     refine xB hk hN h0 h1 l (P++[x]) out st true (x.pos+(j+1)) hL2 hs.tail hP2 hPb hbm ?_ (.inr (.inl rfl)) (fun e=>absurd e hl) (fun e=>by omega)
     rw [Fv he (j+1) fun s q1 q2=>hconst s q1 q2]
     simp
theorem acE {keep:Bool→Bool→Bool} (hk:keep false false=false) {L:List End} {N:Nat} (hs:Asc L) (hN:∀ x∈L,x.pos≤N) (h0:tot 0 L=0) (h1:tot 1 L=0) :
  Bd keep L 0 0 0 false=ext (kT keep L) N:=by
 cases L with
 |nil =>
  have:ext (kT keep ([]:List End)) (0+N)=ext (kT keep []) 0:=pV N fun s _ _=>hk
  rw [Nat.zero_add] at this
  rw [this];rfl
 |cons x l =>
  have hb:ext (kT keep (x :: l)) (0+x.pos)=ext (kT keep (x :: l)) 0:=pV x.pos fun s _ h2=>by
   unfold kT
   have e:∀ i,dep i s (x :: l)=0:=fun i=>zN fun y hy=>by
    rcases List.mem_cons.1 hy with rfl|hy
    ·omega
    ·have:=hs.le y hy;omega
   rw [e 0,e 1]
   exact hk
  rw [Nat.zero_add] at hb
  have:=xB hk hN h0 h1 (x :: l) [] [] 0 false x.pos rfl hs (fun z hz=>by cases hz) (fun z hz=>by cases hz) rfl (by rw [hb];rfl) (by
   by_cases h:x.pos=0
   ·exact .inl h
   ·refine .inr (.inr ?_)
    unfold kT
    have e:∀ i,dep i (x.pos - 1) (x :: l)=0:=fun i=>zN fun y hy=>by
     rcases List.mem_cons.1 hy with rfl|hy
     ·omega
     ·have:=hs.le y hy;omega
    rw [e 0,e 1]
    exact hk) (fun e=>by cases e) (fun _=>rfl)
  rw [this];rfl
end Go.Proofs.YtpcncggjmabnaaaGreatDoor.V

namespace Go.Proofs.YtpcncggjmabnaaaGreatDoor.V
abbrev Wd:=BitVec 64
structure Bm where
 size:Int
 ws:List Wd
 deriving DecidableEq
def eW (w:Wd):PV:=.int .u64 (w.toNat:Int)
def iW (b:Bm):PV:=.agg [.int .i64 b.size,.list 1 (b.ws.map eW)]
def bit (ws:List Wd) (i:Nat):Bool:=(ws.getD (i / 64) 0).getLsbD (i % 64)
theorem UA {ws:List Wd} {k:Nat} (h:k<ws.length) {j:Nat} (hj:j<64):bit ws (64 * k+j)=ws[k].getLsbD j:=by
 unfold bit
 have e1:(64 * k+j) / 64=k:=by omega
 have e2:(64 * k+j) % 64=j:=by omega
 rw [e1,e2];simp [h]
theorem acF {ws:List Wd} {i:Nat} (h:i / 64<ws.length):bit ws i=ws[i / 64].getLsbD (i % 64):=by
 unfold bit;simp [h]
theorem MC {ws:List Wd} {i:Nat} (h:64 * ws.length≤i):bit ws i=false:=by
 unfold bit
 have:ws.length≤i / 64:=by omega
 rw [List.getD_eq_getElem?_getD,List.getElem?_eq_none this];simp
theorem ags (w:Wd):BitVec.ofInt 64 (w.toNat:Int)=w:=by
 apply BitVec.eq_of_toNat_eq
 have:=w.isLt
 rw [BitVec.toNat_ofInt]
 omega
theorem acG (n:Int):IntKind.u64.wrap n=n % 2 ^ 64:=by
 simp only [IntKind.wrap,IntKind.bits,IntKind.signed,Bool.false_and,Bool.false_eq_true,if_false]
theorem acH (w:Wd):IntKind.u64.wrap (w.toNat:Int)=(w.toNat:Int):=by
 have:=w.isLt
 simp only [IntKind.wrap,IntKind.bits,IntKind.signed,Bool.false_and,Bool.false_eq_true,if_false]
 omega
theorem aoY (a b:Wd):IntKind.u64.wrap ((BitVec.ofInt IntKind.u64.bits (a.toNat:Int) ||| BitVec.ofInt IntKind.u64.bits (b.toNat:Int)).toNat:Int)=((a ||| b).toNat:Int):=by
 show IntKind.u64.wrap ((BitVec.ofInt 64 (a.toNat:Int) ||| BitVec.ofInt 64 (b.toNat:Int)).toNat:Int)=_
 rw [ags,ags,acH]
theorem ahW (a b:Wd):IntKind.u64.wrap ((BitVec.ofInt IntKind.u64.bits (a.toNat:Int) &&& BitVec.ofInt IntKind.u64.bits (b.toNat:Int)).toNat:Int)=((a &&& b).toNat:Int):=by
 show IntKind.u64.wrap ((BitVec.ofInt 64 (a.toNat:Int) &&& BitVec.ofInt 64 (b.toNat:Int)).toNat:Int)=_
 rw [ags,ags,acH]
theorem ahX (w:Wd) {s:Int} {n:Nat} (hs:s=(n:Int)):(w.toNat:Int).fdiv (2 ^ (min s.toNat IntKind.u64.bits))=((w >>> n).toNat:Int):=by
 subst hs
 rw [BitVec.toNat_ushiftRight,Nat.shiftRight_eq_div_pow,Int.toNat_natCast]
 have hw:=w.isLt
 show (w.toNat:Int).fdiv (2 ^ (min n 64))=_
 by_cases h:n≤64
 ·have h2:(0:Int)≤2 ^ n:=by have:=Int.natCast_nonneg (2 ^ n);push_cast at this;exact this
  rw [Nat.min_eq_left h,Int.fdiv_eq_ediv_of_nonneg _ h2]
  push_cast
  rfl
 ·rw [Nat.min_eq_right (by omega),Int.fdiv_eq_ediv_of_nonneg _ (by decide)]
  have h1:w.toNat / 2 ^ n=0:=Nat.div_eq_of_lt (Nat.lt_of_lt_of_le hw (Nat.pow_le_pow_right (by decide) (by omega)))
  rw [h1]
  omega
theorem amu (w:Wd) {s:Int} {n:Nat} (hs:s=(n:Int)):IntKind.u64.wrap ((w.toNat:Int) * 2 ^ (min s.toNat IntKind.u64.bits))=((w <<< n).toNat:Int):=by
 subst hs
 rw [BitVec.toNat_shiftLeft,Nat.shiftLeft_eq,Int.toNat_natCast]
 have hw:=w.isLt
 rw [acG]
 show ((w.toNat:Int) * 2 ^ (min n 64)) % 2 ^ 64=_
 by_cases h:n≤64
 ·have e2:((2 ^ n:Nat):Int)=2 ^ n:=by push_cast;rfl
  have e3:((2 ^ 64:Nat):Int)=2 ^ 64:=by decide
  rw [Nat.min_eq_left h,Int.natCast_emod,Int.natCast_mul,e2,e3]
 ·rw [Nat.min_eq_right (by omega)]
  have e:2 ^ n=2 ^ 64 * 2 ^ (n - 64):=by rw [← Nat.pow_add];congr 1;omega
  have:w.toNat * 2 ^ n % 2 ^ 64=0:=by
   rw [e,Nat.mul_left_comm];exact Nat.mul_mod_right _ _
  rw [this]
  exact Int.mul_emod_left _ _
theorem amv (a b:Wd):IntKind.u64.wrap ((a.toNat:Int) - (b.toNat:Int))=((a - b).toNat:Int):=by
 have h1:=a.isLt
 have h2:=b.isLt
 simp only [IntKind.wrap,IntKind.bits,IntKind.signed,Bool.false_and,Bool.false_eq_true,if_false]
 rw [BitVec.toNat_sub]
 omega
theorem ahY (a b:Wd):((a.toNat:Int)==(b.toNat:Int))=decide (a=b):=by
 by_cases h:a=b
 ·subst h;simp
 ·have:a.toNat≠b.toNat:=fun e=>h (BitVec.eq_of_toNat_eq e)
  simp [h];omega
def wo (k:Nat) (a b:Int):Wd :=
 if max (a - 64 * (k:Int)) 0 ≥ min (b - 64 * (k:Int)) 64 then 0
 else (BitVec.allOnes 64 >>> (64 - (min (b - 64 * (k:Int)) 64 - max (a - 64 * (k:Int)) 0)).toNat) <<< (max (a - 64 * (k:Int)) 0).toNat
theorem Qu (k:Nat) (a b:Int) {j:Nat} (hj:j<64):(wo k a b).getLsbD j=decide (a≤64 * (k:Int)+j∧64 * (k:Int)+j<b):=by
 unfold wo
 split
 ·rename_i h
  rw [show (0:Wd).getLsbD j=false by simp]
  symm
  apply decide_eq_false
  omega
 ·rename_i h
  rw [BitVec.getLsbD_shiftLeft,BitVec.getLsbD_ushiftRight,BitVec.getLsbD_allOnes]
  rw [Bool.eq_iff_iff]
  simp only [Bool.and_eq_true,decide_eq_true_eq,Bool.not_eq_true',decide_eq_false_iff_not]
  omega
def bitsOf (w:Wd):List Nat:=(List.range 64).filter fun j=>w.getLsbD j
theorem Y6:bitsOf 0=[]:=by
 unfold bitsOf
 rw [List.filter_eq_nil_iff]
 intro j _
 simp
theorem V3 {w:Wd} (h:w≠0):Lib.ctz 64 w.toNat<64∧(∀ j,j<Lib.ctz 64 w.toNat→w.getLsbD j=false)∧w.getLsbD (Lib.ctz 64 w.toNat)=true∧∀ j,j<64→(w &&& (w - 1)).getLsbD j=(w.getLsbD j&&decide (j≠Lib.ctz 64 w.toNat)):=by
 have h0:0<w.toNat:=by
  rcases Nat.eq_zero_or_pos w.toNat with e|e
  ·exact absurd (BitVec.eq_of_toNat_eq (by simpa using e)) h
  ·exact e
 have hl:Lib.ctz 64 w.toNat=Lib.ctzFrom 64 w.toNat:=by unfold Lib.ctz;rw [if_neg (by omega)]
 rw [hl]
 obtain ⟨m,h1,h2⟩:=Lib.ctzFrom_spec 64 w.toNat h0 w.isLt
 generalize Lib.ctzFrom 64 w.toNat=c at h1 h2
 have hbit:∀ j,w.getLsbD j=if j<c then false else (2 * m+1).testBit (j - c):=fun j=>by
  rw [← BitVec.testBit_toNat,h1,Nat.testBit_two_pow_mul]
  by_cases hc:j<c
  ·rw [if_pos hc,decide_eq_false (by omega),Bool.false_and]
  ·rw [if_neg hc,decide_eq_true (by omega),Bool.true_and]
 have hsub:(w - 1).toNat=2 ^ c * (2 * m)+(2 ^ c - 1):=by
  have hp:0<2 ^ c:=Nat.pow_pos (by decide)
  rw [BitVec.toNat_sub]
  have:=w.isLt
  have e1:(1:Wd).toNat=1:=rfl
  rw [e1,show 2 ^ 64 - 1+w.toNat=(w.toNat - 1)+2 ^ 64 by omega,Nat.add_mod_right,Nat.mod_eq_of_lt (by omega),h1,Nat.mul_add,Nat.mul_one]
  omega
 have amw:∀ j,(w - 1).getLsbD j=if j<c then true else (2 * m).testBit (j - c):=fun j=>by
  rw [← BitVec.testBit_toNat,hsub]
  have hp:2 ^ c - 1<2 ^ c:=by have:0<2 ^ c:=Nat.pow_pos (by decide);omega
  by_cases hc:j<c
  ·rw [if_pos hc,Nat.testBit_two_pow_mul_add _ hp,if_pos hc,Nat.testBit_two_pow_sub_one]
   simp [hc]
  ·rw [if_neg hc,Nat.testBit_two_pow_mul_add _ hp,if_neg hc]
 refine ⟨h2,fun j hj=>by rw [hbit,if_pos hj],by rw [hbit,if_neg (Nat.lt_irrefl _),Nat.sub_self];simp,fun j hj=>?_⟩
 rw [BitVec.getLsbD_and,hbit,amw]
 by_cases hc:j<c
 ·simp [hc]
 ·rw [if_neg hc,if_neg hc]
  by_cases he:j=c
  ·subst he;simp
  ·obtain ⟨d,hd⟩:∃ d,j - c=d+1:=⟨j - c - 1,by omega⟩
   rw [hd,Nat.testBit_succ,Nat.testBit_succ,show (2 * m+1) / 2=m by omega,show 2 * m / 2=m by omega]
   simp [he]
theorem MF {p q:Nat→Bool} {c n:Nat} (hc:c<n) (hlow:∀ j,j<c→p j=false) (hp:p c=true) (hq:∀ j,j<n→q j=(p j&&decide (j≠c))):(List.range n).filter p=c :: (List.range n).filter q:=by
 have e:List.range n=List.range c++(c :: (List.range (n - c - 1)).map (c+1+·)):=by
  apply List.ext_getElem
  ·simp;omega
  ·intro i h1 h2
   simp only [List.length_range] at h1
   rw [List.getElem_range,List.getElem_append]
   split
   ·simp
   ·rename_i h
    simp only [List.length_range] at h ⊢
    obtain ⟨d,hd⟩:∃ d,i=c+d:=⟨i - c,by omega⟩
    subst hd
    cases d with
    |zero=>simp
    |succ d=>simp [show c+(d+1) - c=d+1 by omega];omega
 have hq':∀ j,j∈List.range n→q j=(p j&&decide (j≠c)):=fun j hj=>hq j (List.mem_range.1 hj)
 rw [List.filter_congr hq',e,List.filter_append,List.filter_append]
 have h1:(List.range c).filter p=[]:=by
  rw [List.filter_eq_nil_iff];intro j hj;rw [hlow j (List.mem_range.1 hj)];simp
 have h2:(List.range c).filter (fun j=>p j&&decide (j≠c))=[]:=by
  rw [List.filter_eq_nil_iff];intro j hj;rw [hlow j (List.mem_range.1 hj)];simp
 rw [h1,h2,List.nil_append,List.nil_append,List.filter_cons_of_pos hp,List.filter_cons_of_neg (by simp)]
 congr 1
 apply List.filter_congr
 intro j hj
 obtain ⟨d,_,rfl⟩:=List.mem_map.1 hj
 simp;omega
theorem Y7 {w:Wd} (h:w≠0):bitsOf w=Lib.ctz 64 w.toNat :: bitsOf (w &&& (w - 1)):=by
 obtain ⟨h1,h2,h3,h4⟩:=V3 h
 exact MF h1 h2 h3 h4
def wu (ws:List Wd) (a b:Int):List Nat:=(List.range (64 * ws.length)).filter fun (i:Nat)=>bit ws i&&decide (a≤(i:Int)∧(i:Int)<b)
theorem range_add (n m:Nat):List.range (n+m)=List.range n++(List.range m).map (n+·):=List.range_add
theorem UC {ws:List Wd} {k:Nat} (h:k<ws.length) (a b:Int):(List.range (64 * (k+1))).filter (fun (i:Nat)=>bit ws i&&decide (a≤(i:Int)∧(i:Int)<b))
  = (List.range (64 * k)).filter (fun (i:Nat)=>bit ws i&&decide (a≤(i:Int)∧(i:Int)<b))++(bitsOf (ws[k] &&& wo k a b)).map (64 * k+·):=by
 rw [show 64 * (k+1)=64 * k+64 by omega,List.range_add,List.filter_append,List.filter_map]
 congr 2
 unfold bitsOf
 apply List.filter_congr
 intro j hj
 have hj:=List.mem_range.1 hj
 rw [BitVec.getLsbD_and,Qu k a b hj]
 show (bit ws (64 * k+j)&&_)=_
 rw [UA h hj]
 push_cast
 rfl
def setW (ws:List Wd) (a b:Int):List Wd:=ws.mapIdx fun k w=>w ||| wo k a b
theorem V4 {ws:List Wd} {a b:Int} {i:Nat} (h:i<64 * ws.length):bit (setW ws a b) i=(bit ws i || decide (a≤(i:Int)∧(i:Int)<b)):=by
 have hk:i / 64<ws.length:=by omega
 have hk2:i / 64<(setW ws a b).length:=by simp [setW,hk]
 rw [acF hk,acF hk2]
 simp only [setW,List.getElem_mapIdx,BitVec.getLsbD_or]
 rw [Qu _ _ _ (Nat.mod_lt _ (by decide))]
 congr 2
 have:(64 * ((i / 64:Nat):Int))+((i % 64:Nat):Int)=(i:Int):=by omega
 rw [this]
def l7 (n:Int):Int:=(n+63) / 64
def okB (b:Bm):Bool:=decide (0≤b.size∧b.size≤4096∧(b.ws.length:Int)=l7 b.size)&&(List.range (64 * b.ws.length)).all fun (i:Nat)=>decide ((i:Int)<b.size) || !bit b.ws i
theorem qW {b:Bm}:okB b=true ↔ (0≤b.size∧b.size≤4096∧(b.ws.length:Int)=l7 b.size)∧∀ i:Nat,b.size≤(i:Int)→bit b.ws i=false:=by
 unfold okB
 simp only [Bool.and_eq_true,decide_eq_true_eq,List.all_eq_true,List.mem_range,Bool.or_eq_true,Bool.not_eq_true']
 refine and_congr Iff.rfl ⟨fun h i hi=>?_,fun h i hi=>?_⟩
 ·by_cases c:i<64 * b.ws.length
  ·exact (h i c).resolve_left (by omega)
  ·exact MC (by omega)
 ·by_cases c:(i:Int)<b.size
  ·exact .inl c
  ·exact .inr (h i (by omega))
theorem jy {b:Bm} (h:okB b=true):0≤b.size∧b.size≤4096∧b.ws.length≤64∧b.size≤64 * (b.ws.length:Int)∧64 * (b.ws.length:Int)<b.size+64:=by
 have:=(qW.1 h).1
 unfold l7 at this
 omega
theorem acI {b:Bm} (h:okB b=true) {i:Nat} (hb:bit b.ws i=true):(i:Int)<b.size:=by
 rcases Int.lt_or_le (i:Int) b.size with c|c
 ·exact c
 ·rw [(qW.1 h).2 i c] at hb;cases hb
theorem acJ {b:Bm} (h:0≤b.size∧b.size≤4096∧(b.ws.length:Int)=l7 b.size):okB b=true ↔ (b.size % 64=0∨∀ (hw:b.ws.length - 1<b.ws.length),b.ws[b.ws.length - 1] >>> (b.size % 64).toNat=0):=by
 rw [qW]
 unfold l7 at h ⊢
 constructor
 ·rintro ⟨_,h2⟩
  by_cases c:b.size % 64=0
  ·exact .inl c
  ·refine .inr fun hw=>?_
   apply BitVec.eq_of_getLsbD_eq
   intro j hj
   rw [BitVec.getLsbD_ushiftRight]
   by_cases cj:(b.size % 64).toNat+j<64
   ·rw [← UA hw cj,h2 _ (by omega)];simp
   ·rw [BitVec.getLsbD_of_ge _ _ (by omega)];simp
 ·intro hr
  refine ⟨by omega,fun i hi=>?_⟩
  by_cases c:i<64 * b.ws.length
  ·have hw:b.ws.length - 1<b.ws.length:=by omega
   have hk:i / 64=b.ws.length - 1:=by omega
   rcases hr with hr|hr
   ·omega
   ·have:=congrArg (fun w:Wd=>w.getLsbD (i % 64 - (b.size % 64).toNat)) (hr hw)
    simp only [BitVec.getLsbD_ushiftRight,BitVec.getLsbD_zero] at this
    rw [show (b.size % 64).toNat+(i % 64 - (b.size % 64).toNat)=i % 64 by omega] at this
    rw [show i=64 * (b.ws.length - 1)+i % 64 by omega,UA hw (Nat.mod_lt _ (by decide))]
    simpa using this
  ·exact MC (by omega)
def wz (b:Bm):List fJ:=ext (bit b.ws) b.size.toNat
def UD (b:Bm):Int:=if okB b then 0 else 3
theorem acK {b:Bm} (h:okB b=true) (a:Int) (ha:a≤0):wu b.ws a b.size=(List.range b.size.toNat).filter (bit b.ws):=by
 unfold wu
 obtain ⟨h1,h2,h3,h4,h5⟩:=jy h
 rw [show 64 * b.ws.length=b.size.toNat+(64 * b.ws.length - b.size.toNat) by omega,List.range_add,List.filter_append]
 have e:(((List.range (64 * b.ws.length - b.size.toNat)).map (b.size.toNat+·)).filter fun (i:Nat)=>bit b.ws i&&decide (a≤(i:Int)∧(i:Int)<b.size))=[]:=by
  rw [List.filter_eq_nil_iff]
  intro i hi
  obtain ⟨d,_,rfl⟩:=List.mem_map.1 hi
  rw [decide_eq_false (by omega)];simp
 rw [e,List.append_nil]
 apply List.filter_congr
 intro i hi
 have hi:=List.mem_range.1 hi
 rw [decide_eq_true (by omega),Bool.and_true]
end Go.Proofs.YtpcncggjmabnaaaGreatDoor.V

namespace Go.Proofs.YtpcncggjmabnaaaGreatDoor.V
theorem Fz {b:Bm} (h:okB b=true):UD b=0:=by unfold UD;rw [if_pos h]
theorem yB {b:Bm} (h:okB b=false):UD b=3:=by unfold UD;rw [if_neg (by rw [h];exact Bool.false_ne_true)]
theorem q64 {n:Int} (h:0≤n):(n+64 - 1).tdiv 64=l7 n:=by
 unfold l7;rw [Int.tdiv_eq_ediv_of_nonneg (by omega)];congr 1;omega
theorem z64:((64:Int)=0)=False:=eq_false (by decide)
theorem acL {n:Int} (h:0≤n∧n≤4096):cal env 109 [.int .i64 n]=some [(.int .i64 (l7 n),false)]:=by
 have W1:IntKind.i64.wrap (n+64)=n+64:=bf (by omega)
 have W2:IntKind.i64.wrap (n+64 - 1)=n+64 - 1:=bf (by omega)
 have W3:IntKind.i64.wrap (l7 n)=l7 n:=bf (by unfold l7;omega)
 rw [ah ajc rfl];simp only [PS];simp only [start,aN,aT,aJ,aS,aG,aH,aK,aQ,Nat.reduceAdd,Nat.reduceSub]
 simp only [W1,W2,q64 h.1,W3,z64,bK,reduceCtorEq,Nat.reduceEqDiff,Nat.reduceAdd,Nat.reduceLT,Nat.reduceLeDiff,Nat.beq]
theorem acM {b:Bm}:cal env 91 [iW b]=some [(.int .i64 (UD b),false)]:=by
 unfold iW
 have P:∀ x y:PV,part [x,y] 0 (some 2)=some (.agg [x,y]):=fun _ _=>rfl
 by_cases c0:b.size<0
 ·have hE:UD b=3:=yB (by rw [Bool.eq_false_iff];intro h;have:=jy h;omega)
  rw [hE]
  rw [ah I9 rfl];simp only [Hg];simp only [start,aN,aT,aJ,aS,aG,aH,aK,aQ,Nat.reduceAdd,Nat.reduceSub]
  simp only [c0,P,bK,reduceCtorEq,Nat.reduceEqDiff,Nat.reduceAdd,Nat.reduceLT,Nat.reduceLeDiff,Nat.beq]
 ·by_cases c1:b.size > 4096
  ·have hE:UD b=3:=yB (by rw [Bool.eq_false_iff];intro h;have:=jy h;omega)
   rw [hE]
   have F1:(b.size > 4096)=True:=eq_true c1
   rw [ah I9 rfl];simp only [Hg];simp only [start,aN,aT,aJ,aS,aG,aH,aK,aQ,Nat.reduceAdd,Nat.reduceSub]
   simp only [c0,F1,P,bK,reduceCtorEq,Nat.reduceEqDiff,Nat.reduceAdd,Nat.reduceLT,Nat.reduceLeDiff,Nat.beq]
  ·have F1:(b.size > 4096)=False:=eq_false c1
   have e1:=acL (n:=b.size) (by omega)
   by_cases c2:(b.ws.length:Int)=l7 b.size
   ·have F2:((b.ws.length:Int) != l7 b.size)=false:=by simp [c2]
    have hr:=acJ (b:=b) ⟨by omega,by omega,c2⟩
    have hw:=c2
    unfold l7 at hw
    have M:b.size.tmod 64=b.size % 64:=Int.tmod_eq_emod_of_nonneg (by omega)
    by_cases c3:b.size % 64=0
    ·have hE:UD b=0:=Fz (hr.2 (.inl c3))
     rw [hE]
     have F3:(b.size % 64 > 0)=False:=eq_false (by omega)
     rw [ah I9 rfl];simp only [Hg];simp only [start,aN,aT,aJ,aS,aG,aH,aK,aQ,Nat.reduceAdd,Nat.reduceSub]
     simp only [c0,F1,F2,F3,M,e1,z64,P,bK,reduceCtorEq,Nat.reduceEqDiff,Nat.reduceAdd,Nat.reduceLT,Nat.reduceLeDiff,Nat.beq]
    ·have F3:(b.size % 64 > 0)=True:=eq_true (by omega)
     have hi:b.ws.length - 1<b.ws.length:=by omega
     have W:IntKind.i64.wrap ((b.ws.length:Int) - 1)=((b.ws.length - 1:Nat):Int):=by rw [bf (by omega)];omega
     have S0:(b.size % 64<0)=False:=eq_false (by omega)
     have S:=ahX b.ws[b.ws.length - 1] (s:=b.size % 64) (n:=(b.size % 64).toNat) (by omega)
     have B:=ahY (b.ws[b.ws.length - 1] >>> (b.size % 64).toNat) 0
     have B0:((0:Wd).toNat:Int)=0:=rfl
     rw [B0] at B
     have B':(((b.ws[b.ws.length - 1] >>> (b.size % 64).toNat).toNat:Int) != 0)=!decide (b.ws[b.ws.length - 1] >>> (b.size % 64).toNat=0):=by unfold bne;rw [B]
     by_cases c4:b.ws[b.ws.length - 1] >>> (b.size % 64).toNat=0
     ·have hE:UD b=0:=Fz (hr.2 (.inr fun _=>c4))
      rw [hE]
      rw [decide_eq_true c4] at B'
      rw [ah I9 rfl];simp only [Hg];simp only [start,aN,aT,aJ,aS,aG,aH,aK,aQ,Nat.reduceAdd,Nat.reduceSub]
      simp only [c0,F1,F2,F3,M,e1,z64,P,W,S0,S,B',au hi,eW,List.getElem?_map,List.getElem?_eq_getElem hi,bK,reduceCtorEq,Nat.reduceEqDiff,Nat.reduceAdd,Nat.reduceLT,Nat.reduceLeDiff,Nat.beq]
     ·have hE:UD b=3:=yB (by
       rw [Bool.eq_false_iff];intro h
       rcases hr.1 h with h|h
       ·exact c3 h
       ·exact c4 (h hi))
      rw [hE]
      rw [decide_eq_false c4] at B'
      rw [ah I9 rfl];simp only [Hg];simp only [start,aN,aT,aJ,aS,aG,aH,aK,aQ,Nat.reduceAdd,Nat.reduceSub]
      simp only [c0,F1,F2,F3,M,e1,z64,P,W,S0,S,B',au hi,eW,List.getElem?_map,List.getElem?_eq_getElem hi,bK,reduceCtorEq,Nat.reduceEqDiff,Nat.reduceAdd,Nat.reduceLT,Nat.reduceLeDiff,Nat.beq]
   ·have F2:((b.ws.length:Int) != l7 b.size)=true:=by simp [c2]
    have hE:UD b=3:=yB (by rw [Bool.eq_false_iff];intro h;exact c2 (qW.1 h).1.2.2)
    rw [hE]
    rw [ah I9 rfl];simp only [Hg];simp only [start,aN,aT,aJ,aS,aG,aH,aK,aQ,Nat.reduceAdd,Nat.reduceSub]
    simp only [c0,F1,F2,e1,P,bK,reduceCtorEq,Nat.reduceEqDiff,Nat.reduceAdd,Nat.reduceLT,Nat.reduceLeDiff,Nat.beq]
theorem acN {k:Nat} {a b:Int} (hk:k≤100000) (ha:-1000000≤a∧a≤1000000) (hb':-1000000≤b∧b≤1000000):cal env 125 [.int .i64 (k:Nat),.int .i64 a,.int .i64 b]=some [(eW (wo k a b),false)]:=by
 have W0:IntKind.i64.wrap ((k:Int) * 64)=64 * (k:Int):=by rw [bf (by omega)];omega
 have W1:IntKind.i64.wrap (a - 64 * (k:Int))=a - 64 * (k:Int):=bf (by omega)
 have W2:IntKind.i64.wrap (b - 64 * (k:Int))=b - 64 * (k:Int):=bf (by omega)
 have X1:(if a - 64 * (k:Int)<0 then 0 else a - 64 * (k:Int))=max (a - 64 * (k:Int)) 0:=by split<;>omega
 have X2:(if 64<b - 64 * (k:Int) then 64 else b - 64 * (k:Int))=min (b - 64 * (k:Int)) 64:=by split<;>omega
 unfold wo eW
 generalize hf:max (a - 64 * (k:Int)) 0=f at X1 ⊢
 generalize ht:min (b - 64 * (k:Int)) 64=t at X2 ⊢
 by_cases c:f ≥ t
 ·have F1:(f ≥ t)=True:=eq_true c
  rw [if_pos c]
  have B0:((0:Wd).toNat:Int)=0:=rfl
  rw [B0]
  rw [ah acr rfl];simp only [I7];simp only [start,aN,aT,aJ,aS,aG,aH,aK,aQ,Nat.reduceAdd,Nat.reduceSub]
  simp only [W0,W1,W2,X1,X2,F1,bK,reduceCtorEq,Nat.reduceEqDiff,Nat.reduceAdd,Nat.reduceLT,Nat.reduceLeDiff,Nat.beq]
 ·have F1:(f ≥ t)=False:=eq_false c
  rw [if_neg c]
  have W3:IntKind.i64.wrap (t - f)=t - f:=bf (by omega)
  have W4:IntKind.i64.wrap (64 - (t - f))=64 - (t - f):=bf (by omega)
  have A:(18446744073709551615:Int)=((BitVec.allOnes 64).toNat:Int):=rfl
  have S0:(64 - (t - f)<0)=False:=eq_false (by omega)
  have S1:(f<0)=False:=eq_false (by omega)
  have S2:=ahX (BitVec.allOnes 64) (s:=64 - (t - f)) (n:=(64 - (t - f)).toNat) (by omega)
  have S3:=amu (BitVec.allOnes 64 >>> (64 - (t - f)).toNat) (s:=f) (n:=f.toNat) (by omega)
  rw [← A] at S2
  rw [ah acr rfl];simp only [I7];simp only [start,aN,aT,aJ,aS,aG,aH,aK,aQ,Nat.reduceAdd,Nat.reduceSub]
  simp only [W0,W1,W2,W3,W4,X1,X2,F1,S0,S1,S2,S3,bK,reduceCtorEq,Nat.reduceEqDiff,Nat.reduceAdd,Nat.reduceLT,Nat.reduceLeDiff,Nat.beq]
end Go.Proofs.YtpcncggjmabnaaaGreatDoor.V

namespace Go.Proofs.YtpcncggjmabnaaaGreatDoor.V
def ZG (b:Bm):List PV:=[.int .i64 b.size,.list 1 (b.ws.map eW)]
def tz (w:Wd):Nat:=Lib.ctz 64 w.toNat
theorem ajF {w:Wd}:cal env 126 [.int .u64 (w.toNat:Int)]=some [(.int .i64 (tz w:Nat),false)]:=by
 rw [xq ajm]
 have:=w.isLt
 have e:tzX [.int .u64 (w.toNat:Int)]=if (0:Int)≤(w.toNat:Int)∧(w.toNat:Int)<18446744073709551616 then some [(.int .i64 (Lib.ctz 64 (w.toNat:Int).toNat:Nat),false)] else none:=rfl
 rw [e,if_pos (by omega),Int.toNat_natCast]
 rfl
theorem agt {b:Bm} {a:Int} {k:Nat} {w0:Wd} {ys0:List (List PV)} (hk:k≤100000)
  {st:St} (h:st.head [0,1,2,4,5,10,11,12] st.boxes.length=some ⟨[.rV,.pv (.dR (ZG b) 0),.pv (.dR [.int .i64 a] 0),.any,.pv (.int .i64 (k:Nat)),.pv (eW w0),.any,.any,.any,.any,.pv (.list 1 (b.ws.map eW)),.pv (.int .i64 b.ws.length),.pv (.int .i64 (k:Nat)),.any,.any,.any,.any,.any,.any,.any,.any,.any,.any,.any,.any,.any,.any,.any,.any,.any,.any,.any,.any,.any,.any,.any,.any,.any,.any],[],ys0,some none⟩) :
  den env EZ st=some (.normal,⟨[.rV,.pv (.dR (ZG b) 0),.pv (.dR [.int .i64 a] 0),.any,.any,.any,.any,.any,.any,.any,.pv (.list 1 (b.ws.map eW)),.pv (.int .i64 b.ws.length),.pv (.int .i64 (k:Nat)),.any,.any,.any,.any,.any,.any,.any,.any,.any,.any,.any,.any,.any,.any,.any,.any,.any,.any,.any,.any,.any,.any,.any,.any,.any,.any],[],ys0++yI ((bitsOf w0).map (64 * k+·)),some none⟩):=by
 unfold EZ
 refine A8 (env:=env) (fun p:Wd × List (List PV)=>⟨[.rV,.pv (.dR (ZG b) 0),.pv (.dR [.int .i64 a] 0),.any,.pv (.int .i64 (k:Nat)),.pv (eW p.1),.any,.any,.any,.any,.pv (.list 1 (b.ws.map eW)),.pv (.int .i64 b.ws.length),.pv (.int .i64 (k:Nat)),.any,.any,.any,.any,.any,.any,.any,.any,.any,.any,.any,.any,.any,.any,.any,.any,.any,.any,.any,.any,.any,.any,.any,.any,.any,.any],[],p.2,some none⟩)
  (fun p=>some (.normal,⟨[.rV,.pv (.dR (ZG b) 0),.pv (.dR [.int .i64 a] 0),.any,.any,.any,.any,.any,.any,.any,.pv (.list 1 (b.ws.map eW)),.pv (.int .i64 b.ws.length),.pv (.int .i64 (k:Nat)),.any,.any,.any,.any,.any,.any,.any,.any,.any,.any,.any,.any,.any,.any,.any,.any,.any,.any,.any,.any,.any,.any,.any,.any,.any,.any],[],p.2++yI ((bitsOf p.1).map (64 * k+·)),some none⟩)) (fun _=>True) (fun p=>(bitsOf p.1).length) (w0,ys0) h trivial (fun _=>rfl) (fun _=>rfl) ?_
 rintro ⟨w,ys⟩ rb _ ih
 simp only [eW] at ih ⊢
 have B:=ahY w 0
 have B0:((0:Wd).toNat:Int)=0:=rfl
 rw [B0] at B
 have B':((w.toNat:Int) != 0)=!decide (w=0):=by unfold bne;rw [B]
 by_cases c:w=0
 ·rw [decide_eq_true c] at B'
  subst c
  simp only [EY,B',Y6,List.map_nil,bK,reduceCtorEq,Nat.reduceEqDiff,Nat.reduceAdd,Nat.reduceLT,Nat.reduceLeDiff,Nat.beq]
  simp only [yI,List.map_nil,List.append_nil]
  rfl
 ·rw [decide_eq_false c] at B'
  have e1:=ajF (w:=w)
  have ht:=(V3 c).1
  have W0:IntKind.i64.wrap ((k:Int) * 64)=64 * (k:Int):=by rw [bf (by omega)];omega
  have W1:IntKind.i64.wrap (64 * (k:Int)+((tz w:Nat):Int))=((64 * k+tz w:Nat):Int):=by unfold tz;rw [bf (by omega)];omega
  have W2:=amv w 1
  have W3:=ahW w (w - 1)
  have B1:((1:Wd).toNat:Int)=1:=rfl
  rw [B1] at W2
  have hc:=Y7 c
  simp only [EY,B',e1,W0,W1,W2,W3,bK,reduceCtorEq,Nat.reduceEqDiff,Nat.reduceAdd,Nat.reduceLT,Nat.reduceLeDiff,Nat.beq]
  rw [ih (w &&& (w - 1),ys++[[.int .i64 ((64 * k+tz w:Nat):Int)]]) (by simp only;rw [hc,List.length_cons];omega) trivial _ rfl]
  rw [hc]
  simp only [yI,List.map_cons,List.append_assoc,List.cons_append,List.nil_append]
  rfl
theorem acO {b:Bm} {a:Int} (hb:b.ws.length≤64) (hs:0≤b.size∧b.size≤4096) (ha:-1000000≤a∧a≤1000000)
  {st:St} (h:st.head [0,1,2,10,11,12] st.boxes.length=some ⟨[.rV,.pv (.dR (ZG b) 0),.pv (.dR [.int .i64 a] 0),.any,.any,.any,.any,.any,.any,.any,.pv (.list 1 (b.ws.map eW)),.pv (.int .i64 b.ws.length),.pv (.int .i64 (0:Nat)),.any,.any,.any,.any,.any,.any,.any,.any,.any,.any,.any,.any,.any,.any,.any,.any,.any,.any,.any,.any,.any,.any,.any,.any,.any,.any],[],[],some none⟩) :
  den env E8 st=some (.normal,⟨[.any,.any,.any,.any,.any,.any,.any,.any,.any,.any,.any,.any,.any,.any,.any,.any,.any,.any,.any,.any,.any,.any,.any,.any,.any,.any,.any,.any,.any,.any,.any,.any,.any,.any,.any,.any,.any,.any,.any],[],yI (wu b.ws a b.size),some none⟩):=by
 unfold E8
 refine bC (env:=env) b.ws.length (fun k=>⟨[.rV,.pv (.dR (ZG b) 0),.pv (.dR [.int .i64 a] 0),.any,.any,.any,.any,.any,.any,.any,.pv (.list 1 (b.ws.map eW)),.pv (.int .i64 b.ws.length),.pv (.int .i64 k),.any,.any,.any,.any,.any,.any,.any,.any,.any,.any,.any,.any,.any,.any,.any,.any,.any,.any,.any,.any,.any,.any,.any,.any,.any,.any],[],yI ((List.range (64 * k)).filter fun (i:Nat)=>bit b.ws i&&decide (a≤(i:Int)∧(i:Int)<b.size)),some none⟩)
  (fun _=>some (.normal,⟨[.any,.any,.any,.any,.any,.any,.any,.any,.any,.any,.any,.any,.any,.any,.any,.any,.any,.any,.any,.any,.any,.any,.any,.any,.any,.any,.any,.any,.any,.any,.any,.any,.any,.any,.any,.any,.any,.any,.any],[],yI (wu b.ws a b.size),some none⟩)) h (fun _=>rfl) (fun _=>rfl) ?_ ?_
 ·intro k rb hi ih
  have hi1:=bG hi (by unfold lim;omega)
  have F1:((k:Int)<(b.ws.length:Int))=True:=eq_true (by omega)
  have e1:=acN (k:=k) (a:=a) (b:=b.size) (by omega) ha (by omega)
  have W3:=ahW b.ws[k] (wo k a b.size)
  rw [UC hi] at ih
  unfold eW at e1
  simp only [E5,F1,e1,W3,ZG,eW,au hi,List.getElem?_map,List.getElem?_eq_getElem hi,bK,reduceCtorEq,Nat.reduceEqDiff,Nat.reduceAdd,Nat.reduceLT,Nat.reduceLeDiff,Nat.beq]
  rw [agt (b:=b) (a:=a) (k:=k) (w0:=b.ws[k] &&& wo k a b.size) (ys0:=yI ((List.range (64 * k)).filter fun (i:Nat)=>bit b.ws i&&decide (a≤(i:Int)∧(i:Int)<b.size))) (by omega)]
  rotate_left
  ·rfl
  simp only [bK,reduceCtorEq,Nat.reduceEqDiff,Nat.reduceAdd,Nat.reduceLT,Nat.reduceLeDiff,Nat.beq]
  rw [ih _ (by simp only [hi1];simp only [yI,List.map_append];rfl)]
 ·intro rb
  simp only [E5,Int.lt_irrefl,bK,reduceCtorEq,Nat.reduceEqDiff,Nat.reduceAdd,Nat.reduceLT,Nat.reduceLeDiff,Nat.beq]
  rfl
theorem agu {b:Bm} {a:Int} (ha:-1000000≤a∧a≤1000000):iter env 124 [.dR (ZG b) 0,.dR [.int .i64 a] 0] none=some (yI (if okB b then wu b.ws a b.size else [])):=by
 have P:part (ZG b) 0 (some 2)=some (iW b):=rfl
 have e1:=acM (b:=b)
 rw [Ja ajl rfl rfl]
 simp only [P7,Uy,aN,aT,aJ,aS,aG,aH,aK,aQ,Nat.reduceAdd,Nat.reduceSub]
 cases c:okB b with
 |false =>
  rw [yB c] at e1
  have Z:((3:Int) != 0)=true:=rfl
  simp only [P,e1,Z,Qr,bK,reduceCtorEq,Nat.reduceEqDiff,Nat.reduceAdd,Nat.reduceLT,Nat.reduceLeDiff,Nat.beq]
  rfl
 |true =>
  rw [Fz c] at e1
  have Z:((0:Int) != 0)=false:=rfl
  obtain ⟨h1,h2,h3,_⟩:=jy c
  have P2:part (ZG b) 1 none=some (.list 1 (b.ws.map eW)):=rfl
  simp only [P,P2,e1,Z,List.length_map,Qr,bK,reduceCtorEq,Nat.reduceEqDiff,Nat.reduceAdd,Nat.reduceLT,Nat.reduceLeDiff,Nat.beq]
  rw [acO (a:=a) h3 ⟨h1,h2⟩ ha]
  rotate_left
  ·rfl
  ·rfl
theorem ajG {b:Bm} {a:Int}:cal env 114 [iW b,.int .i64 a]=some [(.func 124 [.dR (ZG b) 0,.dR [.int .i64 a] 0],false)]:=by
 unfold iW ZG
 rw [ah ajf rfl];simp only [PX];simp only [start,aN,aT,aJ,aS,aG,aH,aK,aQ,Nat.reduceAdd,Nat.reduceSub]
 simp only [bK,reduceCtorEq,Nat.reduceEqDiff,Nat.reduceAdd,Nat.reduceLT,Nat.reduceLeDiff,Nat.beq]
end Go.Proofs.YtpcncggjmabnaaaGreatDoor.V

namespace Go.Proofs.YtpcncggjmabnaaaGreatDoor
def look:List (Nat × AV)→Nat→AV
 |[],_=>.any
 |(j,v) :: l,i=>dV (Nat.beq i j) v (look l i)
def sl (n:Nat) (l:List (Nat × AV)):List AV:=(List.range n).map (look l)
def mapA (f:AV→AV):List (Nat × AV)→List (Nat × AV)
 |[]=>[]
 |(j,v) :: l=>(j,f v) :: mapA f l
def keepA (l:List (Nat × AV)):List Nat→List (Nat × AV)
 |[]=>[]
 |k :: ks=>(k,look l k) :: keepA l ks
def CU:Nat→List PV→List (Nat × AV)
 |_,[]=>[]
 |k,v :: l=>(k,.pv v) :: CU (k+1) l
def Qv (nb:Nat):List (Nat × AV)→Bool
 |[]=>true
 |(_,v) :: l=>AV.low nb v&&Qv nb l
def UE (n:Nat):List Nat→Bool
 |[]=>true
 |k :: ks=>decide (k<n)&&UE n ks
theorem acP (i:Nat) (v:AV) (l:List (Nat × AV)):look ((i,v) :: l) i=v:=by
 show dV (Nat.beq i i) v _=v
 rw [Nat.beq_refl];rfl
theorem look_nil (i:Nat):look [] i=.any:=(rfl)
theorem ajH {n i:Nat} {l:List (Nat × AV)} (h':i<n):(sl n l).getD i .any=look l i:=by
 simp [sl,List.getD_eq_getElem?_getD,h']
theorem agv {n i:Nat} {l:List (Nat × AV)} (h':i<n):(sl n l)[i]?=some (look l i):=by
 simp [sl,h']
theorem nZ (l:List (Nat × AV)) (i j:Nat) (v:AV):look ((j,v) :: l) i=if i=j then v else look l i:=by
 show dV (Nat.beq i j) v _=_
 by_cases h:i=j
 ·subst h;rw [Nat.beq_refl,if_pos rfl];rfl
 ·rw [if_neg h]
  have:Nat.beq i j=false:=by
   cases e:Nat.beq i j with
   |false=>rfl
   |true=>exact absurd (Nat.eq_of_beq_eq_true e) h
  rw [this];rfl
theorem ajI (n i:Nat) (v:AV) (l:List (Nat × AV)):(sl n l).set i v=sl n ((i,v) :: l):=by
 apply List.ext_getElem (by simp [sl])
 intro k h1 h2
 have hk:k<n:=by simpa [sl] using h2
 simp only [sl,List.getElem_set,List.getElem_map,List.getElem_range,nZ]
 by_cases h:i=k
 ·subst h;simp
 ·rw [if_neg h,if_neg (fun e=>h e.symm)]
theorem Y8 {i j:Nat} {v:AV} {l:List (Nat × AV)} (h:(i==j)=false):look ((j,v) :: l) i=look l i:=by
 rw [nZ,if_neg (by simpa using h)]
theorem Jc (f:AV→AV) (hf:f .any=.any):∀ (l:List (Nat × AV)) (i:Nat),look (mapA f l) i=f (look l i)
 |[],i=>hf.symm
 |(j,v) :: l,i=>by
  show look ((j,f v) :: mapA f l) i=_
  rw [nZ,nZ,Jc f hf l i]
  split<;>rfl
theorem MG {f:AV→AV} (hf:f .any=.any) (n:Nat) (l:List (Nat × AV)):(sl n l).map f=sl n (mapA f l):=by
 unfold sl
 rw [List.map_map]
 apply List.map_congr_left
 intro i _
 exact (Jc f hf l i).symm
theorem agw (n d:Nat) (l:List (Nat × AV)):(sl n l).map (AV.kill d)=sl n (mapA (AV.kill d) l):=MG rfl n l
theorem acQ (n d:Nat) (l:List (Nat × AV)):(sl n l).map (AV.dG d)=sl n (mapA (AV.dG d) l):=MG rfl n l
theorem acR (n d y:Nat) (l:List (Nat × AV)):(sl n l).map (AV.iO d y)=sl n (mapA (AV.iO d y) l):=MG rfl n l
theorem acS (n:Nat) (l:List (Nat × AV)):(sl n l).map AV.froze=sl n (mapA AV.froze l):=MG rfl n l
theorem acT (f:AV→AV):mapA f []=[]:=(rfl)
theorem Y9 (f:AV→AV) (j:Nat) (v:AV) (l:List (Nat × AV)):mapA f ((j,v) :: l)=(j,f v) :: mapA f l:=(rfl)
theorem Za (l:List (Nat × AV)):keepA l []=[]:=(rfl)
theorem yC (l:List (Nat × AV)) (k:Nat) (ks:List Nat):keepA l (k :: ks)=(k,look l k) :: keepA l ks:=(rfl)
theorem acU (nb:Nat):Qv nb []=true:=(rfl)
theorem Jd (nb k:Nat) (v:AV) (l:List (Nat × AV)):Qv nb ((k,v) :: l)=(AV.low nb v&&Qv nb l):=(rfl)
theorem acV (n:Nat):UE n []=true:=(rfl)
theorem Je (n k:Nat) (l:List Nat):UE n (k :: l)=(decide (k<n)&&UE n l):=(rfl)
theorem Zb (k:Nat):CU k []=[]:=(rfl)
theorem FB (k:Nat) (v:PV) (l:List PV):CU k (v :: l)=(k,.pv v) :: CU (k+1) l:=(rfl)
theorem yD (l:List (Nat × AV)):∀ (ks:List Nat) (i:Nat),look (keepA l ks) i=if ks.contains i then look l i else .any
 |[],i=>rfl
 |k :: ks,i=>by
  rw [yC,nZ,yD l ks i,List.contains_cons]
  by_cases h:i=k
  ·subst h;simp
  ·have:(i==k)=false:=by simpa using h
   rw [if_neg h,this,Bool.false_or]
theorem Qw (nb n:Nat) (l:List (Nat × AV)):∀ ks:List Nat,UE n ks=true→(Qv nb (keepA l ks)=true ↔ ∀ k∈ks,(look l k).low nb=true)
 |[],_=>by simp [keepA,Qv]
 |k :: ks,h=>by
  rw [Je,Bool.and_eq_true] at h
  rw [yC,Jd,Bool.and_eq_true,Qw nb n l ks h.2]
  simp
theorem V5 {n nb:Nat} {l:List (Nat × AV)} {keep:List Nat} {bx:List Box} {ys:List (List PV)} {sp:Option (Option Nat)} (h:UE n keep=true) (hb:nb≤bx.length) (hl:Qv nb (keepA l keep)=true) :
  St.head ⟨sl n l,bx,ys,sp⟩ keep nb=some ⟨sl n (keepA l keep),bx.take nb,ys,sp⟩:=by
 have e:((sl n l).zipIdx.map fun (v,i)=>if keep.contains i then v else AV.any)=sl n (keepA l keep):=by
  apply List.ext_getElem (by simp [sl])
  intro i h1 h2
  simp only [sl,List.getElem_map,List.getElem_zipIdx,List.getElem_range,yD,Nat.zero_add]
 unfold St.head
 simp only
 rw [e,if_pos]
 rw [Bool.and_eq_true,decide_eq_true_eq]
 refine ⟨?_,hb⟩
 rw [List.all_eq_true]
 intro v hv
 unfold sl at hv
 obtain ⟨i,hi,rfl⟩:=List.mem_map.1 hv
 rw [yD]
 split
 ·rename_i hc
  exact (Qw nb n l keep h).1 hl i (by simpa using hc)
 ·rfl
theorem acW {n nb:Nat} {e:Ex} {l:List (Nat × AV)} {keep:List Nat} {bx:List Box} {ys:List (List PV)} {sp:Option (Option Nat)} (h:UE n keep=true) (hb:nb≤bx.length) (hl:Qv nb (keepA l keep)=true) :
  mY keep nb (e,⟨sl n l,bx,ys,sp⟩)=some (e,⟨sl n (keepA l keep),bx.take nb,ys,sp⟩):=by
 unfold mY
 simp only
 rw [V5 h hb hl]
 rfl
theorem FC:∀ (l:List PV) (k i:Nat),look (CU k l) i=if k≤i then ((l[i - k]?).map AV.pv).getD .any else .any:=by
 intro l
 induction l with
 |nil=>intro k i;simp [CU,look]
 |cons v l ih =>
  intro k i
  rw [FB,nZ,ih]
  by_cases h1:i=k
  ·subst h1;simp
  ·rw [if_neg h1]
   by_cases h2:k≤i
   ·rw [if_pos (by omega),if_pos h2,show i - k=(i - (k+1))+1 by omega,List.getElem?_cons_succ]
   ·rw [if_neg (by omega),if_neg h2]
theorem Zc {n:Nat} {x:kW} {args:List PV} (hn:args.length+1≤n):Tt n x args=⟨sl n ((0,x.av) :: CU 1 args),x.boxes,[],none⟩:=by
 unfold Tt
 congr 1
 apply List.ext_getElem (by simp [sl];omega)
 intro i h1 h2
 simp only [sl,List.getElem_map,List.getElem_range,nZ,FC]
 cases i with
 |zero=>simp
 |succ i =>
  rw [List.getElem_cons_succ,if_neg (by omega),if_pos (by omega),show i+1 - 1=i by omega]
  by_cases hi:i<args.length
  ·rw [List.getElem_append_left (by simpa using hi)]
   simp [hi]
  ·rw [List.getElem_append_right (by simp;omega)]
   simp [hi]
theorem acX {n:Nat} {args:List PV} (hn:args.length≤n):start n args=⟨sl n (CU 0 args),[],[],none⟩:=by
 have key:=FC
 unfold start
 congr 1
 apply List.ext_getElem (by simp [sl];omega)
 intro i h1 h2
 simp only [sl,List.getElem_map,List.getElem_range,key,Nat.zero_le,if_true,Nat.sub_zero]
 by_cases hi:i<args.length
 ·rw [List.getElem_append_left (by simpa using hi)]
  simp [hi]
 ·rw [List.getElem_append_right (by simp;omega)]
  simp [hi]
theorem ajJ (nb:Nat) (v:PV):AV.low nb (.pv v)=true:=(rfl)
theorem agx (nb:Nat):AV.low nb .any=true:=(rfl)
theorem agy (nb:Nat):AV.low nb .rV=true:=(rfl)
theorem agz (nb sz:Nat) (es:List PV):AV.low nb (.row sz es)=true:=(rfl)
theorem acY (nb o j:Nat):AV.low nb (.aI o j)=decide (o<nb):=(rfl)
theorem acZ (nb t off len:Nat):AV.low nb (.ref (.slot t) off len)=true:=(rfl)
theorem ac0 (nb o j off len:Nat):AV.low nb (.ref (.cell o j) off len)=decide (o<nb):=(rfl)
theorem ac1 (nb t i j:Nat):AV.low nb (.oN (.slot t) i j)=true:=(rfl)
theorem ac2 (nb o q i j:Nat):AV.low nb (.oN (.cell o q) i j)=decide (o<nb):=(rfl)
theorem ajK (nb f:Nat) (caps:List AV):AV.low nb (.fn f caps)=caps.all fun c=>match c with
  |.pv _=>true
  |.aI o _=>o<nb
  |_=>false:=(rfl)
def aB:=And.intro @acP (And.intro @Y8 (And.intro @look_nil (And.intro @ajH (And.intro @agv (And.intro @ajI (And.intro @agw (And.intro (And.intro @acQ @acR) (And.intro @acS (And.intro @acT (And.intro @Y9 (And.intro @Za (And.intro @yC (And.intro @acU (And.intro @Jd (And.intro @acV (And.intro @Je (And.intro @Zb (And.intro @FB (And.intro @V5 (And.intro @acW (And.intro @acX (And.intro @Zc (And.intro @ajJ (And.intro @agx (And.intro @agy (And.intro @agz (And.intro @acY (And.intro @acZ (And.intro @ac0 (And.intro @ac1 (And.intro @ac2 (@ajK))))))))))))))))))))))))))))))))
def ak:=And.intro @aB (And.intro @bg (And.intro @acu @yA))
end Go.Proofs.YtpcncggjmabnaaaGreatDoor

namespace Go.Proofs.YtpcncggjmabnaaaGreatDoor.V
theorem Qx:iW ⟨0,[]⟩=.agg [.int .i64 0,.list 1 []]:=rfl
def orW (x y:Wd):Wd:=x ||| y
end Go.Proofs.YtpcncggjmabnaaaGreatDoor.V

namespace Go.Proofs.YtpcncggjmabnaaaGreatDoor.V
theorem sorted_at {l:List Nat} (hs:l.Pairwise (·<·)) {j i:Nat} (h:l[j]?=some i):j≤i∧∀ k∈l.take j,k<i:=by
 obtain ⟨hj,rfl⟩:=List.getElem?_eq_some_iff.1 h
 have hp:=List.pairwise_iff_getElem.1 hs
 refine ⟨?_,fun k hk=>?_⟩
 ·clear h
  induction j with
  |zero=>exact Nat.zero_le _
  |succ j ih =>
   have h1:=ih (by omega)
   have h2:=hp j (j+1) (by omega) hj (by omega)
   omega
 ·obtain ⟨m,hm,rfl⟩:=List.mem_iff_getElem.1 hk
  rw [List.getElem_take]
  simp only [List.length_take] at hm
  exact hp m j (by omega) hj (by omega)
def FD (b:Bm):List Nat:=if okB b then wu b.ws 0 b.size else []
theorem agA {b:Bm} {j i:Nat} (h:(FD b)[j]?=some i):i<4096∧j≤i∧∀ k∈(FD b).take j,k<i:=by
 unfold FD at h ⊢
 split at h
 ·rename_i c
  rw [if_pos c]
  have hs:(wu b.ws 0 b.size).Pairwise (·<·):=List.pairwise_lt_range.filter _
  have hm:=List.mem_of_getElem? h
  simp only [wu,List.mem_filter,List.mem_range,Bool.and_eq_true,decide_eq_true_eq] at hm
  have:=jy c
  exact ⟨by omega,sorted_at hs h⟩
 ·simp at h
def qo (b:Bm):List fJ:=if okB b then wz b else []
theorem ajL (b:Bm):exts (FD b)=qo b:=by
 unfold FD qo wz ext
 split
 ·rename_i c;rw [acK c 0 (by omega)]
 ·rfl
theorem amx {b:Bm}:cal env 95 [iW b]=some [(.list 2 ((qo b).map dD),true)]:=by
 have e1:=ajG (b:=b) (a:=0)
 have eA:∀ a:Bm,iW a=.agg [.int .i64 a.size,.list 1 (a.ws.map eW)]:=fun _=>rfl
 rw [eA] at e1 ⊢
 rw [ah amh rfl];simp only [ab7];simp only [start,aN,aT,aJ,aS,aG,aH,aK,aQ,Nat.reduceAdd,Nat.reduceSub]
 simp only [e1,bK,reduceCtorEq,Nat.reduceEqDiff,Nat.reduceAdd,Nat.reduceLT,Nat.reduceLeDiff,Nat.beq]
 rw [VX (env:=env) (fun j=>[⟨false,[.pv (.int .i64 b.size),.pv (.list 1 (b.ws.map eW))]⟩,⟨false,[.row 2 ((exts ((FD b).take j)).map dD)]⟩]) (xs:=yI (FD b)) rfl (by have:=agu (b:=b) (a:=0) (by omega);exact this) rfl ?_]
 ·simp only [yI,List.length_map,List.take_length,Qr,bK,reduceCtorEq,Nat.reduceEqDiff,Nat.reduceAdd,Nat.reduceLT,Nat.reduceLeDiff,Nat.beq]
  rw [ajL]
 ·intro j x hx sl0
  simp only [yI,List.getElem?_map,Option.map_eq_some_iff] at hx
  obtain ⟨i,hi,rfl⟩:=hx
  obtain ⟨k1,k2,k3⟩:=agA hi
  have hlim:lim=1073741824:=rfl
  have hj:=(List.getElem?_eq_some_iff.1 hi).1
  have ht:(FD b).take (j+1)=(FD b).take j++[i]:=by rw [List.take_add_one,hi];rfl
  have hlen:((FD b).take j).length=j:=by simp;omega
  rw [ht]
  rcases iK ((FD b).take j) with h0|⟨p,q,h0⟩
  ·have F2:(((0:Nat):Int) > 0)=False:=eq_false (by omega)
   have F3:(0+1≤lim)=True:=eq_true (by omega)
   have e0:exts ([]:List Nat)=[]:=rfl
   have e2:exts [i]=[⟨i,1⟩]:=rfl
   refine ⟨?_,?_⟩
   rotate_left
   ·simp only [h0,List.nil_append,DC,DF,F2,F3,e0,e2,dD,List.map_nil,List.map_cons,Qr,bK,reduceCtorEq,Nat.reduceEqDiff,Nat.reduceAdd,Nat.reduceLT,Nat.reduceLeDiff,Nat.beq]
    rfl
  ·obtain ⟨pre,⟨s,c⟩,e0,h1,h2,h3,h4⟩:=xw _ p rfl q
   have hqi:q<i:=k3 q (by rw [h0];simp)
   simp only at h1 h2 h3
   have hpl:p.length+1=j:=by rw [h0] at hlen;simpa using hlen
   have F2:(((pre.length+1:Nat):Int) > 0)=True:=eq_true (by omega)
   have F3:=Jb (n:=pre.length) (by omega)
   have F4:IntKind.i64.wrap (s+c)=s+c:=bf (by omega)
   have F5:IntKind.i64.wrap (c+1)=c+1:=bf (by omega)
   have F6:(pre.length+1+1≤lim)=True:=eq_true (by omega)
   have F7:index (.int .i64 (pre.length:Int)) (pre.length+1)=some pre.length:=au (by omega)
   by_cases hc:s+c=(i:Int)
   ·have F8:(s+c==(i:Int))=true:=by simpa using hc
    have e2:exts (p++[q]++[i])=pre++[⟨s,c+1⟩]:=by rw [nY,e0,gq,if_pos hc]
    refine ⟨?_,?_⟩
    rotate_left
    ·simp only [h0,DC,DF,e0,e2,F2,F3,F4,F5,F6,F7,F8,dD,List.map_append,List.map_cons,List.map_nil,Qr,bK,reduceCtorEq,Nat.reduceEqDiff,Nat.reduceAdd,Nat.reduceLT,Nat.reduceLeDiff,Nat.beq]
     rfl
   ·have F8:(s+c==(i:Int))=false:=by simpa using hc
    have e2:exts (p++[q]++[i])=pre++[⟨s,c⟩]++[⟨i,1⟩]:=by rw [nY,e0,gq,if_neg hc]
    refine ⟨?_,?_⟩
    rotate_left
    ·simp only [h0,DC,DF,e0,e2,F2,F3,F4,F5,F6,F7,F8,dD,List.map_append,List.map_cons,List.map_nil,Qr,bK,reduceCtorEq,Nat.reduceEqDiff,Nat.reduceAdd,Nat.reduceLT,Nat.reduceLeDiff,Nat.beq]
     rfl
end Go.Proofs.YtpcncggjmabnaaaGreatDoor.V

namespace Go.Proofs.YtpcncggjmabnaaaGreatDoor.V
end Go.Proofs.YtpcncggjmabnaaaGreatDoor.V

namespace Go.Proofs.YtpcncggjmabnaaaGreatDoor.V
end Go.Proofs.YtpcncggjmabnaaaGreatDoor.V

namespace Go.Proofs.YtpcncggjmabnaaaGreatDoor.V
theorem ac4 {n a b:Int}:cal env 72 [.int .i64 n,.int .i64 a,.int .i64 b]=some [(.bool (decide (a≤n)&&decide (n≤b)),false)]:=by
 by_cases h:a≤n
 ·have F1:(a≤n)=True:=eq_true h
  rw [ah ahM rfl];simp only [YO,aB,Nat.reduceBEq,Nat.reduceLeDiff,Nat.reduceAdd,List.length_cons,List.length_nil]
  simp only [F1,ak,Nat.reduceMul,Nat.reduceBEq,Nat.reduceLT,Nat.reduceLeDiff,reduceCtorEq,Nat.reduceEqDiff,Nat.reduceAdd,Nat.beq]
 ·have F1:(a≤n)=False:=eq_false h
  rw [ah ahM rfl];simp only [YO,aB,Nat.reduceBEq,Nat.reduceLeDiff,Nat.reduceAdd,List.length_cons,List.length_nil]
  simp only [F1,ak,Nat.reduceMul,Nat.reduceBEq,Nat.reduceLT,Nat.reduceLeDiff,reduceCtorEq,Nat.reduceEqDiff,Nat.reduceAdd,Nat.beq]
def agB (n:Int):Bool:=!(decide (0≤n)&&decide (n≤1073741824))
def ac5 (l:List Int):Int:=if 8<l.length then 6 else if l.any agB then 2 else 0
theorem ajM {n:Int}:cal env 103 [eI n]=some [(.bool (agB n),false)]:=by
 have e1:=ac4 (n:=n) (a:=0) (b:=1073741824)
 unfold eI
 rw [ah ai6 rfl];simp only [PG,aB,Nat.reduceBEq,Nat.reduceLeDiff,Nat.reduceAdd,List.length_cons,List.length_nil]
 simp only [e1,agB,ak,Nat.reduceMul,Nat.reduceBEq,Nat.reduceLT,Nat.reduceLeDiff,reduceCtorEq,Nat.reduceEqDiff,Nat.reduceAdd,Nat.beq]
theorem amy {l:List Int} (hl:l.length≤20):cal env 73 [.list 1 (l.map eI),.int .i64 0]=some [(.int .i64 (ac5 l),false)]:=by
 have e1:=ac4 (n:=(l.length:Int)) (a:=0) (b:=8)
 have e2:=acw (l:=l) (enc:=eI) (caps:=[]) (fun x _=>ajM (n:=x)) (fun x=>rfl) (Nat.le_trans hl (by decide))
 unfold ac5
 by_cases h:8<l.length
 ·have G:(decide ((0:Int)≤l.length)&&decide ((l.length:Int)≤8))=false:=by simp;omega
  rw [G] at e1
  rw [if_pos h]
  rw [ah acn rfl];simp only [Ut,aB,Nat.reduceBEq,Nat.reduceLeDiff,Nat.reduceAdd,List.length_cons,List.length_nil]
  simp only [e1,List.length_map,ak,Nat.reduceMul,Nat.reduceBEq,Nat.reduceLT,Nat.reduceLeDiff,reduceCtorEq,Nat.reduceEqDiff,Nat.reduceAdd,Nat.beq]
 ·have G:(decide ((0:Int)≤l.length)&&decide ((l.length:Int)≤8))=true:=by simp;omega
  rw [G] at e1
  rw [if_neg h]
  cases hb:l.any agB with
  |true =>
   rw [hb] at e2
   rw [ah acn rfl];simp only [Ut,aB,Nat.reduceBEq,Nat.reduceLeDiff,Nat.reduceAdd,List.length_cons,List.length_nil]
   simp only [e1,e2,List.length_map,ak,Nat.reduceMul,Nat.reduceBEq,Nat.reduceLT,Nat.reduceLeDiff,reduceCtorEq,Nat.reduceEqDiff,Nat.reduceAdd,Nat.beq]
  |false =>
   rw [hb] at e2
   rw [ah acn rfl];simp only [Ut,aB,Nat.reduceBEq,Nat.reduceLeDiff,Nat.reduceAdd,List.length_cons,List.length_nil]
   simp only [e1,e2,List.length_map,ak,Nat.reduceMul,Nat.reduceBEq,Nat.reduceLT,Nat.reduceLeDiff,reduceCtorEq,Nat.reduceEqDiff,Nat.reduceAdd,Nat.beq]
def Zd (b n t:Int) (p:List Int) (w:List bP):PV:=.agg [.int .i64 b,.int .i64 n,.int .i64 t,.list 1 (p.map eI),.list 3 (w.map dZ)]
def Dj (b n t:Int) (p:List Int):Int:=if b<0∨n≤b∨n > 1073741824 then 2 else if t<0∨t > 1073741824 then 24 else ac5 p
end Go.Proofs.YtpcncggjmabnaaaGreatDoor.V

namespace Go.Proofs.YtpcncggjmabnaaaGreatDoor.V
structure jk where
 base:Int
 num:Int
 time:Int
 pos:List Int
 ws:List bP
def eP (c:jk):PV:=.agg [.int .i64 c.base,.int .i64 c.num,.int .i64 c.time,.list 1 (c.pos.map eI),.list 3 (c.ws.map dZ)]
theorem jU (c:jk):eP c=.agg [.int .i64 c.base,.int .i64 c.num,.int .i64 c.time,.list 1 (c.pos.map eI),.list 3 (c.ws.map dZ)]:=rfl
theorem zQ {l:List jk} {i:Nat} (h:i<l.length):(l.map eP)[i]?=some (.agg [.int .i64 l[i].base,.int .i64 l[i].num,.int .i64 l[i].time,.list 1 (l[i].pos.map eI),.list 3 (l[i].ws.map dZ)]):=by rw [List.getElem?_map,List.getElem?_eq_getElem h];rfl
theorem uK {l:List bP} {i:Nat} (h:i<l.length):(l.map dZ)[i]?=some (.agg [.int .i64 l[i].volume,.int .i64 l[i].start,.list 8 (l[i].data.map iI)]):=by rw [List.getElem?_map,List.getElem?_eq_getElem h];rfl
end Go.Proofs.YtpcncggjmabnaaaGreatDoor.V

namespace Go.Proofs.YtpcncggjmabnaaaGreatDoor.V
def uM (x w:bP):Bool:=decide (w.volume<x.volume) || (decide (w.volume=x.volume)&&decide (w.start≤x.start+(x.data.length:Int)))
def uN (im:iw):Option bP→List bP→Int
 |_,[]=>0
 |p,w :: l=>if aV im w≠0 then aV im w else if (match p with|none=>false|some x=>uM x w) then 3 else uN im (some w) l
theorem qp (im:iw) (p:Option bP) (w:bP) (l:List bP):uN im p (w :: l)=if aV im w≠0 then aV im w else if (match p with|none=>false|some x=>uM x w) then 3 else uN im (some w) l:=by cases p<;>rfl
def wB (l:List bP):Nat→Option bP
 |0=>none
 |i+1=>l[i]?
def wcI (im:iw) (l:List bP) (i:Nat):Prop:=uN im none l=uN im (wB l i) (l.drop i)∧∀ x,wB l i=some x→aV im x=0
theorem aoZ (im:iw) (l:List bP):wcI im l 0:=⟨rfl,fun x h=>by cases h⟩
theorem ac6 {im:iw} {l:List bP} {i:Nat} (hp:wcI im l i) (h:i<l.length):uN im none l=if aV im l[i]≠0 then aV im l[i] else if (match wB l i with|none=>false|some x=>uM x l[i]) then 3 else uN im (wB l (i+1)) (l.drop (i+1)):=by
 rw [hp.1,List.drop_eq_getElem_cons h,qp,show wB l (i+1)=some l[i] from List.getElem?_eq_getElem h]
theorem FH {im:iw} {l:List bP} {i:Nat} (hp:wcI im l i) (h:i<l.length) (h1:aV im l[i]=0) (h2:(match wB l i with|none=>false|some x=>uM x l[i])=false):wcI im l (i+1):=by
 refine ⟨?_,?_⟩
 ·rw [ac6 hp h,if_neg (by simpa using h1),if_neg (by rw [h2];exact Bool.false_ne_true)]
 ·intro x hx
  simp only [wB,List.getElem?_eq_getElem h,Option.some.injEq] at hx
  rw [← hx];exact h1
def resE (n d:Nat) (e:Int):Option (Ex × St):=if e=0 then some (.normal,⟨sl n [(d,.any)],[],[],none⟩) else some (.ret,⟨sl n [(d,.pv (.int .i64 e))],[],[],none⟩)
theorem MH {n d:Nat} {e:Int} (h:e≠0):resE n d e=some (.ret,⟨sl n [(d,.pv (.int .i64 e))],[],[],none⟩):=if_neg h
theorem agC {n d:Nat}:resE n d 0=some (.normal,⟨sl n [(d,.any)],[],[],none⟩):=if_pos rfl
theorem lF {im:iw} {w:bP} (h:aV im w=0):0≤w.volume∧w.volume<im.length∧0≤w.start∧w.start+w.data.length≤((im.getD w.volume.toNat []).length:Int):=by
 unfold aV at h
 split at h
 ·omega
 ·split at h
  ·omega
  ·split at h
   ·omega
   ·omega
theorem Ze {im:iw} {n:Nat} (hr:∀ v∈im,v.length≤n) (v:Nat):(im.getD v []).length≤n:=by
 by_cases h:v<im.length
 ·have e:im.getD v []=im[v]:=by simp [h]
  rw [e];exact hr _ (List.getElem_mem h)
 ·have e:im.getD v []=[]:=by simp [List.getD_eq_getElem?_getD,List.getElem?_eq_none (Nat.le_of_not_lt h)]
  rw [e];simp
theorem sK (x:bP):part [PV.int .i64 x.volume,.int .i64 x.start,.list 8 (x.data.map iI)] 0 (some 3)=some (.agg [.int .i64 x.volume,.int .i64 x.start,.list 8 (x.data.map iI)]):=rfl
theorem agD {im:iw} {l:List bP} {gf:Nat} {caps:List PV} (hcall:∀ w∈l,cal env gf (dZ w :: caps)=some [(.int .i64 (aV im w),false)]) (hr:∀ v∈im,v.length≤1000000) (hl:l.length≤lim) (hI0:wcI im l 0) {st:St} (h:st.head [0,1,9,10,11] st.boxes.length=some ⟨sl 53 [(0,.pv (.list 3 (l.map dZ))),(1,.pv (.func gf caps)),(9,.pv (.list 3 (l.map dZ))),(10,.pv (.int .i64 l.length)),(11,.pv (.int .i64 (0:Nat)))],[],[],none⟩) :
  den env EM st=resE 53 4 (uN im none l):=by
 unfold EM
 refine YT (env:=env) (l.length) (fun i=>wcI im l (i)) (fun i=>⟨sl 53 [(0,.pv (.list 3 (l.map dZ))),(1,.pv (.func gf caps)),(9,.pv (.list 3 (l.map dZ))),(10,.pv (.int .i64 l.length)),(11,.pv (.int .i64 i))],[],[],none⟩) (fun i=>resE 53 4 (uN im none l)) h hI0 (fun _=>rfl) (fun _=>by simp only [aB,bg,Nat.reduceMul,Nat.reduceBEq,Nat.reduceLT,Nat.reduceLeDiff,Nat.reduceAdd,decide_true,Bool.and_self,Bool.true_and]) ?_ ?_
 ·intro i rb hi hp ih
  have hi1:=bG hi hl
  have F1:((i:Int)<(l.length:Int))=True:=eq_true (by omega)
  have e1:=hcall _ (List.getElem_mem hi)
  have hA:=ac6 hp hi
  have hx:=uK hi
  unfold dZ at e1
  by_cases c1:aV im l[i]=0
  ·have G1:((0:Int) != 0)=false:=rfl
   rw [c1] at e1
   rw [if_neg (by simpa using c1)] at hA
   cases i with
   |zero =>
    have Z0:(((0:Nat):Int)==0)=true:=rfl
    simp only [oJ,F1,sK,Z0,G1,e1,hx,au hi,ak,Nat.reduceMul,Nat.reduceBEq,Nat.reduceLT,Nat.reduceLeDiff,reduceCtorEq,Nat.reduceEqDiff,Nat.reduceAdd,Nat.beq]
    rw [ih (FH hp hi c1 rfl) _ (by simp only [hi1,ak,Nat.reduceMul,Nat.reduceBEq,Nat.reduceLT,Nat.reduceLeDiff,reduceCtorEq,Nat.reduceEqDiff,Nat.reduceAdd,Nat.beq]<;>rfl)]
   |succ j =>
    have hj:j<l.length:=by omega
    have hy:=uK hj
    have hpv:wB l (j+1)=some l[j]:=by simp only [wB,List.getElem?_eq_getElem hj]
    have Z:(((j+1:Nat):Int)==0)=false:=by simp;omega
    have W:IntKind.i64.wrap (((j+1:Nat):Int) - 1)=(j:Int):=by rw [show ((j+1:Nat):Int) - 1=(j:Int) by omega];exact bf (by unfold lim at hl;omega)
    have q0:=hp.2 _ hpv
    obtain ⟨q1,q2,q3,q4⟩:=lF q0
    have q5:=Ze hr l[j].volume.toNat
    have W2:IntKind.i64.wrap (l[j].start+(l[j].data.length:Int))=l[j].start+(l[j].data.length:Int):=bf (by omega)
    by_cases c2:l[j+1].volume<l[j].volume
    ·have hb:uM l[j] l[j+1]=true:=by simp [uM,c2]
     have D1:(l[j+1].volume<l[j].volume)=True:=eq_true c2
     rw [hpv] at hA
     rw [if_pos hb] at hA
     rw [hA,MH (by decide)]
     simp only [oJ,F1,sK,Z,W,W2,D1,G1,e1,hx,hy,au hi,au hj,List.length_map,ak,Nat.reduceMul,Nat.reduceBEq,Nat.reduceLT,Nat.reduceLeDiff,reduceCtorEq,Nat.reduceEqDiff,Nat.reduceAdd,Nat.beq]
    ·have D1:(l[j+1].volume<l[j].volume)=False:=eq_false c2
     by_cases c3:l[j+1].volume=l[j].volume
     ·have D2:(l[j+1].volume==l[j].volume)=true:=by simp [c3]
      by_cases c4:l[j+1].start≤l[j].start+(l[j].data.length:Int)
      ·have D3:(l[j+1].start≤l[j].start+(l[j].data.length:Int))=True:=eq_true c4
       have hb:uM l[j] l[j+1]=true:=by simp [uM,c3,c4]
       rw [hpv] at hA
       rw [if_pos hb] at hA
       rw [hA,MH (by decide)]
       simp only [oJ,F1,sK,Z,W,W2,D1,D2,D3,G1,e1,hx,hy,au hi,au hj,List.length_map,ak,Nat.reduceMul,Nat.reduceBEq,Nat.reduceLT,Nat.reduceLeDiff,reduceCtorEq,Nat.reduceEqDiff,Nat.reduceAdd,Nat.beq]
      ·have D3:(l[j+1].start≤l[j].start+(l[j].data.length:Int))=False:=eq_false c4
       have hb:uM l[j] l[j+1]=false:=by simp [uM,c3];omega
       simp only [oJ,F1,sK,Z,W,W2,D1,D2,D3,G1,e1,hx,hy,au hi,au hj,List.length_map,ak,Nat.reduceMul,Nat.reduceBEq,Nat.reduceLT,Nat.reduceLeDiff,reduceCtorEq,Nat.reduceEqDiff,Nat.reduceAdd,Nat.beq]
       rw [ih (FH hp hi c1 (by rw [hpv];exact hb)) _ (by simp only [hi1,ak,Nat.reduceMul,Nat.reduceBEq,Nat.reduceLT,Nat.reduceLeDiff,reduceCtorEq,Nat.reduceEqDiff,Nat.reduceAdd,Nat.beq]<;>rfl)]
     ·have D2:(l[j+1].volume==l[j].volume)=false:=by simp [c3]
      have hb:uM l[j] l[j+1]=false:=by simp [uM,c3];omega
      simp only [oJ,F1,sK,Z,W,W2,D1,D2,G1,e1,hx,hy,au hi,au hj,List.length_map,ak,Nat.reduceMul,Nat.reduceBEq,Nat.reduceLT,Nat.reduceLeDiff,reduceCtorEq,Nat.reduceEqDiff,Nat.reduceAdd,Nat.beq]
      rw [ih (FH hp hi c1 (by rw [hpv];exact hb)) _ (by simp only [hi1,ak,Nat.reduceMul,Nat.reduceBEq,Nat.reduceLT,Nat.reduceLeDiff,reduceCtorEq,Nat.reduceEqDiff,Nat.reduceAdd,Nat.beq]<;>rfl)]
  ·have G1:(aV im l[i] != 0)=true:=by simp [c1]
   rw [if_pos c1] at hA
   rw [hA,MH c1]
   simp only [oJ,F1,sK,G1,e1,hx,au hi,ak,Nat.reduceMul,Nat.reduceBEq,Nat.reduceLT,Nat.reduceLeDiff,reduceCtorEq,Nat.reduceEqDiff,Nat.reduceAdd,Nat.beq]
 ·intro rb hp
  have hA:=hp.1
  rw [List.drop_length] at hA
  rw [hA,show uN im (wB l l.length) []=0 by cases wB l l.length<;>rfl]
  rw [agC]
  simp only [oJ,Int.lt_irrefl,ak,Nat.reduceMul,Nat.reduceBEq,Nat.reduceLT,Nat.reduceLeDiff,reduceCtorEq,Nat.reduceEqDiff,Nat.reduceAdd,Nat.beq]
theorem ajN {im:iw} {l:List bP} {gf:Nat} {caps:List PV} (hcall:∀ w∈l,cal env gf (dZ w :: caps)=some [(.int .i64 (aV im w),false)]) (hr:∀ v∈im,v.length≤1000000) (hl:l.length≤lim) :
  cal env 104 [.list 3 (l.map dZ),.func gf caps]=some [(.int .i64 (uN im none l),false)]:=by
 rw [ah ai7 rfl];simp only [PI,aB,Nat.reduceBEq,Nat.reduceLeDiff,Nat.reduceAdd,List.length_cons,List.length_nil]
 simp only [List.length_map,ak,Nat.reduceMul,Nat.reduceBEq,Nat.reduceLT,Nat.reduceLeDiff,reduceCtorEq,Nat.reduceEqDiff,Nat.reduceAdd,Nat.beq]
 rw [agD hcall hr hl (aoZ im l)]
 rotate_left
 ·simp only [aB,bg,Nat.reduceMul,Nat.reduceBEq,Nat.reduceLT,Nat.reduceLeDiff,Nat.reduceAdd,decide_true,Bool.and_self,Bool.true_and]<;>rfl
 ·unfold resE
  split
  ·rename_i c
   rw [c]
   simp only [ak,Nat.reduceMul,Nat.reduceBEq,Nat.reduceLT,Nat.reduceLeDiff,reduceCtorEq,Nat.reduceEqDiff,Nat.reduceAdd,Nat.beq]
  ·simp only [ak,Nat.reduceMul,Nat.reduceBEq,Nat.reduceLT,Nat.reduceLeDiff,reduceCtorEq,Nat.reduceEqDiff,Nat.reduceAdd,Nat.beq]
theorem lX {z:List Int} (h:aP z=0):aA (bn z)=z:=by
 unfold aA bn
 rw [List.map_map]
 conv=>rhs;rw [← List.map_id z]
 refine List.map_congr_left fun x hx=>?_
 unfold aP at h
 split at h
 ·omega
 ·split at h
  ·omega
  ·rename_i h2
   simp only [List.any_eq_true,not_exists,not_and,Bool.not_eq_true] at h2
   have:=h2 x hx
   simp at this
   simp;omega
theorem iV (z:List Int):(bn z).length=z.length:=by unfold bn;simp
theorem Jf {z:List Int} (h:aP z=0):∀ v∈bn z,v.length≤4096:=fun v hv=>by
 unfold bn at hv
 obtain ⟨x,hx,rfl⟩:=List.mem_map.1 hv
 unfold aP at h
 split at h
 ·omega
 ·split at h
  ·omega
  ·rename_i h2
   simp only [List.any_eq_true,not_exists,not_and,Bool.not_eq_true] at h2
   have:=h2 x hx
   simp at this
   simp;omega
theorem UF {z:List Int} (h:aP z=0):fG (bn z)=0:=by
 show aP (aA (bn z))=0
 rw [lX h];exact h
theorem UG {z:List Int} (h:aP z=0) (w:bP):uJ (bn z) w=aV (bn z) w:=by
 unfold uJ
 rw [if_neg (by rw [UF h];simp)]
def wkE (z:List Int) (l:List bP):Int:=if aP z=0 then uN (bn z) none l else aP z
theorem agE {im:iw} {w:bP} (hl:im.length≤lim) (hr:∀ v∈im,v.length≤lim) (hd:w.data.length≤lim):cal env 105 [dZ w,.dR [.list 1 (im.map aX)] 0]=some [(.int .i64 (uJ im w),false)]:=by
 have e1:=ajD hl hr hd
 unfold dZ at *
 rw [ah ai8 rfl];simp only [PK];simp only [start,aN,aT,aJ,aS,aG,aH,aK,aQ,Nat.reduceAdd,Nat.reduceSub]
 simp only [e1,bK,reduceCtorEq,Nat.reduceEqDiff,Nat.reduceAdd,Nat.reduceLT,Nat.reduceLeDiff,Nat.beq]
theorem ajO {z:List Int} {l:List bP} (hz:z.length≤lim) (hl:l.length≤lim) (hd:∀ w∈l,w.data.length≤lim) :
  cal env 74 [.list 3 (l.map dZ),.list 1 (z.map eI)]=some [(.int .i64 (wkE z l),false)]:=by
 have e1:=VW hz
 unfold wkE
 by_cases c:aP z=0
 ·rw [if_pos c]
  have hr:=Jf c
  have e2:=ajN (im:=bn z) (l:=l) (gf:=105) (caps:=[.dR [.list 1 ((bn z).map aX)] 0]) (fun w hw=>by
   have:=agE (im:=bn z) (w:=w) (by rw [iV];exact hz) (fun v hv=>by have:=hr v hv;unfold lim;omega) (hd w hw)
   rw [UG c] at this
   exact this) (fun v hv=>by have:=hr v hv;omega) hl
  rw [c,if_pos rfl] at e1
  have Z:((0:Int) != 0)=false:=rfl
  rw [ah ahN rfl];simp only [YP];simp only [start,aN,aT,aJ,aS,aG,aH,aK,aQ,Nat.reduceAdd,Nat.reduceSub]
  simp only [e1,e2,Z,bK,reduceCtorEq,Nat.reduceEqDiff,Nat.reduceAdd,Nat.reduceLT,Nat.reduceLeDiff,Nat.beq]
 ·rw [if_neg c] at e1
  rw [if_neg c]
  have Z:(aP z != 0)=true:=by simp [c]
  rw [ah ahN rfl];simp only [YP];simp only [start,aN,aT,aJ,aS,aG,aH,aK,aQ,Nat.reduceAdd,Nat.reduceSub]
  simp only [e1,Z,bK,reduceCtorEq,Nat.reduceEqDiff,Nat.reduceAdd,Nat.reduceLT,Nat.reduceLeDiff,Nat.beq]
end Go.Proofs.YtpcncggjmabnaaaGreatDoor.V
