/-
  Part 4 of the texts that the statement stands on.
-/
import Derived.Test.YtpcncggjmabnaaaGreatDoorZ3
import Derived.Shelf.Lays7
import Derived.Ground.Names7Prog
import Derived.Test.YtpcncggjmabnaaaGreatDoorProg
import Derived.Shelf.Spec.TrailingZeros
import Derived.Lib.TrailingZeros
set_option linter.all false
namespace Go.Proofs
open Go.Shelf
def Tryz.tz_ren:Go.Shelf.Ren:=⟨fun|29=>126|n=>n,fun|22=>134|3=>3|4=>4|25=>176|54=>185|0=>0|5=>5|n=>n,fun|1=>0|n=>n⟩
theorem Tryz.tz:Go.Proofs.Lays7.n29 Tryz.prog Tryz.tz_ren:={
 mixed:=by kernel_rfl
 f29:=Tryz.func126.trans (congrArg some (by kernel_rfl))
 t0:=Tryz.underlying0
 a0:=Tryz.isAgg0
 z0:=Tryz.sizeOf0
 v0:=Tryz.zeroValue0
 i0:=by kernel_rfl
 t3:=Tryz.underlying3
 a3:=Tryz.isAgg3
 z3:=Tryz.sizeOf3
 v3:=Tryz.zeroValue3
 i3:=by kernel_rfl
 t4:=Tryz.underlying4
 a4:=Tryz.isAgg4
 z4:=Tryz.sizeOf4
 v4:=Tryz.zeroValue4
 i4:=by kernel_rfl
 t5:=Tryz.underlying5
 a5:=Tryz.isAgg5
 z5:=Tryz.sizeOf5
 v5:=Tryz.zeroValue5
 i5:=by kernel_rfl
 t22:=Tryz.underlying134
 a22:=Tryz.isAgg134
 z22:=Tryz.sizeOf134
 v22:=Tryz.zeroValue134
 i22:=by kernel_rfl
 t25:=Tryz.underlying176
 a25:=Tryz.isAgg176
 z25:=Tryz.sizeOf176
 v25:=Tryz.zeroValue176
 i25:=by kernel_rfl
 t54:=Tryz.underlying185
 a54:=Tryz.isAgg185
 z54:=Tryz.sizeOf185
 g1:=by kernel_rfl }
end Go.Proofs

namespace Go.Proofs.YtpcncggjmabnaaaGreatDoor
open Go.RowKit Go.Shelf
def tzX:List PV→Option (List qC)
 |[.int .u64 n]=>if 0≤n∧n<18446744073709551616 then some [(.int .i64 (Lib.ctz 64 n.toNat:Nat),false)] else none
 |_=>none
theorem ain {T:Tags} {w:World} (h:kH T w):TabAt 0 Lib.deBruijn64tab w:=fun j hj=>by
 have hp:=h _ (List.mem_singleton.2 rfl)
 obtain ⟨b,off,e1,_,_,h3⟩:=hp.rP
 obtain ⟨eb,eo⟩:0=b∧0=off+0:=by
  injection e1 with e1
  injection e1 with e1
  injection e1 with e2 e3
  exact ⟨e2,e3⟩
 have eo:off=0:=by omega
 subst eb;subst eo
 obtain ⟨u,c1,_,c2⟩:=h3 j (PV.int .u8 ((Lib.deBruijn64tab[j]:Nat):Int)) (by simp [List.getElem?_eq_getElem hj])
 rw [c2.dW] at c1
 rw [show Lib.deBruijn64tab.getD j 0=Lib.deBruijn64tab[j] by simp [List.getD_eq_getElem?_getD,List.getElem?_eq_getElem hj]]
 simpa using c1
theorem alf:∀ args rs,tzX args=some rs→callable Tryz.prog 126=true∧nK Tryz.prog 126 args rs:=fun args rs h=>by
 unfold tzX at h
 split at h
 case h_2=>cases h
 rename_i n
 split at h
 case isFalse=>cases h
 rename_i hn
 cases h
 refine ⟨by kernel_rfl,fun T0 w vs h1 h2 h3 h4 hG=>?_⟩
 match vs,h3 with
 |[v],_ =>
  have hv:=(h4 0 _ v rfl rfl).dW
  subst hv
  have hc:=Any7.bits_TrailingZeros64 Tryz.tz n.toNat (by omega) w (fun _=>ain hG)
  rw [Int.toNat_of_nonneg hn.1] at hc
  refine Calls.mono hc ?_
  rintro e w' ⟨rfl,rfl⟩
  refine ⟨_,T0,rfl,Below.refl _ _,fun _ _=>rfl,h2,#[_],rfl,rfl,fun i r u hr hu=>?_⟩
  match i with
  |0=>cases hr;cases hu;exact .int _ _
  |i+1=>simp at hr
end Go.Proofs.YtpcncggjmabnaaaGreatDoor

namespace Go.Proofs.YtpcncggjmabnaaaGreatDoor
def inX (s c:Int) (t:Nat):Bool:=decide (0<c)&&(decide (s≤(t:Int))&&decide ((t:Int)<s+c))
def afw:PV→Option Bool
 |.bool b=>some b
 |_=>none
theorem afx {p:PV} {x:Bool} (h:afw p=some x):p=V.eB x:=by
 unfold afw at h
 split at h
 ·cases h;rfl
 ·cases h
def zf (s c:Int) (m:List Bool):List Bool:=m.mapIdx fun t u=>u || inX s c t
def OO:PV→List PV→Option (List PV)
 |.agg [.int .i64 s,.int .i64 c],es=>if (nP s&&nP c)=true∧es≠[]∧es.length≤4096 then (nO afw es).map fun m=>(zf s c m).map V.eB else none
 |_,_=>none
theorem abe {s c:Int} {m:List Bool} (h1:nP s=true) (h2:nP c=true) (h3:m≠[]) (h4:m.length≤4096):OO (.agg [.int .i64 s,.int .i64 c]) (m.map V.eB)=some ((zf s c m).map V.eB):=by
 unfold OO
 simp only
 rw [if_pos ⟨by rw [h1,h2];rfl,by simpa using h3,by simpa using h4⟩,lC (f:=afw) (enc:=V.eB) fun x _=>rfl]
 rfl
theorem afy {p:PV} {es es':List PV} (h:OO p es=some es'):∃ (s c:Int) (m:List Bool),p=.agg [.int .i64 s,.int .i64 c]∧es=m.map V.eB∧nP s=true∧nP c=true∧m≠[]∧m.length≤4096∧es'=(zf s c m).map V.eB:=by
 unfold OO at h
 split at h
 ·rename_i s c
  split at h
  ·rename_i hc
   obtain ⟨m,h1,h2⟩:=Option.map_eq_some_iff.1 h
   have:=nR (fun p x h=>afx h) h1
   subst this
   simp only [Bool.and_eq_true] at hc
   exact ⟨s,c,m,rfl,rfl,hc.1.1,hc.1.2,fun e=>hc.2.1 (by rw [e];rfl),by simpa using hc.2.2,h2.symm⟩
  ·cases h
 ·cases h
end Go.Proofs.YtpcncggjmabnaaaGreatDoor

namespace Go.Proofs.YtpcncggjmabnaaaGreatDoor
def Ep:ay:=(.seq (.seq (.ops [.ak 92 (.t 15),.aI 93 (.t 14) 2,.load 94 none (.t 93),.len 95 (.t 94),.bin 96 .lss (.t 92) (.t 95),.ak 97 (.t 96),.grd 97 true (.ak 98 (.t 6)),.grd 97 true (.load 99 (some 3) (.t 14)),.grd 97 true (.call 100 33 [(.t 98),(.t 99)]),.grd 97 true (.bin 101 .eql (.t 100) (.c (.int .i64 0))),.pick 102 (.t 97) (.t 101) (.c (.bool false))]) (.cond (.t 102) .skip (.exit 4))) (.seq (.block 5 (.yu [] [] (some ([0,1,2,3,4,5,6,7],[],8,[])) [] [.aI 105 (.t 14) 0,.load 106 none (.t 105),.aI 107 (.t 14) 1,.load 108 none (.t 107),.ak 109 (.t 15),.bin 110 .add (.t 108) (.t 109),.rG 111 (.t 11) (.t 106) 2 30,.rG 112 (.t 111) (.t 110) 30 1,.store none 1 (.t 112) (.c (.bool true))])) (.ops [.ak 103 (.t 15),.bin 104 .add (.t 103) (.c (.int .i64 1)),.aG 15 (.t 104)])))
def TM:ay :=
(.clean [1,5,6,10,11,12,13,14,15,37,41] [1,4,5,6,10,11,12,13,37,41] (.block 4 (.loop [1,5,6,10,11,12,13,14,15,37,41] Ep)))
def JM:ay:=(.seq (.seq (.ops [.ak 70 (.t 13),.ak 71 (.t 1),.ak 72 (.t 12),.bQ 73 3 (.t 71) (.t 72),.aI 74 (.t 73) 2,.load 75 none (.t 74),.len 76 (.t 75),.bin 77 .lss (.t 70) (.t 76),.ak 78 (.t 77),.grd 78 true (.ak 79 (.t 13)),.grd 78 true (.bin 80 .lss (.t 79) (.c (.int .i64 6))),.pick 81 (.t 78) (.t 80) (.c (.bool false))]) (.cond (.t 81) .skip (.exit 2))) (.seq (.block 3 (.seq (.ops [.ak 84 (.t 1),.ak 85 (.t 12),.bQ 86 3 (.t 84) (.t 85),.aI 87 (.t 86) 2,.load 88 none (.t 87),.ak 89 (.t 13),.bQ 90 3 (.t 88) (.t 89),.load 91 (some 3) (.t 90),.alloc 14 [(.int .i64 0),(.int .i64 0),(.list 0 [])],.store none 3 (.t 14) (.t 91)]) (.seq (.ops [.aG 15 (.c (.int .i64 0))])
   TM))) (.ops [.ak 82 (.t 13),.bin 83 .add (.t 82) (.c (.int .i64 1)),.aG 13 (.t 83)])))
def TN:ay :=
(.clean [1,5,6,10,11,12,13,37,41] [1,4,5,6,10,11,12,37,41] (.block 2 (.loop [1,5,6,10,11,12,13,37,41] JM)))
def TP:ay:=(.seq (.seq (.ops [.ak 54 (.t 12),.ak 55 (.t 1),.len 56 (.t 55),.bin 57 .lss (.t 54) (.t 56),.ak 58 (.t 57),.grd 58 true (.aI 59 (.t 10) 11),.grd 58 true (.load 60 none (.t 59)),.pick 61 (.t 58) (.t 60) (.c (.bool false))]) (.cond (.t 61) .skip (.exit 0))) (.seq (.block 1 (.seq (.yu [] [([0,1,2,3,4],5)] (some ([],[],6,[])) [] [.load 64 (some 12) (.t 10),.ak 65 (.t 1),.ak 66 (.t 12),.bQ 67 3 (.t 65) (.t 66),.load 68 (some 3) (.t 67),.call 69 32 [(.t 64),(.t 68)],.store none 12 (.t 10) (.t 69)]) (.seq (.ops [.aG 13 (.c (.int .i64 0))])
   TN))) (.ops [.ak 62 (.t 12),.bin 63 .add (.t 62) (.c (.int .i64 1)),.aG 12 (.t 63)])))
def TQ:ay :=
(.clean [1,5,6,10,11,12,37,41] [4,5,10,11,37] (.block 0 (.loop [1,5,6,10,11,12,37,41] TP)))
def JO:ay:=(.seq (.seq (.ops [.ak 126 (.t 21),.ak 127 (.t 5),.ak 128 (.t 20),.bQ 129 1 (.t 127) (.t 128),.load 130 none (.t 129),.bin 131 .lss (.t 126) (.t 130)]) (.cond (.t 131) .skip (.exit 8))) (.seq (.block 9 (.seq (.ops [.aI 135 (.t 17) 4,.load 136 none (.t 135),.ak 137 (.t 20),.ak 138 (.t 21),.call 139 34 [(.t 136),(.t 137),(.t 138)],.ak 134 (.t 139),.ext 140 (.t 134) 0,.ext 141 (.t 134) 1,.alloc 22 [(.int .u8 0),(.int .u8 0),(.int .u8 0),(.int .u8 0),(.int .u8 0),(.int .u8 0),(.int .u8 0),(.int .u8 0)],.store none 8 (.t 22) (.t 140),.aG 23 (.t 141)]) (.seq (.seq (.yu [] [] none [0,1,2,3,4,5,6,7,8,9,10,11,12,13,14,15,16,17,18,19,20,21] [.ak 142 (.t 23),.ak 143 (.t 20),.ak 144 (.t 21),.rG 145 (.t 11) (.t 143) 2 30,.rG 146 (.t 145) (.t 144) 30 1,.load 147 none (.t 146),.WB 148 true (.t 142) (.t 147),.ak 149 (.t 148),.grd 149 false (.ak 150 (.t 23)),.grd 149 false (.ak 151 (.t 150)),.grd 151 true (.load 152 (some 8) (.t 22)),.grd 151 true (.aI 153 (.t 10) 0),.grd 151 true (.load 154 none (.t 153)),.grd 151 true (.ak 155 (.t 20)),.grd 151 true (.bQ 156 1 (.t 154) (.t 155)),.grd 151 true (.load 157 none (.t 156)),.grd 151 true (.ak 158 (.t 21)),.grd 151 true (.bQ 159 8 (.t 157) (.t 158)),.grd 151 true (.load 160 (some 8) (.t 159)),.grd 151 true (.Vb 161 true 8 (.t 152) (.t 160)),.grd 149 false (.pick 162 (.t 151) (.t 161) (.c (.bool false))),.pick 163 (.t 149) (.c (.bool true)) (.t 162)]) (.cond (.t 163) (.seq (.ops [.aG 4 (.c (.bool false))]) .ret) .skip)) (.seq (.ops [.ak 164 (.t 23)]) (.cond (.t 164) (.ops [.ak 165 (.t 19),.bin 166 .add (.t 165) (.c (.int .i64 1)),.aG 19 (.t 166)]) .skip))))) (.ops [.ak 132 (.t 21),.bin 133 .add (.t 132) (.c (.int .i64 1)),.aG 21 (.t 133)])))
def TS:ay :=
(.clean [5,10,11,17,18,19,20,21,37] [4,5,10,11,17,18,19,20,37] (.block 8 (.loop [5,10,11,17,18,19,20,21,37] JO)))
def TU:ay:=(.seq (.seq (.ops [.ak 122 (.t 20),.bin 123 .lss (.t 122) (.c (.int .i64 2))]) (.cond (.t 123) .skip (.exit 6))) (.seq (.block 7 (.seq (.ops [.aG 21 (.c (.int .i64 0))])
   TS)) (.ops [.ak 124 (.t 20),.bin 125 .add (.t 124) (.c (.int .i64 1)),.aG 20 (.t 125)])))
def TV:ay :=
(.clean [5,10,11,17,18,19,20,37] [4,10,17,18,19] (.block 6 (.loop [5,10,11,17,18,19,20,37] TU)))
def fn9:gy:=⟨2,183,[.tmp 4],(.seq (.ops [.aG 4 (.c (.bool false))]) (.seq (.seq (.ops [.ak 24 (.t 1),.call 25 28 [(.t 24)],.un 26 .not (.t 25),.ak 27 (.t 26),.grd 27 false (.ak 28 (.t 1)),.grd 27 false (.len 29 (.t 28)),.grd 27 false (.bin 30 .lss (.t 29) (.c (.int .i64 2))),.pick 31 (.t 27) (.c (.bool true)) (.t 30)]) (.cond (.t 31) (.seq (.ops [.call 32 10 [],.aG 4 (.t 32)]) .ret) .skip)) (.seq (.ops [.ak 33 (.t 0),.conv 34 .i64 (.t 33),.bin 35 .rem (.t 34) (.c (.int .i64 20)),.bin 36 .add (.c (.int .i64 1)) (.t 35),.iw 37 1 [(.t 36),(.c (.int .i64 3))],.aG 5 (.t 37)]) (.seq (.ops [.ak 39 (.t 5),.call 40 31 [(.t 39)],.ak 38 (.t 40),.ext 41 (.t 38) 0,.ext 42 (.t 38) 1,.aG 6 (.t 41),.aG 7 (.t 42)]) (.seq (.ops [.ak 44 (.t 5),.call 45 11 [(.t 44),(.c (.int .i64 1))],.ak 43 (.t 45),.ext 46 (.t 43) 0,.ext 47 (.t 43) 1,.alloc 8 [(.int .i64 0),(.list 1 []),(.list 5 []),(.bool false),(.int .i64 0),(.int .i64 0),(.list 2 [])],.store none 7 (.t 8) (.t 46),.aG 9 (.t 47)]) (.seq (.ops [.WC 48 (.t 6),.WC 49 (.t 6),.load 50 (some 7) (.t 8),.ak 51 (.t 9),.bin 52 .eql (.t 51) (.c (.int .i64 0)),.build 53 [(.list 1 []),(.list 1 []),(.int .i64 0),(.list 1 []),(.list 5 []),(.bool false),(.int .i64 0),(.int .i64 0),(.list 2 []),(.int .i64 0),(.int .i64 0),(.bool false)] [(0,1,(.t 48)),(1,1,(.t 49)),(2,7,(.t 50)),(11,1,(.t 52))],.alloc 10 [(.list 1 []),(.list 1 []),(.int .i64 0),(.list 1 []),(.list 5 []),(.bool false),(.int .i64 0),(.int .i64 0),(.list 2 []),(.int .i64 0),(.int .i64 0),(.bool false)],.store none 12 (.t 10) (.t 53)]) (.seq (.ops [.alloc 11 [(.bool false),(.bool false),(.bool false),(.bool false),(.bool false),(.bool false),(.bool false),(.bool false),(.bool false),(.bool false),(.bool false),(.bool false),(.bool false),(.bool false),(.bool false),(.bool false),(.bool false),(.bool false),(.bool false),(.bool false),(.bool false),(.bool false),(.bool false),(.bool false),(.bool false),(.bool false),(.bool false),(.bool false),(.bool false),(.bool false),(.bool false),(.bool false),(.bool false),(.bool false),(.bool false),(.bool false),(.bool false),(.bool false),(.bool false),(.bool false),(.bool false),(.bool false),(.bool false),(.bool false),(.bool false),(.bool false),(.bool false),(.bool false),(.bool false),(.bool false),(.bool false),(.bool false),(.bool false),(.bool false),(.bool false),(.bool false),(.bool false),(.bool false),(.bool false),(.bool false)]]) (.seq (.seq (.ops [.aG 12 (.c (.int .i64 0))])
     TQ) (.seq (.ops [.aI 114 (.t 10) 2,.load 115 (some 7) (.t 114),.aI 116 (.t 10) 0,.load 117 none (.t 116),.call 118 26 [(.t 115),(.t 117),(.c (.int .i64 0))],.ak 113 (.t 118),.ext 119 (.t 113) 0,.ext 120 (.t 113) 1,.ext 121 (.t 113) 2,.alloc 16 [(.int .i64 0),(.list 1 []),(.list 5 []),(.bool false),(.int .i64 0),(.int .i64 0),(.list 2 [])],.alloc 17 [(.int .i64 0),(.int .i64 0),(.int .i64 0),(.list 1 []),(.list 3 [])],.store none 7 (.t 16) (.t 119),.store none 5 (.t 17) (.t 120),.aG 18 (.t 121)]) (.seq (.ops [.aG 19 (.c (.int .i64 0))]) (.seq (.seq (.ops [.aG 20 (.c (.int .i64 0))])
       TV) (.seq (.ops [.call 167 10 [],.ak 168 (.t 167),.grd 168 true (.aI 169 (.t 10) 11),.grd 168 true (.load 170 none (.t 169)),.pick 171 (.t 168) (.t 170) (.c (.bool false)),.ak 172 (.t 171),.grd 172 true (.ak 173 (.t 18)),.grd 172 true (.bin 174 .eql (.t 173) (.c (.int .i64 0))),.pick 175 (.t 172) (.t 174) (.c (.bool false)),.ak 176 (.t 175),.grd 176 true (.aI 177 (.t 17) 4),.grd 176 true (.load 178 none (.t 177)),.grd 176 true (.call 179 35 [(.t 178)]),.grd 176 true (.ak 180 (.t 19)),.grd 176 true (.bin 181 .eql (.t 179) (.t 180)),.pick 182 (.t 176) (.t 181) (.c (.bool false)),.aG 4 (.t 182)]) .ret))))))))))))⟩
def CW:ay:=(.seq (.seq (.ops [.ak 22 (.t 3),.bin 23 .lss (.t 22) (.c (.int .i64 2))]) (.cond (.t 23) .skip (.exit 0))) (.seq (.block 1 (.seq (.drs [] [1,2,3,4,5] [.load 27 (some 7) (.t 1),.ak 28 (.t 3),.ak 29 (.t 3),.bin 30 .add (.t 29) (.c (.int .i64 1)),.ak 31 (.t 3),.ak 32 (.t 3),.bin 33 .add (.t 32) (.c (.int .i64 1)),.conv 34 .u8 (.t 33),.call 35 36 [(.t 28),(.t 30),(.t 31),(.t 34)],.call 36 16 [(.t 27),(.t 35)],.ak 26 (.t 36),.ext 37 (.t 26) 0,.ext 38 (.t 26) 1,.alloc 4 [(.int .i64 0),(.list 1 []),(.list 5 []),(.bool false),(.int .i64 0),(.int .i64 0),(.list 2 [])],.store none 7 (.t 4) (.t 37),.aG 5 (.t 38)]
   [⟨[([0,1,2,3,4,5,6,7],8),([],9),([10,11,12],13)],(some ([],[],14,[])),[15],[0,1,2,3,4,5,6,7,8,9,10,11,12,13,14,15],false⟩,⟨[([0,1,2,3,4,5,6,7],8),([],13),([],9)],(some ([10,11],[12],14,[])),[15],[0,1,2,3,4,5,6,7,8,13,9,10,11,12,14,15],false⟩,⟨[([0,1,2,3,4,5,6,7],13),([],8),([],9)],(some ([10,11],[12],14,[])),[15],[0,1,2,3,4,5,6,7,13,8,9,10,11,12,14,15],false⟩]) (.ops [.load 39 (some 7) (.t 4),.ak 40 (.t 2),.ak 41 (.t 5),.bin 42 .add (.t 40) (.t 41),.store none 7 (.t 1) (.t 39),.aG 2 (.t 42)]))) (.ops [.ak 24 (.t 3),.bin 25 .add (.t 24) (.c (.int .i64 1)),.aG 3 (.t 25)])))
def JQ:ay :=
(.clean [1,2,3] [0,1,2] (.block 0 (.loop [1,2,3] CW)))
def abf:gy:=⟨0,146,[.tmp 0],(.seq (.ops [.aG 0 (.c (.bool false))]) (.seq (.ops [.iw 18 1 [(.c (.int .i64 4))],.call 19 11 [(.t 18),(.c (.int .i64 2))],.ak 17 (.t 19),.ext 20 (.t 17) 0,.ext 21 (.t 17) 1,.alloc 1 [(.int .i64 0),(.list 1 []),(.list 5 []),(.bool false),(.int .i64 0),(.int .i64 0),(.list 2 [])],.store none 7 (.t 1) (.t 20),.aG 2 (.t 21)]) (.seq (.seq (.ops [.aG 3 (.c (.int .i64 0))])
   JQ) (.seq (.drs [] [1,2,6,7] [.load 44 (some 7) (.t 1),.call 45 36 [(.c (.int .i64 2)),(.c (.int .i64 3)),(.c (.int .i64 3)),(.c (.int .u8 9))],.call 46 16 [(.t 44),(.t 45)],.ak 43 (.t 46),.ext 47 (.t 43) 0,.ext 48 (.t 43) 1,.alloc 6 [(.int .i64 0),(.list 1 []),(.list 5 []),(.bool false),(.int .i64 0),(.int .i64 0),(.list 2 [])],.store none 7 (.t 6) (.t 47),.aG 7 (.t 48)]
   [⟨[([0],1),([],2),([3,4,5],6)],(some ([],[],7,[])),[8],[0,1,2,3,4,5,6,7,8],false⟩,⟨[([0],1),([],6),([],2)],(some ([3,4],[5],7,[])),[8],[0,1,6,2,3,4,5,7,8],false⟩,⟨[([0],6),([],1),([],2)],(some ([3,4],[5],7,[])),[8],[0,6,1,2,3,4,5,7,8],false⟩]) (.seq (.ops [.load 50 (some 7) (.t 6),.build 51 [(.int .u8 0),(.int .u8 0),(.int .u8 0),(.int .u8 0),(.int .u8 0),(.int .u8 0),(.int .u8 0),(.int .u8 0)] [(0,1,(.c (.int .u8 1)))],.build 52 [(.int .u8 0),(.int .u8 0),(.int .u8 0),(.int .u8 0),(.int .u8 0),(.int .u8 0),(.int .u8 0),(.int .u8 0)] [(0,1,(.c (.int .u8 2)))],.build 53 [(.int .u8 0),(.int .u8 0),(.int .u8 0),(.int .u8 0),(.int .u8 0),(.int .u8 0),(.int .u8 0),(.int .u8 0)] [],.build 54 [(.int .u8 0),(.int .u8 0),(.int .u8 0),(.int .u8 0),(.int .u8 0),(.int .u8 0),(.int .u8 0),(.int .u8 0)] [(0,1,(.c (.int .u8 9)))],.iw 55 8 [(.t 51),(.t 52),(.t 53),(.t 54)],.iw 56 1 [(.t 55)],.call 57 26 [(.t 50),(.t 56),(.c (.int .i64 5))],.ak 49 (.t 57),.ext 58 (.t 49) 0,.ext 59 (.t 49) 1,.ext 60 (.t 49) 2,.alloc 8 [(.int .i64 0),(.list 1 []),(.list 5 []),(.bool false),(.int .i64 0),(.int .i64 0),(.list 2 [])],.alloc 9 [(.int .i64 0),(.int .i64 0),(.int .i64 0),(.list 1 []),(.list 3 [])],.store none 7 (.t 8) (.t 58),.store none 5 (.t 9) (.t 59),.aG 10 (.t 60)]) (.seq (.ops [.load 62 (some 7) (.t 1),.call 63 23 [(.t 62),(.c (.int .i64 1))],.ak 61 (.t 63),.ext 64 (.t 61) 0,.ext 65 (.t 61) 1,.alloc 11 [(.int .i64 0),(.list 1 []),(.list 5 []),(.bool false),(.int .i64 0),(.int .i64 0),(.list 2 [])],.store none 7 (.t 11) (.t 64),.aG 12 (.t 65)]) (.seq (.yu [] [([0],1),([],2)] (some ([3,4],[5],6,[])) [7] [.load 67 (some 7) (.t 11),.call 68 36 [(.c (.int .i64 2)),(.c (.int .i64 3)),(.c (.int .i64 3)),(.c (.int .u8 9))],.call 69 16 [(.t 67),(.t 68)],.ak 66 (.t 69),.ext 70 (.t 66) 0,.ext 71 (.t 66) 1,.store none 7 (.t 11) (.t 70),.aG 13 (.t 71)]) (.seq (.ops [.load 73 (some 7) (.t 11),.call 74 18 [(.t 73)],.ak 72 (.t 74),.ext 75 (.t 72) 0,.ext 76 (.t 72) 1,.alloc 14 [(.int .i64 0),(.int .i64 0),(.int .i64 0),(.list 1 []),(.list 3 [])],.store none 5 (.t 14) (.t 75),.aG 15 (.t 76)]) (.seq (.ops [.build 77 [(.int .u8 0),(.int .u8 0),(.int .u8 0),(.int .u8 0),(.int .u8 0),(.int .u8 0),(.int .u8 0),(.int .u8 0)] [(0,1,(.c (.int .u8 1)))],.build 78 [(.int .u8 0),(.int .u8 0),(.int .u8 0),(.int .u8 0),(.int .u8 0),(.int .u8 0),(.int .u8 0),(.int .u8 0)] [(0,1,(.c (.int .u8 2)))],.iw 79 8 [(.t 77),(.t 78)],.build 80 [(.int .i64 0),(.int .i64 0),(.list 0 [])] [(2,1,(.t 79))],.build 81 [(.int .u8 0),(.int .u8 0),(.int .u8 0),(.int .u8 0),(.int .u8 0),(.int .u8 0),(.int .u8 0),(.int .u8 0)] [(0,1,(.c (.int .u8 9)))],.iw 82 8 [(.t 81)],.build 83 [(.int .i64 0),(.int .i64 0),(.list 0 [])] [(1,1,(.c (.int .i64 3))),(2,1,(.t 82))],.iw 84 3 [(.t 80),(.t 83)],.aG 16 (.t 84)]) (.seq (.ops [.ak 85 (.t 2),.bin 86 .eql (.t 85) (.c (.int .i64 0)),.ak 87 (.t 86),.grd 87 true (.ak 88 (.t 7)),.grd 87 true (.bin 89 .eql (.t 88) (.c (.int .i64 0))),.pick 90 (.t 87) (.t 89) (.c (.bool false)),.ak 91 (.t 90),.grd 91 true (.ak 92 (.t 10)),.grd 91 true (.bin 93 .eql (.t 92) (.c (.int .i64 0))),.pick 94 (.t 91) (.t 93) (.c (.bool false)),.ak 95 (.t 94),.grd 95 true (.ak 96 (.t 12)),.grd 95 true (.bin 97 .eql (.t 96) (.c (.int .i64 0))),.pick 98 (.t 95) (.t 97) (.c (.bool false)),.ak 99 (.t 98),.grd 99 true (.ak 100 (.t 13)),.grd 99 true (.bin 101 .eql (.t 100) (.c (.int .i64 0))),.pick 102 (.t 99) (.t 101) (.c (.bool false)),.ak 103 (.t 102),.grd 103 true (.aI 104 (.t 6) 3),.grd 103 true (.load 105 none (.t 104)),.pick 106 (.t 103) (.t 105) (.c (.bool false)),.ak 107 (.t 106),.grd 107 true (.aI 108 (.t 6) 4),.grd 107 true (.load 109 none (.t 108)),.grd 107 true (.bin 110 .eql (.t 109) (.c (.int .i64 0))),.pick 111 (.t 107) (.t 110) (.c (.bool false)),.ak 112 (.t 111),.grd 112 true (.aI 113 (.t 6) 5),.grd 112 true (.load 114 none (.t 113)),.grd 112 true (.bin 115 .eql (.t 114) (.c (.int .i64 3))),.pick 116 (.t 112) (.t 115) (.c (.bool false)),.ak 117 (.t 116),.grd 117 true (.aI 118 (.t 9) 0),.grd 117 true (.load 119 none (.t 118)),.grd 117 true (.bin 120 .eql (.t 119) (.c (.int .i64 0))),.pick 121 (.t 117) (.t 120) (.c (.bool false)),.ak 122 (.t 121),.grd 122 true (.aI 123 (.t 9) 1),.grd 122 true (.load 124 none (.t 123)),.grd 122 true (.bin 125 .eql (.t 124) (.c (.int .i64 3))),.pick 126 (.t 122) (.t 125) (.c (.bool false)),.ak 127 (.t 126),.grd 127 true (.aI 128 (.t 9) 4),.grd 127 true (.load 129 none (.t 128)),.grd 127 true (.ak 130 (.t 16)),.grd 127 true (.call 131 37 [(.t 129),(.t 130)]),.pick 132 (.t 127) (.t 131) (.c (.bool false)),.ak 133 (.t 132),.grd 133 true (.ak 134 (.t 15)),.pick 135 (.t 133) (.t 134) (.c (.bool false)),.ak 136 (.t 135),.grd 136 true (.aI 137 (.t 14) 1),.grd 136 true (.load 138 none (.t 137)),.grd 136 true (.bin 139 .eql (.t 138) (.c (.int .i64 2))),.pick 140 (.t 136) (.t 139) (.c (.bool false)),.ak 141 (.t 140),.grd 141 true (.aI 142 (.t 11) 3),.grd 141 true (.load 143 none (.t 142)),.grd 141 true (.un 144 .not (.t 143)),.pick 145 (.t 141) (.t 144) (.c (.bool false)),.aG 0 (.t 145)]) .ret))))))))))⟩
def OQ:gy:=⟨2,28,[.cell 4 (some 7),.tmp 5],(.seq (.ops [.alloc 4 [(.int .i64 0),(.list 1 []),(.list 5 []),(.bool false),(.int .i64 0),(.int .i64 0),(.list 2 [])],.aG 5 (.c (.int .i64 0))]) (.seq (.seq (.ops [.ak 9 (.t 0),.call 10 38 [(.t 9)],.ak 8 (.t 10),.ext 11 (.t 8) 0,.ext 12 (.t 8) 1,.aG 6 (.t 11),.aG 7 (.t 12)]) (.seq (.ops [.ak 13 (.t 7),.bin 14 .neq (.t 13) (.c (.int .i64 0))]) (.cond (.t 14) (.seq (.ops [.build 15 [(.int .i64 0),(.list 1 []),(.list 5 []),(.bool false),(.int .i64 0),(.int .i64 0),(.list 2 [])] [],.ak 16 (.t 7),.store none 7 (.t 4) (.t 15),.aG 5 (.t 16)]) .ret) .skip))) (.seq (.seq (.ops [.ak 17 (.t 1),.bin 18 .lss (.t 17) (.c (.int .i64 1)),.ak 19 (.t 18),.grd 19 false (.ak 20 (.t 1)),.grd 19 false (.bin 21 .gtr (.t 20) (.c (.int .i64 1024))),.pick 22 (.t 19) (.c (.bool true)) (.t 21)]) (.cond (.t 22) (.seq (.ops [.build 23 [(.int .i64 0),(.list 1 []),(.list 5 []),(.bool false),(.int .i64 0),(.int .i64 0),(.list 2 [])] [],.store none 7 (.t 4) (.t 23),.aG 5 (.c (.int .i64 2))]) .ret) .skip)) (.seq (.ops [.ak 24 (.t 1),.ak 25 (.t 0),.call 26 39 [(.t 25)],.build 27 [(.int .i64 0),(.list 1 []),(.list 5 []),(.bool false),(.int .i64 0),(.int .i64 0),(.list 2 [])] [(0,1,(.t 24)),(1,1,(.t 26))],.store none 7 (.t 4) (.t 27),.aG 5 (.c (.int .i64 0))]) .ret))))⟩
def TW:gy:=⟨1,11,[.tmp 2],(.seq (.ops [.aG 2 (.c (.bool false))]) (.seq (.ops [.ak 3 (.t 0),.len 4 (.t 3),.bin 5 .leq (.t 4) (.c (.int .i64 40)),.ak 6 (.t 5),.grd 6 true (.ak 7 (.t 0)),.grd 6 true (.call 8 35 [(.t 7)]),.grd 6 true (.bin 9 .leq (.t 8) (.c (.int .i64 400))),.pick 10 (.t 6) (.t 9) (.c (.bool false)),.aG 2 (.t 10)]) .ret))⟩
def JR:gy:=⟨2,49,[.cell 4 (some 7),.tmp 5],(.seq (.ops [.box 2 (.t 0),.box 3 (.t 1),.alloc 4 [(.int .i64 0),(.list 1 []),(.list 5 []),(.bool false),(.int .i64 0),(.int .i64 0),(.list 2 [])],.aG 5 (.c (.int .i64 0))]) (.seq (.seq (.ops [.load 10 (some 7) (.t 2),.call 11 20 [(.t 10)],.aG 6 (.t 11)]) (.seq (.ops [.ak 12 (.t 6),.bin 13 .neq (.t 12) (.c (.int .i64 0))]) (.cond (.t 13) (.seq (.ops [.build 14 [(.int .i64 0),(.list 1 []),(.list 5 []),(.bool false),(.int .i64 0),(.int .i64 0),(.list 2 [])] [],.ak 15 (.t 6),.store none 7 (.t 4) (.t 14),.aG 5 (.t 15)]) .ret) .skip))) (.seq (.seq (.ops [.load 16 (some 5) (.t 3),.aI 17 (.t 2) 1,.load 18 none (.t 17),.call 19 42 [(.t 16),(.t 18)],.aG 7 (.t 19)]) (.seq (.ops [.ak 20 (.t 7),.bin 21 .neq (.t 20) (.c (.int .i64 0))]) (.cond (.t 21) (.seq (.ops [.build 22 [(.int .i64 0),(.list 1 []),(.list 5 []),(.bool false),(.int .i64 0),(.int .i64 0),(.list 2 [])] [],.ak 23 (.t 7),.store none 7 (.t 4) (.t 22),.aG 5 (.t 23)]) .ret) .skip))) (.seq (.seq (.ops [.aI 24 (.t 3) 0,.load 25 none (.t 24),.aI 26 (.t 2) 5,.load 27 none (.t 26),.bin 28 .neq (.t 25) (.t 27)]) (.cond (.t 28) (.seq (.ops [.build 29 [(.int .i64 0),(.list 1 []),(.list 5 []),(.bool false),(.int .i64 0),(.int .i64 0),(.list 2 [])] [],.store none 7 (.t 4) (.t 29),.aG 5 (.c (.int .i64 15))]) .ret) .skip)) (.seq (.drs [] [3,4,8,9] [.call 31 43 [],.load 32 (some 7) (.t 2),.call 33 44 [(.t 32)],.idx 34 (.t 31) (.t 33) 2 1 none,.load 35 (some 7) (.t 2),.call 36 45 [(.t 35)],.load 37 (some 5) (.t 3),.linv 38 (.t 34) (.t 36) [(.t 37)],.ak 30 (.t 38),.ext 39 (.t 30) 0,.ext 40 (.t 30) 1,.alloc 8 [(.int .i64 0),(.list 1 []),(.list 5 []),(.bool false),(.int .i64 0),(.int .i64 0),(.list 2 [])],.store none 7 (.t 8) (.t 39),.aG 9 (.t 40)]
    [⟨[([1,4,6],0),([],2),([3],5)],(some ([],[],7,[([8,9,10],11),([],12)])),[13],[1,4,6,0,2,3,5,7,8,9,10,11,12,13],false⟩,⟨[([1,4,6],0),([],2),([3],5),([],11)],(some ([],[],7,[([8,9,10],12)])),[13],[1,4,6,0,2,3,5,11,7,8,9,10,12,13],false⟩,⟨[([1,4,6],0),([],2),([3],11),([],5)],(some ([],[],7,[([8,9,10],12)])),[13],[1,4,6,0,2,3,11,5,7,8,9,10,12,13],false⟩,⟨[([1,4,6],0),([],11),([],2),([3],5)],(some ([],[],7,[([8,9,10],12)])),[13],[1,4,6,0,11,2,3,5,7,8,9,10,12,13],false⟩,⟨[([1,4,6],11),([],0),([],2),([3],5)],(some ([],[],7,[([8,9,10],12)])),[13],[1,4,6,11,0,2,3,5,7,8,9,10,12,13],false⟩]) (.seq (.seq (.ops [.ak 41 (.t 9),.bin 42 .neq (.t 41) (.c (.int .i64 0))]) (.cond (.t 42) (.seq (.ops [.build 43 [(.int .i64 0),(.list 1 []),(.list 5 []),(.bool false),(.int .i64 0),(.int .i64 0),(.list 2 [])] [],.ak 44 (.t 9),.store none 7 (.t 4) (.t 43),.aG 5 (.t 44)]) .ret) .skip)) (.seq (.ops [.aI 45 (.t 3) 1,.load 46 none (.t 45),.aI 47 (.t 8) 5,.store none 1 (.t 47) (.t 46)]) (.seq (.ops [.load 48 (some 7) (.t 8),.store none 7 (.t 4) (.t 48),.aG 5 (.c (.int .i64 0))]) .ret))))))))⟩
def aip:gy:=⟨1,19,[.cell 2 (some 5),.tmp 3],(.seq (.ops [.box 1 (.t 0),.alloc 2 [(.int .i64 0),(.int .i64 0),(.int .i64 0),(.list 1 []),(.list 3 [])],.aG 3 (.c (.bool false))]) (.seq (.seq (.ops [.load 4 (some 7) (.t 1),.call 5 20 [(.t 4)],.bin 6 .neq (.t 5) (.c (.int .i64 0)),.ak 7 (.t 6),.grd 7 false (.aI 8 (.t 1) 2),.grd 7 false (.load 9 none (.t 8)),.grd 7 false (.len 10 (.t 9)),.grd 7 false (.bin 11 .eql (.t 10) (.c (.int .i64 0))),.pick 12 (.t 7) (.c (.bool true)) (.t 11)]) (.cond (.t 12) (.seq (.ops [.build 13 [(.int .i64 0),(.int .i64 0),(.int .i64 0),(.list 1 []),(.list 3 [])] [],.store none 5 (.t 2) (.t 13),.aG 3 (.c (.bool false))]) .ret) .skip)) (.seq (.ops [.aI 14 (.t 1) 2,.load 15 none (.t 14),.bQ 16 5 (.t 15) (.c (.int .i64 0)),.load 17 (some 5) (.t 16),.call 18 48 [(.t 17)],.store none 5 (.t 2) (.t 18),.aG 3 (.c (.bool true))]) .ret)))⟩
def zh:gy:=⟨1,48,[.tmp 2],(.seq (.ops [.box 1 (.t 0),.aG 2 (.c (.int .i64 0))]) (.seq (.seq (.ops [.aI 6 (.t 1) 1,.load 7 none (.t 6),.call 8 38 [(.t 7)],.ak 5 (.t 8),.ext 9 (.t 5) 0,.ext 10 (.t 5) 1,.aG 3 (.t 9),.aG 4 (.t 10)]) (.seq (.ops [.ak 11 (.t 4),.bin 12 .neq (.t 11) (.c (.int .i64 0))]) (.cond (.t 12) (.seq (.ops [.ak 13 (.t 4),.aG 2 (.t 13)]) .ret) .skip))) (.seq (.seq (.yu [] [([0,1,2,3,4,5,6,7,8,9,10,11,12,13,14,15,16,17,18,19,20,21,22,23,24,25,27,30],26),([],28),([29],31)] none [32,33] [.aI 14 (.t 1) 0,.load 15 none (.t 14),.bin 16 .lss (.t 15) (.c (.int .i64 1)),.ak 17 (.t 16),.grd 17 false (.aI 18 (.t 1) 0),.grd 17 false (.load 19 none (.t 18)),.grd 17 false (.bin 20 .gtr (.t 19) (.c (.int .i64 1024))),.pick 21 (.t 17) (.c (.bool true)) (.t 20),.ak 22 (.t 21),.grd 22 false (.aI 23 (.t 1) 4),.grd 22 false (.load 24 none (.t 23)),.grd 22 false (.bin 25 .lss (.t 24) (.c (.int .i64 0))),.pick 26 (.t 22) (.c (.bool true)) (.t 25),.ak 27 (.t 26),.grd 27 false (.aI 28 (.t 1) 4),.grd 27 false (.load 29 none (.t 28)),.grd 27 false (.aI 30 (.t 1) 5),.grd 27 false (.load 31 none (.t 30)),.grd 27 false (.bin 32 .gtr (.t 29) (.t 31)),.pick 33 (.t 27) (.c (.bool true)) (.t 32),.ak 34 (.t 33),.grd 34 false (.aI 35 (.t 1) 5),.grd 34 false (.load 36 none (.t 35)),.grd 34 false (.bin 37 .gtr (.t 36) (.c (.int .i64 1073741824))),.pick 38 (.t 34) (.c (.bool true)) (.t 37),.ak 39 (.t 38),.grd 39 false (.load 41 (some 7) (.t 1)),.grd 39 false (.load 44 (some 7) (.t 1)),.grd 39 false (.call 40 49 []),.grd 39 false (.call 42 44 [(.t 41)]),.grd 39 false (.idx 43 (.t 40) (.t 42) 2 1 none),.grd 39 false (.kC 45 (.t 43) [(.t 44)]),.grd 39 false (.un 46 .not (.t 45)),.pick 47 (.t 39) (.c (.bool true)) (.t 46)]) (.cond (.t 47) (.seq (.ops [.aG 2 (.c (.int .i64 3))]) .ret) .skip)) (.seq (.ops [.aG 2 (.c (.int .i64 0))]) .ret))))⟩
def afz:ay:=(.seq (.seq (.ops [.aI 33 (.t 7) 2,.load 34 none (.t 33),.len 35 (.t 34),.bin 36 .gtr (.t 35) (.c (.int .i64 0)),.ak 37 (.t 36),.grd 37 true (.aI 38 (.t 7) 4),.grd 37 true (.load 39 none (.t 38)),.grd 37 true (.ak 40 (.t 1)),.grd 37 true (.bin 41 .lss (.t 39) (.t 40)),.pick 42 (.t 37) (.t 41) (.c (.bool false))]) (.cond (.t 42) .skip (.exit 1))) (.block 2 (.seq (.ops [.aI 43 (.t 7) 2,.load 44 none (.t 43),.bQ 45 5 (.t 44) (.c (.int .i64 0)),.aI 46 (.t 45) 1,.load 47 none (.t 46),.aI 48 (.t 7) 4,.store none 1 (.t 48) (.t 47)]) (.ops [.aI 49 (.t 7) 2,.load 50 none (.t 49),.Ve 51 5 (.t 50) (some (.c (.int .i64 1))) none,.aI 52 (.t 7) 2,.store none 1 (.t 52) (.t 51)]))))
def afA:ay :=
(.clean [1,4,7] [1,4,5,7] (.block 1 (.loop [1,4,7] afz)))
def aiq:gy:=⟨2,59,[.cell 4 (some 7),.tmp 5],(.seq (.ops [.box 2 (.t 0),.alloc 4 [(.int .i64 0),(.list 1 []),(.list 5 []),(.bool false),(.int .i64 0),(.int .i64 0),(.list 2 [])],.aG 5 (.c (.int .i64 0))]) (.seq (.seq (.ops [.load 8 (some 7) (.t 2),.call 9 20 [(.t 8)],.aG 6 (.t 9)]) (.block 0 (.seq (.ops [.ak 11 (.t 6),.bin 12 .neq (.t 11) (.c (.int .i64 0)),.aG 10 (.t 12)]) (.cond (.t 10) (.seq (.ops [.build 13 [(.int .i64 0),(.list 1 []),(.list 5 []),(.bool false),(.int .i64 0),(.int .i64 0),(.list 2 [])] [],.ak 14 (.t 6),.store none 7 (.t 4) (.t 13),.aG 5 (.t 14)]) .ret) (.seq (.ops [.aI 16 (.t 2) 3,.load 17 none (.t 16),.aG 15 (.t 17)]) (.cond (.t 15) (.seq (.ops [.build 18 [(.int .i64 0),(.list 1 []),(.list 5 []),(.bool false),(.int .i64 0),(.int .i64 0),(.list 2 [])] [],.store none 7 (.t 4) (.t 18),.aG 5 (.c (.int .i64 12))]) .ret) (.seq (.ops [.ak 20 (.t 1),.aI 21 (.t 2) 4,.load 22 none (.t 21),.bin 23 .lss (.t 20) (.t 22),.ak 24 (.t 23),.grd 24 false (.ak 25 (.t 1)),.grd 24 false (.aI 26 (.t 2) 5),.grd 24 false (.load 27 none (.t 26)),.grd 24 false (.bin 28 .gtr (.t 25) (.t 27)),.pick 29 (.t 24) (.c (.bool true)) (.t 28),.aG 19 (.t 29)]) (.cond (.t 19) (.seq (.ops [.build 30 [(.int .i64 0),(.list 1 []),(.list 5 []),(.bool false),(.int .i64 0),(.int .i64 0),(.list 2 [])] [],.store none 7 (.t 4) (.t 30),.aG 5 (.c (.int .i64 2))]) .ret) .skip)))))))) (.seq (.ops [.load 31 (some 7) (.t 2),.call 32 45 [(.t 31)],.alloc 7 [(.int .i64 0),(.list 1 []),(.list 5 []),(.bool false),(.int .i64 0),(.int .i64 0),(.list 2 [])],.Vf 7 (.t 7) (.t 32)]) (.seq
   afA (.seq (.seq (.ops [.aI 53 (.t 7) 4,.load 54 none (.t 53),.ak 55 (.t 1),.bin 56 .neq (.t 54) (.t 55)]) (.cond (.t 56) (.seq (.ops [.build 57 [(.int .i64 0),(.list 1 []),(.list 5 []),(.bool false),(.int .i64 0),(.int .i64 0),(.list 2 [])] [],.store none 7 (.t 4) (.t 57),.aG 5 (.c (.int .i64 7))]) .ret) .skip)) (.seq (.ops [.load 58 (some 7) (.t 7),.store none 7 (.t 4) (.t 58),.aG 5 (.c (.int .i64 0))]) .ret))))))⟩
def Es:gy:=⟨3,72,[.cell 6 (some 7),.cell 7 (some 5),.tmp 8],(.seq (.ops [.box 3 (.t 0),.alloc 6 [(.int .i64 0),(.list 1 []),(.list 5 []),(.bool false),(.int .i64 0),(.int .i64 0),(.list 2 [])],.alloc 7 [(.int .i64 0),(.int .i64 0),(.int .i64 0),(.list 1 []),(.list 3 [])],.aG 8 (.c (.int .i64 0))]) (.seq (.seq (.ops [.load 14 (some 7) (.t 3),.call 15 20 [(.t 14)],.aG 9 (.t 15)]) (.seq (.ops [.ak 16 (.t 9),.bin 17 .neq (.t 16) (.c (.int .i64 0))]) (.cond (.t 17) (.seq (.ops [.build 18 [(.int .i64 0),(.list 1 []),(.list 5 []),(.bool false),(.int .i64 0),(.int .i64 0),(.list 2 [])] [],.build 19 [(.int .i64 0),(.int .i64 0),(.int .i64 0),(.list 1 []),(.list 3 [])] [],.ak 20 (.t 9),.store none 7 (.t 6) (.t 18),.store none 5 (.t 7) (.t 19),.aG 8 (.t 20)]) .ret) .skip))) (.seq (.seq (.ops [.ak 21 (.t 1),.call 22 53 [(.t 21)],.aG 10 (.t 22)]) (.seq (.ops [.ak 23 (.t 10),.bin 24 .neq (.t 23) (.c (.int .i64 0))]) (.cond (.t 24) (.seq (.ops [.build 25 [(.int .i64 0),(.list 1 []),(.list 5 []),(.bool false),(.int .i64 0),(.int .i64 0),(.list 2 [])] [],.build 26 [(.int .i64 0),(.int .i64 0),(.int .i64 0),(.list 1 []),(.list 3 [])] [],.ak 27 (.t 10),.store none 7 (.t 6) (.t 25),.store none 5 (.t 7) (.t 26),.aG 8 (.t 27)]) .ret) .skip))) (.seq (.ops [.ak 28 (.t 1),.aI 29 (.t 3) 1,.load 30 none (.t 29),.call 31 54 [(.t 28),(.t 30),(.c (.func 55 []))],.aG 11 (.t 31)]) (.seq (.block 0 (.seq (.ops [.aI 33 (.t 3) 3,.load 34 none (.t 33),.un 35 .not (.t 34),.aG 32 (.t 35)]) (.cond (.t 32) (.seq (.ops [.build 36 [(.int .i64 0),(.list 1 []),(.list 5 []),(.bool false),(.int .i64 0),(.int .i64 0),(.list 2 [])] [],.build 37 [(.int .i64 0),(.int .i64 0),(.int .i64 0),(.list 1 []),(.list 3 [])] [],.store none 7 (.t 6) (.t 36),.store none 5 (.t 7) (.t 37),.aG 8 (.c (.int .i64 12))]) .ret) (.seq (.ops [.ak 39 (.t 11),.un 40 .not (.t 39),.aG 38 (.t 40)]) (.cond (.t 38) (.seq (.ops [.build 41 [(.int .i64 0),(.list 1 []),(.list 5 []),(.bool false),(.int .i64 0),(.int .i64 0),(.list 2 [])] [],.build 42 [(.int .i64 0),(.int .i64 0),(.int .i64 0),(.list 1 []),(.list 3 [])] [],.store none 7 (.t 6) (.t 41),.store none 5 (.t 7) (.t 42),.aG 8 (.c (.int .i64 22))]) .ret) (.seq (.ops [.ak 44 (.t 2),.bin 45 .lss (.t 44) (.c (.int .i64 0)),.ak 46 (.t 45),.grd 46 false (.ak 47 (.t 2)),.grd 46 false (.bin 48 .gtr (.t 47) (.c (.int .i64 1073741824))),.pick 49 (.t 46) (.c (.bool true)) (.t 48),.aG 43 (.t 49)]) (.cond (.t 43) (.seq (.ops [.build 50 [(.int .i64 0),(.list 1 []),(.list 5 []),(.bool false),(.int .i64 0),(.int .i64 0),(.list 2 [])] [],.build 51 [(.int .i64 0),(.int .i64 0),(.int .i64 0),(.list 1 []),(.list 3 [])] [],.store none 7 (.t 6) (.t 50),.store none 5 (.t 7) (.t 51),.aG 8 (.c (.int .i64 24))]) .ret) .skip))))))) (.seq (.drs [] [3,6,7,12] [.aI 52 (.t 3) 4,.load 53 none (.t 52),.aI 54 (.t 3) 5,.load 55 none (.t 54),.ak 56 (.t 2),.aI 57 (.t 3) 6,.load 58 none (.t 57),.ak 59 (.t 1),.call 60 56 [(.t 58),(.t 59)],.build 61 [(.int .i64 0),(.int .i64 0),(.int .i64 0),(.list 1 []),(.list 3 [])] [(0,1,(.t 53)),(1,1,(.t 55)),(2,1,(.t 56)),(4,1,(.t 60))],.alloc 12 [(.int .i64 0),(.int .i64 0),(.int .i64 0),(.list 1 []),(.list 3 [])],.store none 5 (.t 12) (.t 61)]
    [⟨[([0,1,2,3,4,5,6,7],8),([9],10)],(some ([],[],11,[])),[],[0,1,2,3,4,5,6,7,8,9,10,11],false⟩,⟨[([0,1,2,3,4,5,6,7],10),([],8)],(some ([9],[],11,[])),[],[0,1,2,3,4,5,6,7,10,8,9,11],false⟩]) (.seq (.ops [.load 62 (some 7) (.t 3),.call 63 45 [(.t 62)],.alloc 13 [(.int .i64 0),(.list 1 []),(.list 5 []),(.bool false),(.int .i64 0),(.int .i64 0),(.list 2 [])],.Vf 7 (.t 13) (.t 63)]) (.seq (.ops [.load 64 (some 5) (.t 12),.call 65 48 [(.t 64)],.iw 66 5 [(.t 65)],.aI 67 (.t 13) 3,.store none 1 (.t 67) (.c (.bool false)),.aI 68 (.t 13) 6,.store none 1 (.t 68) (.nil 2),.aI 69 (.t 13) 2,.store none 1 (.t 69) (.t 66)]) (.seq (.yu [(.t 12)] [] (some ([0],[1],2,[([],3)])) [4] [.load 70 (some 7) (.t 13),.Vd 71 (some 5) (.t 12),.store none 7 (.t 6) (.t 70),.store none 5 (.t 7) (.t 71),.aG 8 (.c (.int .i64 0))]) .ret)))))))))⟩
def zi:ay:=(.seq (.seq (.ops [.ak 4 (.t 3),.ak 5 (.t 0),.len 6 (.t 5),.bin 7 .lss (.t 4) (.t 6)]) (.cond (.t 7) .skip (.exit 0))) (.seq (.block 1 (.seq (.ops [.ak 10 (.t 0),.ak 11 (.t 3),.bQ 12 3 (.t 10) (.t 11),.aI 13 (.t 12) 2,.load 14 none (.t 13),.len 15 (.t 14),.bin 16 .gtr (.t 15) (.c (.int .i64 8)),.ak 17 (.t 16),.grd 17 false (.ak 18 (.t 0)),.grd 17 false (.ak 19 (.t 3)),.grd 17 false (.bQ 20 3 (.t 18) (.t 19)),.grd 17 false (.aI 21 (.t 20) 2),.grd 17 false (.load 22 none (.t 21)),.grd 17 false (.call 23 15 [(.t 22)]),.grd 17 false (.un 24 .not (.t 23)),.pick 25 (.t 17) (.c (.bool true)) (.t 24)]) (.cond (.t 25) (.seq (.ops [.aG 2 (.c (.bool false))]) .ret) .skip))) (.ops [.ak 8 (.t 3),.bin 9 .add (.t 8) (.c (.int .i64 1)),.aG 3 (.t 9)])))
def JU:ay :=
(.clean [0,3] [0,2] (.block 0 (.loop [0,3] zi)))
def abg:gy:=⟨1,29,[.tmp 2],(.seq (.ops [.aG 2 (.c (.bool false))]) (.seq (.seq (.ops [.aG 3 (.c (.int .i64 0))])
  JU) (.seq (.ops [.ak 26 (.t 0),.len 27 (.t 26),.bin 28 .leq (.t 27) (.c (.int .i64 30)),.aG 2 (.t 28)]) .ret)))⟩
def JV:ay:=(.seq (.seq (.ops [.ak 12 (.t 6),.ak 13 (.t 0),.len 14 (.t 13),.bin 15 .lss (.t 12) (.t 14)]) (.cond (.t 15) .skip (.exit 0))) (.seq (.block 1 (.ops [.ak 18 (.t 5),.ak 19 (.t 0),.ak 20 (.t 6),.bQ 21 1 (.t 19) (.t 20),.load 22 none (.t 21),.make 23 (.agg [(.int .u8 0),(.int .u8 0),(.int .u8 0),(.int .u8 0),(.int .u8 0),(.int .u8 0),(.int .u8 0),(.int .u8 0)]) (.t 22) (.t 22),.iw 24 1 [(.t 23)],.app 25 1 (.t 18) (.t 24),.aG 5 (.t 25)])) (.ops [.ak 16 (.t 6),.bin 17 .add (.t 16) (.c (.int .i64 1)),.aG 6 (.t 17)])))
def JW:ay :=
(.clean [0,5,6,25] [2,3,5] (.block 0 (.loop [0,5,6,25] JV)))
def Yk:gy:=⟨1,27,[.tmp 2,.tmp 3],(.seq (.ops [.aG 2 (.nil 1),.aG 3 (.c (.int .i64 0))]) (.seq (.seq (.ops [.ak 7 (.t 0),.call 8 62 [(.t 7)],.aG 4 (.t 8)]) (.seq (.ops [.ak 9 (.t 4),.bin 10 .neq (.t 9) (.c (.int .i64 0))]) (.cond (.t 10) (.seq (.ops [.ak 11 (.t 4),.aG 2 (.nil 1),.aG 3 (.t 11)]) .ret) .skip))) (.seq (.ops [.aG 5 (.nil 1)]) (.seq (.seq (.ops [.aG 6 (.c (.int .i64 0))])
   JW) (.seq (.ops [.ak 26 (.t 5),.aG 2 (.t 26),.aG 3 (.c (.int .i64 0))]) .ret)))))⟩
def zk:ay:=(.seq (.seq (.ops [.ak 12 (.t 6),.aI 13 (.t 3) 2,.load 14 none (.t 13),.len 15 (.t 14),.bin 16 .lss (.t 12) (.t 15),.ak 17 (.t 16),.grd 17 true (.ak 18 (.t 6)),.grd 17 true (.bin 19 .lss (.t 18) (.c (.int .i64 6))),.pick 20 (.t 17) (.t 19) (.c (.bool false))]) (.cond (.t 20) .skip (.exit 0))) (.seq (.block 1 (.seq (.yu [] [([0,1,2,3,4,5,6],7)] none [8] [.aI 23 (.t 2) 0,.load 24 none (.t 23),.aI 25 (.t 3) 2,.load 26 none (.t 25),.ak 27 (.t 6),.bQ 28 3 (.t 26) (.t 27),.load 29 (some 3) (.t 28),.call 30 33 [(.t 24),(.t 29)],.bin 31 .eql (.t 30) (.c (.int .i64 0))]) (.cond (.t 31) (.ops [.ak 32 (.t 5),.aI 33 (.t 3) 2,.load 34 none (.t 33),.ak 35 (.t 6),.bQ 36 3 (.t 34) (.t 35),.load 37 (some 3) (.t 36),.iw 38 3 [(.t 37)],.app 39 3 (.t 32) (.t 38),.aG 5 (.t 39)]) .skip))) (.ops [.ak 21 (.t 6),.bin 22 .add (.t 21) (.c (.int .i64 1)),.aG 6 (.t 22)])))
def JX:ay :=
(.clean [2,3,4,5,6,39,43] [2,3,4,5] (.block 0 (.loop [2,3,4,5,6,39,43] zk)))
def abh:gy:=⟨2,89,[.cell 4 (some 12)],(.seq (.ops [.box 2 (.t 0),.box 3 (.t 1),.alloc 4 [(.list 1 []),(.list 1 []),(.int .i64 0),(.list 1 []),(.list 5 []),(.bool false),(.int .i64 0),(.int .i64 0),(.list 2 []),(.int .i64 0),(.int .i64 0),(.bool false)]]) (.seq (.ops [.aG 5 (.nil 3)]) (.seq (.seq (.ops [.aG 6 (.c (.int .i64 0))])
   JX) (.seq (.ops [.ak 41 (.t 5),.call 42 63 [(.t 41)],.ak 40 (.t 42),.ext 43 (.t 40) 0,.ext 44 (.t 40) 1,.aG 5 (.t 43)]) (.seq (.ops [.aI 45 (.t 2) 2,.aI 46 (.t 45) 5,.load 47 none (.t 46),.aI 48 (.t 2) 2,.aI 49 (.t 48) 5,.load 50 none (.t 49),.bin 51 .add (.t 50) (.c (.int .i64 1)),.aI 52 (.t 3) 1,.load 53 none (.t 52),.conv 54 .i64 (.t 53),.bin 55 .rem (.t 54) (.c (.int .i64 3)),.bin 56 .add (.t 51) (.t 55),.ak 57 (.t 5),.build 58 [(.int .i64 0),(.int .i64 0),(.int .i64 0),(.list 1 []),(.list 3 [])] [(0,1,(.t 47)),(1,1,(.t 56)),(4,1,(.t 57))],.alloc 7 [(.int .i64 0),(.int .i64 0),(.int .i64 0),(.list 1 []),(.list 3 [])],.store none 5 (.t 7) (.t 58)]) (.seq (.ops [.aI 60 (.t 2) 0,.load 61 none (.t 60),.load 62 (some 5) (.t 7),.call 63 64 [(.t 61),(.t 62)],.ak 59 (.t 63),.ext 64 (.t 59) 0,.ext 65 (.t 59) 1,.aG 8 (.t 64),.aG 9 (.t 65)]) (.seq (.ops [.aI 67 (.t 2) 2,.load 68 (some 7) (.t 67),.load 69 (some 5) (.t 7),.call 70 16 [(.t 68),(.t 69)],.ak 66 (.t 70),.ext 71 (.t 66) 0,.ext 72 (.t 66) 1,.alloc 10 [(.int .i64 0),(.list 1 []),(.list 5 []),(.bool false),(.int .i64 0),(.int .i64 0),(.list 2 [])],.store none 7 (.t 10) (.t 71),.aG 11 (.t 72)]) (.seq (.yu [(.t 10)] [] (some ([0,2,3,4,5,6,7,8,12],[1,9,10,11],13,[([14],15),([16],17)])) [] [.ak 73 (.t 8),.aI 75 (.t 2) 11,.load 76 none (.t 75),.ak 77 (.t 76),.grd 77 true (.ak 78 (.t 9)),.grd 77 true (.bin 79 .eql (.t 78) (.c (.int .i64 0))),.pick 80 (.t 77) (.t 79) (.c (.bool false)),.ak 81 (.t 80),.aI 85 (.t 2) 0,.Vd 74 (some 7) (.t 10),.grd 81 true (.ak 82 (.t 11)),.grd 81 true (.bin 83 .eql (.t 82) (.c (.int .i64 0))),.pick 84 (.t 81) (.t 83) (.c (.bool false)),.store none 1 (.t 85) (.t 73),.aI 86 (.t 2) 2,.store none 7 (.t 86) (.t 74),.aI 87 (.t 2) 11,.store none 1 (.t 87) (.t 84)]) (.seq (.ops [.load 88 (some 12) (.t 2),.store none 12 (.t 4) (.t 88)]) .ret)))))))))⟩
def abj:gy:=⟨2,15,[.tmp 4],(.seq (.ops [.box 3 (.t 1),.aG 4 (.c (.int .i64 0))]) (.seq (.seq (.ops [.ak 6 (.t 0),.call 7 57 [(.t 6)],.aG 5 (.t 7)]) (.seq (.ops [.ak 8 (.t 5),.bin 9 .neq (.t 8) (.c (.int .i64 0))]) (.cond (.t 9) (.seq (.ops [.ak 10 (.t 5),.aG 4 (.t 10)]) .ret) .skip))) (.seq (.yu [] [([0,2],1),([],3)] none [4] [.ak 11 (.t 0),.load 13 (some 3) (.t 3),.call 12 66 [(.t 11)],.call 14 65 [(.t 12),(.t 13)],.aG 4 (.t 14)]) .ret)))⟩
def CX:ay:=(.seq (.seq (.ops [.ak 14 (.t 8),.bin 15 .geq (.t 14) (.c (.int .i64 0))]) (.cond (.t 15) .skip (.exit 0))) (.seq (.block 1 (.seq (.ops [.ak 19 (.t 0),.ak 20 (.t 8),.bQ 21 3 (.t 19) (.t 20),.load 22 (some 3) (.t 21),.ak 23 (.t 1),.ak 24 (.t 2),.call 25 67 [(.t 22),(.t 23),(.t 24)],.ak 18 (.t 25),.ext 26 (.t 18) 0,.ext 27 (.t 18) 1,.aG 9 (.t 26),.aG 10 (.t 27)]) (.seq (.ops [.ak 28 (.t 10)]) (.cond (.t 28) (.seq (.ops [.ak 29 (.t 0),.ak 30 (.t 8),.bQ 31 3 (.t 29) (.t 30),.aI 32 (.t 31) 2,.load 33 none (.t 32),.ak 34 (.t 9),.bQ 35 8 (.t 33) (.t 34),.load 36 (some 8) (.t 35),.store none 8 (.t 6) (.t 36),.aG 7 (.c (.bool true))]) .ret) .skip)))) (.ops [.ak 16 (.t 8),.bin 17 .sub (.t 16) (.c (.int .i64 1)),.aG 8 (.t 17)])))
def JY:ay :=
(.clean [0,1,2,6,8] [6,7] (.block 0 (.loop [0,1,2,6,8] CX)))
def abk:gy:=⟨3,38,[.cell 6 (some 8),.tmp 7],(.seq (.ops [.alloc 6 [(.int .u8 0),(.int .u8 0),(.int .u8 0),(.int .u8 0),(.int .u8 0),(.int .u8 0),(.int .u8 0),(.int .u8 0)],.aG 7 (.c (.bool false))]) (.seq (.seq (.ops [.ak 11 (.t 0),.len 12 (.t 11),.bin 13 .sub (.t 12) (.c (.int .i64 1)),.aG 8 (.t 13)])
  JY) (.seq (.ops [.build 37 [(.int .u8 0),(.int .u8 0),(.int .u8 0),(.int .u8 0),(.int .u8 0),(.int .u8 0),(.int .u8 0),(.int .u8 0)] [],.store none 8 (.t 6) (.t 37),.aG 7 (.c (.bool false))]) .ret)))⟩
def zl:ay:=(.seq (.seq (.ops [.ak 5 (.t 4),.ak 6 (.t 0),.len 7 (.t 6),.bin 8 .lss (.t 5) (.t 7)]) (.cond (.t 8) .skip (.exit 0))) (.seq (.block 1 (.ops [.ak 11 (.t 3),.ak 12 (.t 0),.ak 13 (.t 4),.bQ 14 3 (.t 12) (.t 13),.aI 15 (.t 14) 2,.load 16 none (.t 15),.len 17 (.t 16),.bin 18 .add (.t 11) (.t 17),.aG 3 (.t 18)])) (.ops [.ak 9 (.t 4),.bin 10 .add (.t 9) (.c (.int .i64 1)),.aG 4 (.t 10)])))
def zn:ay :=
(.clean [0,3,4] [2,3] (.block 0 (.loop [0,3,4] zl)))
def Yl:gy:=⟨1,20,[.tmp 2],(.seq (.ops [.aG 2 (.c (.int .i64 0))]) (.seq (.ops [.aG 3 (.c (.int .i64 0))]) (.seq (.seq (.ops [.aG 4 (.c (.int .i64 0))])
   zn) (.seq (.ops [.ak 19 (.t 3),.aG 2 (.t 19)]) .ret))))⟩
def air:gy:=⟨4,18,[.cell 8 (some 5)],(.seq (.ops [.alloc 8 [(.int .i64 0),(.int .i64 0),(.int .i64 0),(.list 1 []),(.list 3 [])]]) (.seq (.ops [.ak 9 (.t 0),.ak 10 (.t 1),.ak 11 (.t 2),.ak 12 (.t 3),.build 13 [(.int .u8 0),(.int .u8 0),(.int .u8 0),(.int .u8 0),(.int .u8 0),(.int .u8 0),(.int .u8 0),(.int .u8 0)] [(0,1,(.t 12))],.iw 14 8 [(.t 13)],.build 15 [(.int .i64 0),(.int .i64 0),(.list 0 [])] [(1,1,(.t 11)),(2,1,(.t 14))],.iw 16 3 [(.t 15)],.build 17 [(.int .i64 0),(.int .i64 0),(.int .i64 0),(.list 1 []),(.list 3 [])] [(0,1,(.t 9)),(1,1,(.t 10)),(4,1,(.t 16))],.store none 5 (.t 8) (.t 17)]) .ret))⟩
def ais:gy:=⟨2,8,[.tmp 4],(.seq (.ops [.aG 4 (.c (.bool false))]) (.seq (.ops [.ak 5 (.t 0),.ak 6 (.t 1),.call 7 52 [(.t 5),(.t 6)],.aG 4 (.t 7)]) .ret))⟩
def Ym:gy:=⟨1,12,[.tmp 2,.tmp 3],(.seq (.ops [.aG 2 (.nil 1),.aG 3 (.c (.int .i64 0))]) (.seq (.seq (.ops [.ak 5 (.t 0),.call 6 68 [(.t 5)],.aG 4 (.t 6)]) (.seq (.ops [.ak 7 (.t 4),.bin 8 .neq (.t 7) (.c (.int .i64 0))]) (.cond (.t 8) (.seq (.ops [.ak 9 (.t 4),.aG 2 (.nil 1),.aG 3 (.t 9)]) .ret) .skip))) (.seq (.ops [.ak 10 (.t 0),.call 11 69 [(.t 10),(.c (.func 70 []))],.aG 2 (.t 11),.aG 3 (.c (.int .i64 0))]) .ret)))⟩
def afB:gy:=⟨1,8,[.tmp 2],(.seq (.ops [.aG 2 (.nil 1)]) (.seq (.seq (.ops [.ak 3 (.t 0),.QI 4 false (.t 3)]) (.cond (.t 4) (.seq (.ops [.aG 2 (.nil 1)]) .ret) .skip)) (.seq (.ops [.iw 5 1 [],.ak 6 (.t 0),.app 7 1 (.t 5) (.t 6),.aG 2 (.t 7)]) .ret)))⟩
def JZ:gy:=⟨2,47,[.tmp 4],(.seq (.ops [.box 2 (.t 0),.aG 4 (.c (.int .i64 0))]) (.seq (.seq (.ops [.ak 9 (.t 1),.call 10 38 [(.t 9)],.ak 8 (.t 10),.ext 11 (.t 8) 0,.ext 12 (.t 8) 1,.aG 5 (.t 11),.aG 6 (.t 12)]) (.seq (.ops [.ak 13 (.t 6),.bin 14 .neq (.t 13) (.c (.int .i64 0))]) (.cond (.t 14) (.seq (.ops [.ak 15 (.t 6),.aG 4 (.t 15)]) .ret) .skip))) (.seq (.block 0 (.seq (.ops [.aI 17 (.t 2) 0,.load 18 none (.t 17),.bin 19 .lss (.t 18) (.c (.int .i64 0)),.ak 20 (.t 19),.grd 20 false (.aI 21 (.t 2) 1),.grd 20 false (.load 22 none (.t 21)),.grd 20 false (.aI 23 (.t 2) 0),.grd 20 false (.load 24 none (.t 23)),.grd 20 false (.bin 25 .leq (.t 22) (.t 24)),.pick 26 (.t 20) (.c (.bool true)) (.t 25),.ak 27 (.t 26),.grd 27 false (.aI 28 (.t 2) 1),.grd 27 false (.load 29 none (.t 28)),.grd 27 false (.bin 30 .gtr (.t 29) (.c (.int .i64 1073741824))),.pick 31 (.t 27) (.c (.bool true)) (.t 30),.aG 16 (.t 31)]) (.cond (.t 16) (.seq (.ops [.aG 4 (.c (.int .i64 2))]) .ret) (.seq (.ops [.aI 33 (.t 2) 2,.load 34 none (.t 33),.call 35 72 [(.t 34),(.c (.int .i64 0)),(.c (.int .i64 1073741824))],.un 36 .not (.t 35),.aG 32 (.t 36)]) (.cond (.t 32) (.seq (.ops [.aG 4 (.c (.int .i64 24))]) .ret) .skip))))) (.seq (.seq (.ops [.aI 37 (.t 2) 3,.load 38 none (.t 37),.call 39 73 [(.t 38),(.c (.int .i64 0))],.aG 7 (.t 39)]) (.seq (.ops [.ak 40 (.t 7),.bin 41 .neq (.t 40) (.c (.int .i64 0))]) (.cond (.t 41) (.seq (.ops [.ak 42 (.t 7),.aG 4 (.t 42)]) .ret) .skip))) (.seq (.ops [.aI 43 (.t 2) 4,.load 44 none (.t 43),.ak 45 (.t 1),.call 46 74 [(.t 44),(.t 45)],.aG 4 (.t 46)]) .ret)))))⟩
def abl:gy:=⟨0,5,[.cell 0 (some 2)],(.seq (.ops [.alloc 0 [.nC,.nC]]) (.seq (.ops [.alloc 1 [.nC],.store none 1 (.t 1) (.c (.func 75 []))]) (.seq (.ops [.QJ 2 77 [(.t 1)],.QJ 3 79 [(.t 1)],.build 4 [.nC,.nC] [(0,1,(.t 2)),(1,1,(.t 3))],.store none 2 (.t 0) (.t 4)]) .ret)))⟩
def Yn:gy:=⟨1,5,[.tmp 2],(.seq (.ops [.box 1 (.t 0),.aG 2 (.c (.int .i64 0))]) (.seq (.seq (.ops [.aI 3 (.t 1) 3,.load 4 none (.t 3)]) (.cond (.t 4) (.seq (.ops [.aG 2 (.c (.int .i64 1))]) .ret) .skip)) (.seq (.ops [.aG 2 (.c (.int .i64 0))]) .ret)))⟩
def J3:ay:=(.seq (.ops [.bin 13 .lss (.t 12) (.t 11)]) (.seq (.cond (.t 13) .skip (.exit 0)) (.seq (.block 1 (.seq (.ops [.bQ 14 5 (.t 10) (.t 12),.load 15 (some 5) (.t 14),.alloc 5 [(.int .i64 0),(.int .i64 0),(.int .i64 0),(.list 1 []),(.list 3 [])],.store none 5 (.t 5) (.t 15)]) (.ops [.ak 16 (.t 3),.load 17 (some 5) (.t 5),.call 18 48 [(.t 17)],.iw 19 5 [(.t 18)],.app 20 5 (.t 16) (.t 19),.aG 3 (.t 20)]))) (.ops [.bin 21 .add (.t 12) (.c (.int .i64 1)),.ak 12 (.t 21)]))))
def J4:ay :=
(.clean [1,2,3,10,11,12,20,37] [1,2,3,20,37] (.block 0 (.loop [1,2,3,10,11,12,20,37] J3)))
def J5:ay:=(.seq (.ops [.bin 26 .lss (.t 25) (.t 24)]) (.seq (.cond (.t 26) .skip (.exit 2)) (.seq (.block 3 (.seq (.ops [.bQ 27 2 (.t 23) (.t 25),.load 28 (some 2) (.t 27),.alloc 8 [(.int .i64 0),(.list 1 [])],.store none 2 (.t 8) (.t 28)]) (.yu [] [([0,1,2,3,4],5),([6],7)] (some ([],[],8,[])) [9] [.ak 29 (.t 6),.aI 30 (.t 8) 0,.load 31 none (.t 30),.aI 32 (.t 8) 1,.load 33 none (.t 32),.call 34 80 [(.t 33)],.build 35 [(.int .i64 0),(.list 1 [])] [(0,1,(.t 31)),(1,1,(.t 34))],.iw 36 2 [(.t 35)],.app 37 2 (.t 29) (.t 36),.aG 6 (.t 37)]))) (.ops [.bin 38 .add (.t 25) (.c (.int .i64 1)),.ak 25 (.t 38)]))))
def J6:ay :=
(.clean [1,2,3,6,20,23,24,25,37] [1,2,3,6] (.block 2 (.loop [1,2,3,6,20,23,24,25,37] J5)))
def abm:gy:=⟨1,48,[.own 2 7],(.seq (.ops [.box 1 (.t 0),.alloc 2 [(.int .i64 0),(.list 1 []),(.list 5 []),(.bool false),(.int .i64 0),(.int .i64 0),(.list 2 [])]]) (.seq (.ops [.aG 3 (.nil 5)]) (.seq (.seq (.ops [.aI 9 (.t 1) 2,.load 10 none (.t 9),.len 11 (.t 10),.ak 12 (.c (.int .i64 0))])
   J4) (.seq (.ops [.aG 6 (.nil 2)]) (.seq (.seq (.ops [.aI 22 (.t 1) 6,.load 23 none (.t 22),.len 24 (.t 23),.ak 25 (.c (.int .i64 0))])
    J6) (.seq (.ops [.aI 39 (.t 1) 1,.load 40 none (.t 39),.call 41 39 [(.t 40)],.aG 42 (.t 3),.aG 43 (.t 6),.aI 44 (.t 1) 1,.store none 1 (.t 44) (.t 41),.aI 45 (.t 1) 2,.store none 1 (.t 45) (.t 42),.aI 46 (.t 1) 6,.store none 1 (.t 46) (.t 43)]) (.seq (.ops [.Zi 47 7 (.t 1),.Vf 7 (.t 2) (.t 47)]) .ret)))))))⟩
def J7:ay:=(.seq (.ops [.bin 10 .lss (.t 9) (.t 8)]) (.seq (.cond (.t 10) .skip (.exit 0)) (.seq (.block 1 (.seq (.ops [.bQ 11 3 (.t 7) (.t 9),.load 12 (some 3) (.t 11),.alloc 5 [(.int .i64 0),(.int .i64 0),(.list 0 [])],.store none 3 (.t 5) (.t 12)]) (.seq (.ops [.aI 13 (.t 5) 2,.load 14 none (.t 13),.call 15 86 [(.t 14)],.aI 16 (.t 5) 2,.store none 1 (.t 16) (.t 15)]) (.ops [.ak 17 (.t 3),.load 18 (some 3) (.t 5),.iw 19 3 [(.t 18)],.app 20 3 (.t 17) (.t 19),.aG 3 (.t 20)])))) (.ops [.bin 21 .add (.t 9) (.c (.int .i64 1)),.ak 9 (.t 21)]))))
def J8:ay :=
(.clean [1,2,3,7,8,9,20] [1,2,3] (.block 0 (.loop [1,2,3,7,8,9,20] J7)))
def abn:gy:=⟨1,29,[.cell 2 (some 5)],(.seq (.ops [.box 1 (.t 0),.alloc 2 [(.int .i64 0),(.int .i64 0),(.int .i64 0),(.list 1 []),(.list 3 [])]]) (.seq (.ops [.aG 3 (.nil 3)]) (.seq (.seq (.ops [.aI 6 (.t 1) 4,.load 7 none (.t 6),.len 8 (.t 7),.ak 9 (.c (.int .i64 0))])
   J8) (.seq (.ops [.aI 22 (.t 1) 3,.load 23 none (.t 22),.call 24 39 [(.t 23)],.ak 25 (.t 3),.aI 26 (.t 1) 3,.store none 1 (.t 26) (.t 24),.aI 27 (.t 1) 4,.store none 1 (.t 27) (.t 25)]) (.seq (.ops [.load 28 (some 5) (.t 1),.store none 5 (.t 2) (.t 28)]) .ret)))))⟩
def abo:gy:=⟨0,2,[.cell 0 (some 2)],(.seq (.ops [.alloc 0 [.nC,.nC]]) (.seq (.ops [.build 1 [.nC,.nC] [(0,1,(.c (.func 87 []))),(1,1,(.c (.func 88 [])))],.store none 2 (.t 0) (.t 1)]) .ret))⟩
def afC:ay:=(.seq (.seq (.ops [.ak 11 (.t 5),.ak 12 (.t 0),.len 13 (.t 12),.bin 14 .lss (.t 11) (.t 13)]) (.cond (.t 14) .skip (.exit 0))) (.seq (.block 1 (.seq (.yu [] [([0,1,2,3,4,5,6,7,8,9,10,11,12,13,14,15,16,17,18,19,20,21,22,23,24,25,26,27,28,29,30,31,32,33,34],35)] none [36,37] [.ak 17 (.t 0),.ak 18 (.t 5),.bQ 19 3 (.t 17) (.t 18),.aI 20 (.t 19) 0,.load 21 none (.t 20),.ak 22 (.t 1),.ak 23 (.t 5),.bQ 24 3 (.t 22) (.t 23),.aI 25 (.t 24) 0,.load 26 none (.t 25),.bin 27 .neq (.t 21) (.t 26),.ak 28 (.t 27),.grd 28 false (.ak 29 (.t 0)),.grd 28 false (.ak 30 (.t 5)),.grd 28 false (.bQ 31 3 (.t 29) (.t 30)),.grd 28 false (.aI 32 (.t 31) 1),.grd 28 false (.load 33 none (.t 32)),.grd 28 false (.ak 34 (.t 1)),.grd 28 false (.ak 35 (.t 5)),.grd 28 false (.bQ 36 3 (.t 34) (.t 35)),.grd 28 false (.aI 37 (.t 36) 1),.grd 28 false (.load 38 none (.t 37)),.grd 28 false (.bin 39 .neq (.t 33) (.t 38)),.pick 40 (.t 28) (.c (.bool true)) (.t 39),.ak 41 (.t 40),.grd 41 false (.ak 42 (.t 0)),.grd 41 false (.ak 43 (.t 5)),.grd 41 false (.bQ 44 3 (.t 42) (.t 43)),.grd 41 false (.aI 45 (.t 44) 2),.grd 41 false (.load 46 none (.t 45)),.grd 41 false (.ak 47 (.t 1)),.grd 41 false (.ak 48 (.t 5)),.grd 41 false (.bQ 49 3 (.t 47) (.t 48)),.grd 41 false (.aI 50 (.t 49) 2),.grd 41 false (.load 51 none (.t 50)),.grd 41 false (.call 52 93 [(.t 46),(.t 51)]),.grd 41 false (.un 53 .not (.t 52)),.pick 54 (.t 41) (.c (.bool true)) (.t 53)]) (.cond (.t 54) (.seq (.ops [.aG 4 (.c (.bool false))]) .ret) .skip))) (.ops [.ak 15 (.t 5),.bin 16 .add (.t 15) (.c (.int .i64 1)),.aG 5 (.t 16)])))
def afD:ay :=
(.clean [0,1,5] [4] (.block 0 (.loop [0,1,5] afC)))
def ait:gy:=⟨2,55,[.tmp 4],(.seq (.ops [.aG 4 (.c (.bool false))]) (.seq (.seq (.ops [.ak 6 (.t 0),.len 7 (.t 6),.ak 8 (.t 1),.len 9 (.t 8),.bin 10 .neq (.t 7) (.t 9)]) (.cond (.t 10) (.seq (.ops [.aG 4 (.c (.bool false))]) .ret) .skip)) (.seq (.seq (.ops [.aG 5 (.c (.int .i64 0))])
   afD) (.seq (.ops [.aG 4 (.c (.bool true))]) .ret))))⟩
def abp:gy:=⟨1,6,[.tmp 2],(.seq (.ops [.aG 2 (.c (.int .i64 0))]) (.seq (.ops [.ak 3 (.t 0),.call 4 94 [(.t 3)],.call 5 68 [(.t 4)],.aG 2 (.t 5)]) .ret))⟩
def CY:ay:=(.seq (.ops [.bin 18 .lss (.t 17) (.t 16)]) (.seq (.cond (.t 18) .skip (.exit 0)) (.seq (.block 1 (.seq (.ops [.ak 19 (.t 17),.bQ 20 1 (.t 15) (.t 17),.load 21 none (.t 20),.aG 7 (.t 19),.aG 8 (.t 21)]) (.seq (.ops [.ak 22 (.t 1),.ak 23 (.t 7),.bQ 24 1 (.t 22) (.t 23),.load 25 none (.t 24),.aG 9 (.t 25)]) (.seq (.ops [.ak 26 (.t 2),.ak 27 (.t 8),.ak 28 (.t 9),.kC 29 (.t 26) [(.t 27),(.t 28)],.un 30 .not (.t 29)]) (.cond (.t 30) (.seq (.ops [.aG 6 (.c (.bool false))]) .ret) .skip))))) (.ops [.bin 31 .add (.t 17) (.c (.int .i64 1)),.ak 17 (.t 31)]))))
def J9:ay :=
(.clean [0,1,2,15,16,17] [6] (.block 0 (.loop [0,1,2,15,16,17] CY)))
def Yo:gy:=⟨3,32,[.tmp 6],(.seq (.ops [.aG 6 (.c (.bool false))]) (.seq (.seq (.ops [.ak 10 (.t 0),.len 11 (.t 10),.ak 12 (.t 1),.len 13 (.t 12),.bin 14 .neq (.t 11) (.t 13)]) (.cond (.t 14) (.seq (.ops [.aG 6 (.c (.bool false))]) .ret) .skip)) (.seq (.seq (.ops [.ak 15 (.t 0),.len 16 (.t 15),.ak 17 (.c (.int .i64 0))])
   J9) (.seq (.ops [.aG 6 (.c (.bool true))]) .ret))))⟩
def abq:gy:=⟨2,9,[.tmp 4],(.seq (.ops [.aG 4 (.c (.bool false))]) (.seq (.ops [.ak 5 (.t 0),.len 6 (.t 5),.ak 7 (.t 1),.bin 8 .eql (.t 6) (.t 7),.aG 4 (.t 8)]) .ret))⟩
def Ko:ay:=(.seq (.ops [.bin 21 .lss (.t 20) (.t 19)]) (.seq (.cond (.t 21) .skip (.exit 2)) (.seq (.block 3 (.seq (.ops [.bQ 22 2 (.t 18) (.t 20),.load 23 (some 2) (.t 22),.alloc 9 [(.int .i64 0),(.int .i64 0)],.store none 2 (.t 9) (.t 23)]) (.yu [] [([0,1,2,3,4,5,6,7,8,9,10,11,12,13,14,15],16),([17],18)] (some ([],[],19,[])) [20] [.ak 24 (.t 5),.ak 25 (.t 6),.aI 26 (.t 9) 0,.load 27 none (.t 26),.ak 28 (.t 1),.ak 29 (.t 6),.bQ 30 1 (.t 28) (.t 29),.load 31 none (.t 30),.aI 32 (.t 9) 0,.load 33 none (.t 32),.aI 34 (.t 9) 0,.load 35 none (.t 34),.aI 36 (.t 9) 1,.load 37 none (.t 36),.bin 38 .add (.t 35) (.t 37),.Ve 39 8 (.t 31) (some (.t 33)) (some (.t 38)),.call 40 86 [(.t 39)],.build 41 [(.int .i64 0),(.int .i64 0),(.list 0 [])] [(0,1,(.t 25)),(1,1,(.t 27)),(2,1,(.t 40))],.iw 42 3 [(.t 41)],.app 43 3 (.t 24) (.t 42),.aG 5 (.t 43)]))) (.ops [.bin 44 .add (.t 20) (.c (.int .i64 1)),.ak 20 (.t 44)]))))
def Kq:ay :=
(.clean [0,1,5,6,10,11,12,18,19,20,43] [0,1,4,5,10,11,12,43] (.block 2 (.loop [0,1,5,6,10,11,12,18,19,20,43] Ko)))
def Kr:ay:=(.seq (.ops [.bin 13 .lss (.t 12) (.t 11)]) (.seq (.cond (.t 13) .skip (.exit 0)) (.seq (.block 1 (.seq (.ops [.ak 14 (.t 12),.bQ 15 2 (.t 10) (.t 12),.load 16 (some 2) (.t 15),.alloc 7 [(.int .i64 0),(.list 1 [])],.aG 6 (.t 14),.store none 2 (.t 7) (.t 16)]) (.seq (.ops [.load 17 (some 2) (.t 7),.call 18 95 [(.t 17)],.len 19 (.t 18),.ak 20 (.c (.int .i64 0))])
    Kq))) (.ops [.bin 45 .add (.t 12) (.c (.int .i64 1)),.ak 12 (.t 45)]))))
def Kt:ay :=
(.clean [0,1,5,10,11,12,43] [4,5] (.block 0 (.loop [0,1,5,10,11,12,43] Kr)))
def abr:gy:=⟨2,47,[.tmp 4],(.seq (.ops [.aG 4 (.nil 3)]) (.seq (.ops [.aG 5 (.nil 3)]) (.seq (.seq (.ops [.ak 10 (.t 0),.len 11 (.t 10),.ak 12 (.c (.int .i64 0))])
   Kt) (.seq (.ops [.ak 46 (.t 5),.aG 4 (.t 46)]) .ret))))⟩
def abt:gy:=⟨1,6,[.tmp 2],(.seq (.ops [.aG 2 (.c (.int .i64 0))]) (.seq (.ops [.ak 3 (.t 0),.call 4 66 [(.t 3)],.call 5 62 [(.t 4)],.aG 2 (.t 5)]) .ret))⟩
def Ku:ay:=(.seq (.seq (.ops [.ak 12 (.t 3),.ak 13 (.t 0),.len 14 (.t 13),.bin 15 .lss (.t 12) (.t 14)]) (.cond (.t 15) .skip (.exit 0))) (.seq (.block 1 (.seq (.ops [.ak 18 (.t 0),.ak 19 (.t 3),.bQ 20 1 (.t 18) (.t 19),.load 21 none (.t 20),.bin 22 .lss (.t 21) (.c (.int .i64 1)),.ak 23 (.t 22),.grd 23 false (.ak 24 (.t 0)),.grd 23 false (.ak 25 (.t 3)),.grd 23 false (.bQ 26 1 (.t 24) (.t 25)),.grd 23 false (.load 27 none (.t 26)),.grd 23 false (.bin 28 .gtr (.t 27) (.c (.int .i64 4096))),.pick 29 (.t 23) (.c (.bool true)) (.t 28)]) (.cond (.t 29) (.seq (.ops [.aG 2 (.c (.int .i64 2))]) .ret) .skip))) (.ops [.ak 16 (.t 3),.bin 17 .add (.t 16) (.c (.int .i64 1)),.aG 3 (.t 17)])))
def Kv:ay :=
(.clean [0,3] [2] (.block 0 (.loop [0,3] Ku)))
def abu:gy:=⟨1,30,[.tmp 2],(.seq (.ops [.aG 2 (.c (.int .i64 0))]) (.seq (.seq (.ops [.ak 4 (.t 0),.len 5 (.t 4),.bin 6 .lss (.t 5) (.c (.int .i64 1)),.ak 7 (.t 6),.grd 7 false (.ak 8 (.t 0)),.grd 7 false (.len 9 (.t 8)),.grd 7 false (.bin 10 .gtr (.t 9) (.c (.int .i64 8))),.pick 11 (.t 7) (.c (.bool true)) (.t 10)]) (.cond (.t 11) (.seq (.ops [.aG 2 (.c (.int .i64 6))]) .ret) .skip)) (.seq (.seq (.ops [.aG 3 (.c (.int .i64 0))])
   Kv) (.seq (.ops [.aG 2 (.c (.int .i64 0))]) .ret))))⟩
def Kw:ay:=(.seq (.seq (.ops [.ak 8 (.t 4),.ak 9 (.t 0),.len 10 (.t 9),.bin 11 .lss (.t 8) (.t 10)]) (.cond (.t 11) .skip (.exit 0))) (.seq (.block 1 (.seq (.yu [] [([1,2,3,4],0),([],5)] none [6] [.ak 15 (.t 0),.ak 16 (.t 4),.bQ 17 3 (.t 15) (.t 16),.load 18 (some 3) (.t 17),.call 14 97 [],.call 19 65 [(.t 14),(.t 18)],.aG 5 (.t 19)]) (.seq (.ops [.ak 20 (.t 5),.bin 21 .neq (.t 20) (.c (.int .i64 0))]) (.cond (.t 21) (.seq (.ops [.ak 22 (.t 5),.aG 2 (.nil 3),.aG 3 (.t 22)]) .ret) .skip)))) (.ops [.ak 12 (.t 4),.bin 13 .add (.t 12) (.c (.int .i64 1)),.aG 4 (.t 13)])))
def Ky:ay :=
(.clean [0,4,34] [0,2,3,34] (.block 0 (.loop [0,4,34] Kw)))
def Kz:ay:=(.seq (.seq (.ops [.ak 23 (.t 7),.bin 24 .lss (.t 23) (.c (.int .i64 8))]) (.cond (.t 24) .skip (.exit 2))) (.seq (.block 3 (.ops [.ak 27 (.t 6),.ak 28 (.t 0),.ak 29 (.t 7),.ak 30 (.t 0),.ak 31 (.t 7),.call 32 99 [(.t 30),(.t 31)],.call 33 98 [(.t 28),(.t 29),(.t 32)],.app 34 3 (.t 27) (.t 33),.aG 6 (.t 34)])) (.ops [.ak 25 (.t 7),.bin 26 .add (.t 25) (.c (.int .i64 1)),.aG 7 (.t 26)])))
def KA:ay :=
(.clean [0,6,7,34] [2,3,6] (.block 2 (.loop [0,6,7,34] Kz)))
def abv:gy:=⟨1,36,[.tmp 2,.tmp 3],(.seq (.ops [.aG 2 (.nil 3),.aG 3 (.c (.int .i64 0))]) (.seq (.seq (.ops [.aG 4 (.c (.int .i64 0))])
  Ky) (.seq (.ops [.aG 6 (.nil 3)]) (.seq (.seq (.ops [.aG 7 (.c (.int .i64 0))])
   KA) (.seq (.ops [.ak 35 (.t 6),.aG 2 (.t 35),.aG 3 (.c (.int .i64 0))]) .ret)))))⟩
def KC:ay:=(.seq (.ops [.bin 22 .lss (.t 21) (.t 20)]) (.seq (.cond (.t 22) .skip (.exit 0)) (.seq (.block 1 (.seq (.ops [.bQ 23 1 (.t 19) (.t 21),.load 24 none (.t 23),.aG 9 (.t 24)]) (.ops [.ak 25 (.t 7),.ak 26 (.t 9),.len 27 (.t 26),.iw 28 1 [(.t 27)],.app 29 1 (.t 25) (.t 28),.aG 7 (.t 29)]))) (.ops [.bin 30 .add (.t 21) (.c (.int .i64 1)),.ak 21 (.t 30)]))))
def KD:ay :=
(.clean [0,3,7,19,20,21,29] [0,3,4,5,7] (.block 0 (.loop [0,3,7,19,20,21,29] KC)))
def abw:gy:=⟨2,47,[.tmp 4,.tmp 5],(.seq (.ops [.box 3 (.t 1),.aG 4 (.nil 1),.aG 5 (.c (.int .i64 0))]) (.seq (.seq (.ops [.ak 14 (.t 0),.call 15 53 [(.t 14)],.aG 6 (.t 15)]) (.seq (.ops [.ak 16 (.t 6),.bin 17 .neq (.t 16) (.c (.int .i64 0))]) (.cond (.t 17) (.seq (.ops [.ak 18 (.t 6),.aG 4 (.nil 1),.aG 5 (.t 18)]) .ret) .skip))) (.seq (.ops [.aG 7 (.nil 1)]) (.seq (.seq (.ops [.ak 19 (.t 0),.len 20 (.t 19),.ak 21 (.c (.int .i64 0))])
   KD) (.seq (.seq (.ops [.load 31 (some 5) (.t 3),.ak 32 (.t 7),.call 33 42 [(.t 31),(.t 32)],.aG 10 (.t 33)]) (.seq (.ops [.ak 34 (.t 10),.bin 35 .neq (.t 34) (.c (.int .i64 0))]) (.cond (.t 35) (.seq (.ops [.ak 36 (.t 10),.aG 4 (.nil 1),.aG 5 (.t 36)]) .ret) .skip))) (.seq (.ops [.ak 38 (.t 0),.aI 39 (.t 3) 4,.load 40 none (.t 39),.call 41 100 [(.t 38),(.t 40)],.ak 37 (.t 41),.ext 42 (.t 37) 0,.ext 43 (.t 37) 1,.ext 44 (.t 37) 2,.aG 11 (.t 42),.aG 12 (.t 43),.aG 13 (.t 44)]) (.seq (.ops [.ak 45 (.t 11),.ak 46 (.t 13),.aG 4 (.t 45),.aG 5 (.t 46)]) .ret)))))))⟩
def TY:gy:=⟨2,46,[.tmp 4],(.seq (.ops [.box 3 (.t 1),.aG 4 (.c (.int .i64 0))]) (.seq (.seq (.ops [.aI 5 (.t 3) 0,.load 6 none (.t 5),.bin 7 .lss (.t 6) (.c (.int .i64 0)),.ak 8 (.t 7),.grd 8 false (.aI 9 (.t 3) 0),.grd 8 false (.load 10 none (.t 9)),.grd 8 false (.ak 11 (.t 0)),.grd 8 false (.len 12 (.t 11)),.grd 8 false (.bin 13 .geq (.t 10) (.t 12)),.pick 14 (.t 8) (.c (.bool true)) (.t 13)]) (.cond (.t 14) (.seq (.ops [.aG 4 (.c (.int .i64 7))]) .ret) .skip)) (.seq (.seq (.ops [.aI 15 (.t 3) 2,.load 16 none (.t 15),.len 17 (.t 16),.bin 18 .eql (.t 17) (.c (.int .i64 0))]) (.cond (.t 18) (.seq (.ops [.aG 4 (.c (.int .i64 1))]) .ret) .skip)) (.seq (.seq (.yu [] [] none [0,1,2,3,4,5,6,7,8,9,10,11,12,13,14,15,16,17,18,19,20,21,22,23,24,25,26] [.aI 19 (.t 3) 1,.load 20 none (.t 19),.bin 21 .lss (.t 20) (.c (.int .i64 0)),.ak 22 (.t 21),.grd 22 false (.aI 23 (.t 3) 1),.grd 22 false (.load 24 none (.t 23)),.grd 22 false (.ak 25 (.t 0)),.grd 22 false (.aI 26 (.t 3) 0),.grd 22 false (.load 27 none (.t 26)),.grd 22 false (.bQ 28 1 (.t 25) (.t 27)),.grd 22 false (.load 29 none (.t 28)),.grd 22 false (.bin 30 .geq (.t 24) (.t 29)),.pick 31 (.t 22) (.c (.bool true)) (.t 30),.ak 32 (.t 31),.grd 32 false (.aI 33 (.t 3) 2),.grd 32 false (.load 34 none (.t 33)),.grd 32 false (.len 35 (.t 34)),.grd 32 false (.ak 36 (.t 0)),.grd 32 false (.aI 37 (.t 3) 0),.grd 32 false (.load 38 none (.t 37)),.grd 32 false (.bQ 39 1 (.t 36) (.t 38)),.grd 32 false (.load 40 none (.t 39)),.grd 32 false (.aI 41 (.t 3) 1),.grd 32 false (.load 42 none (.t 41)),.grd 32 false (.bin 43 .sub (.t 40) (.t 42)),.grd 32 false (.bin 44 .gtr (.t 35) (.t 43)),.pick 45 (.t 32) (.c (.bool true)) (.t 44)]) (.cond (.t 45) (.seq (.ops [.aG 4 (.c (.int .i64 2))]) .ret) .skip)) (.seq (.ops [.aG 4 (.c (.int .i64 0))]) .ret)))))⟩
def KE:ay:=(.seq (.seq (.ops [.ak 5 (.t 4),.ak 6 (.t 0),.len 7 (.t 6),.bin 8 .lss (.t 5) (.t 7)]) (.cond (.t 8) .skip (.exit 0))) (.seq (.block 1 (.ops [.ak 11 (.t 3),.ak 12 (.t 0),.ak 13 (.t 4),.bQ 14 1 (.t 12) (.t 13),.load 15 none (.t 14),.len 16 (.t 15),.iw 17 1 [(.t 16)],.app 18 1 (.t 11) (.t 17),.aG 3 (.t 18)])) (.ops [.ak 9 (.t 4),.bin 10 .add (.t 9) (.c (.int .i64 1)),.aG 4 (.t 10)])))
def KF:ay :=
(.clean [0,3,4,18] [2,3] (.block 0 (.loop [0,3,4,18] KE)))
def abx:gy:=⟨1,20,[.tmp 2],(.seq (.ops [.aG 2 (.nil 1)]) (.seq (.ops [.aG 3 (.nil 1)]) (.seq (.seq (.ops [.aG 4 (.c (.int .i64 0))])
   KF) (.seq (.ops [.ak 19 (.t 3),.aG 2 (.t 19)]) .ret))))⟩
def KG:gy:=⟨3,56,[.tmp 6,.tmp 7],(.seq (.ops [.box 3 (.t 0),.aG 6 (.c (.int .i64 0)),.aG 7 (.c (.bool false))]) (.seq (.seq (.ops [.aI 10 (.t 3) 0,.load 11 none (.t 10),.ak 12 (.t 1),.bin 13 .neq (.t 11) (.t 12),.ak 14 (.t 13),.grd 14 false (.aI 15 (.t 3) 2),.grd 14 false (.load 16 none (.t 15)),.grd 14 false (.len 17 (.t 16)),.grd 14 false (.bin 18 .eql (.t 17) (.c (.int .i64 0))),.pick 19 (.t 14) (.c (.bool true)) (.t 18),.ak 20 (.t 19),.grd 20 false (.aI 21 (.t 3) 1),.grd 20 false (.load 22 none (.t 21)),.grd 20 false (.ak 23 (.t 2)),.grd 20 false (.bin 24 .gtr (.t 22) (.t 23)),.pick 25 (.t 20) (.c (.bool true)) (.t 24)]) (.cond (.t 25) (.seq (.ops [.aG 6 (.c (.int .i64 0)),.aG 7 (.c (.bool false))]) .ret) .skip)) (.seq (.seq (.ops [.aI 26 (.t 3) 1,.load 27 none (.t 26),.bin 28 .lss (.t 27) (.c (.int .i64 0)),.ak 29 (.t 28),.grd 29 true (.ak 30 (.t 2)),.grd 29 true (.bin 31 .geq (.t 30) (.c (.int .i64 0))),.pick 32 (.t 29) (.t 31) (.c (.bool false))]) (.cond (.t 32) (.seq (.seq (.ops [.aI 33 (.t 3) 1,.load 34 none (.t 33),.aI 35 (.t 3) 2,.load 36 none (.t 35),.len 37 (.t 36),.bin 38 .add (.t 34) (.t 37),.aG 8 (.t 38)]) (.seq (.ops [.ak 39 (.t 2),.ak 40 (.t 8),.bin 41 .geq (.t 39) (.t 40)]) (.cond (.t 41) (.seq (.ops [.aG 6 (.c (.int .i64 0)),.aG 7 (.c (.bool false))]) .ret) .skip))) (.seq (.ops [.ak 42 (.t 2),.aI 43 (.t 3) 1,.load 44 none (.t 43),.bin 45 .sub (.t 42) (.t 44),.aG 6 (.t 45),.aG 7 (.c (.bool true))]) .ret)) .skip)) (.seq (.ops [.ak 46 (.t 2),.aI 47 (.t 3) 1,.load 48 none (.t 47),.bin 49 .sub (.t 46) (.t 48),.aG 9 (.t 49)]) (.seq (.yu [] [] none [0,1,2,3,4,5,6,7] [.ak 50 (.t 9),.ak 51 (.t 9),.aI 52 (.t 3) 2,.load 53 none (.t 52),.len 54 (.t 53),.bin 55 .lss (.t 51) (.t 54),.aG 6 (.t 50),.aG 7 (.t 55)]) .ret)))))⟩
def aby:gy:=⟨1,13,[.tmp 2],(.seq (.ops [.aG 2 (.c (.int .i64 0))]) (.seq (.seq (.ops [.ak 3 (.t 0),.len 4 (.t 3),.bin 5 .lss (.t 4) (.c (.int .i64 1)),.ak 6 (.t 5),.grd 6 false (.ak 7 (.t 0)),.grd 6 false (.len 8 (.t 7)),.grd 6 false (.bin 9 .gtr (.t 8) (.c (.int .i64 8))),.pick 10 (.t 6) (.c (.bool true)) (.t 9)]) (.cond (.t 10) (.seq (.ops [.aG 2 (.c (.int .i64 6))]) .ret) .skip)) (.seq (.seq (.ops [.ak 11 (.t 0),.call 12 101 [(.t 11),(.c (.func 102 []))]]) (.cond (.t 12) (.seq (.ops [.aG 2 (.c (.int .i64 2))]) .ret) .skip)) (.seq (.ops [.aG 2 (.c (.int .i64 0))]) .ret))))⟩
def KH:ay:=(.seq (.ops [.bin 14 .lss (.t 13) (.t 12)]) (.seq (.cond (.t 14) .skip (.exit 0)) (.seq (.block 1 (.seq (.ops [.bQ 15 1 (.t 11) (.t 13),.load 16 none (.t 15),.aG 7 (.t 16)]) (.ops [.ak 17 (.t 5),.ak 18 (.t 1),.ak 19 (.t 7),.kC 20 (.t 18) [(.t 19)],.iw 21 1 [(.t 20)],.app 22 1 (.t 17) (.t 21),.aG 5 (.t 22)]))) (.ops [.bin 23 .add (.t 13) (.c (.int .i64 1)),.ak 13 (.t 23)]))))
def KI:ay :=
(.clean [0,1,5,10,11,12,13,22] [4,5] (.block 0 (.loop [0,1,5,10,11,12,13,22] KH)))
def abz:gy:=⟨2,25,[.tmp 4],(.seq (.ops [.aG 4 (.nil 1)]) (.seq (.ops [.ak 8 (.t 0),.len 9 (.t 8),.make 10 (.list 0 []) (.c (.int .i64 0)) (.t 9),.aG 5 (.t 10)]) (.seq (.seq (.ops [.ak 11 (.t 0),.len 12 (.t 11),.ak 13 (.c (.int .i64 0))])
   KI) (.seq (.ops [.ak 24 (.t 5),.aG 4 (.t 24)]) .ret))))⟩
def abA:gy:=⟨1,5,[.tmp 2],(.seq (.ops [.aG 2 (.nil 8)]) (.seq (.ops [.ak 3 (.t 0),.make 4 (.agg [(.int .u8 0),(.int .u8 0),(.int .u8 0),(.int .u8 0),(.int .u8 0),(.int .u8 0),(.int .u8 0),(.int .u8 0)]) (.t 3) (.t 3),.aG 2 (.t 4)]) .ret))⟩
def Yp:gy:=⟨3,15,[.tmp 6],(.seq (.ops [.aG 6 (.c (.bool false))]) (.seq (.ops [.ak 7 (.t 0),.ak 8 (.t 1),.bin 9 .geq (.t 7) (.t 8),.ak 10 (.t 9),.grd 10 true (.ak 11 (.t 0)),.grd 10 true (.ak 12 (.t 2)),.grd 10 true (.bin 13 .leq (.t 11) (.t 12)),.pick 14 (.t 10) (.t 13) (.c (.bool false)),.aG 6 (.t 14)]) .ret))⟩
def Ua:gy:=⟨2,12,[.tmp 4],(.seq (.ops [.aG 4 (.c (.int .i64 0))]) (.seq (.seq (.ops [.ak 5 (.t 0),.len 6 (.t 5),.ak 7 (.t 1),.call 8 72 [(.t 6),(.t 7),(.c (.int .i64 8))],.un 9 .not (.t 8)]) (.cond (.t 9) (.seq (.ops [.aG 4 (.c (.int .i64 6))]) .ret) .skip)) (.seq (.seq (.ops [.ak 10 (.t 0),.call 11 101 [(.t 10),(.c (.func 103 []))]]) (.cond (.t 11) (.seq (.ops [.aG 4 (.c (.int .i64 2))]) .ret) .skip)) (.seq (.ops [.aG 4 (.c (.int .i64 0))]) .ret))))⟩
def Yq:gy:=⟨2,18,[.tmp 4],(.seq (.ops [.aG 4 (.c (.int .i64 0))]) (.seq (.ops [.ak 8 (.t 1),.call 9 38 [(.t 8)],.ak 7 (.t 9),.ext 10 (.t 7) 0,.ext 11 (.t 7) 1,.alloc 5 [(.list 1 [])],.store none 1 (.t 5) (.t 10),.aG 6 (.t 11)]) (.seq (.seq (.ops [.ak 12 (.t 6),.bin 13 .neq (.t 12) (.c (.int .i64 0))]) (.cond (.t 13) (.seq (.ops [.ak 14 (.t 6),.aG 4 (.t 14)]) .ret) .skip)) (.seq (.ops [.ak 15 (.t 0),.QJ 16 105 [(.t 5)],.call 17 104 [(.t 15),(.t 16)],.aG 4 (.t 17)]) .ret))))⟩
def KJ:ay:=(.seq (.ops [.bin 12 .lss (.t 11) (.t 10)]) (.seq (.cond (.t 12) .skip (.exit 0)) (.seq (.block 1 (.seq (.ops [.bQ 13 5 (.t 9) (.t 11),.load 14 (some 5) (.t 13),.alloc 8 [(.int .i64 0),(.int .i64 0),(.int .i64 0),(.list 1 []),(.list 3 [])],.store none 5 (.t 8) (.t 14)]) (.seq (.ops [.aI 16 (.t 2) 6,.load 17 none (.t 16),.load 18 (some 5) (.t 8),.lin 19 76 (.t 17) [(.t 18)],.ak 15 (.t 19),.ext 20 (.t 15) 0,.ext 21 (.t 15) 1,.aI 22 (.t 2) 6,.store none 1 (.t 22) (.t 20),.aG 6 (.t 21)]) (.seq (.ops [.ak 23 (.t 6),.bin 24 .neq (.t 23) (.c (.int .i64 0))]) (.cond (.t 24) (.seq (.ops [.build 25 [(.int .i64 0),(.list 1 []),(.list 5 []),(.bool false),(.int .i64 0),(.int .i64 0),(.list 2 [])] [],.ak 26 (.t 6),.store none 7 (.t 4) (.t 25),.aG 5 (.t 26)]) .ret) .skip))))) (.ops [.bin 27 .add (.t 11) (.c (.int .i64 1)),.ak 11 (.t 27)]))))
def KL:ay :=
(.clean [1,2,4,9,10,11] [2,4,5] (.block 0 (.loop [1,2,4,9,10,11] KJ)))
def abB:gy:=⟨2,29,[.cell 4 (some 7),.tmp 5],(.seq (.ops [.WE 2 (.t 0),.alloc 4 [(.int .i64 0),(.list 1 []),(.list 5 []),(.bool false),(.int .i64 0),(.int .i64 0),(.list 2 [])],.aG 5 (.c (.int .i64 0))]) (.seq (.ops [.aG 6 (.c (.int .i64 0))]) (.seq (.seq (.ops [.ak 9 (.t 1),.len 10 (.t 9),.ak 11 (.c (.int .i64 0))])
   KL) (.seq (.ops [.load 28 (some 7) (.t 2),.store none 7 (.t 4) (.t 28),.aG 5 (.c (.int .i64 0))]) .ret))))⟩
def KN:ay:=(.seq (.ops [.bin 22 .lss (.t 21) (.t 20)]) (.seq (.cond (.t 22) .skip (.exit 2)) (.seq (.block 3 (.seq (.ops [.bQ 23 2 (.t 19) (.t 21),.load 24 (some 2) (.t 23),.alloc 8 [(.int .i64 0),(.int .i64 0)],.store none 2 (.t 8) (.t 24)]) (.seq (.drs [] [0,3,6,9,10,12,13,19,20,21] [.ak 26 (.t 0),.ak 27 (.t 6),.bQ 28 2 (.t 26) (.t 27),.load 29 (some 2) (.t 28),.load 30 (some 2) (.t 8),.call 31 108 [(.t 29),(.t 30)],.ak 25 (.t 31),.ext 32 (.t 25) 0,.ext 33 (.t 25) 1,.alloc 9 [(.int .i64 0),(.list 1 [])],.store none 2 (.t 9) (.t 32),.aG 10 (.t 33)]
    [⟨[([0,1,2,3,4],5),([6,7,8],9)],(some ([],[],10,[])),[11],[0,1,2,3,4,5,6,7,8,9,10,11],false⟩,⟨[([0,1,2,3,4],9),([],5)],(some ([6,7],[8],10,[])),[11],[0,1,2,3,4,9,5,6,7,8,10,11],false⟩]) (.seq (.seq (.ops [.ak 34 (.t 10),.bin 35 .neq (.t 34) (.c (.int .i64 0))]) (.cond (.t 35) (.seq (.ops [.ak 36 (.t 10),.aG 4 (.nil 2),.aG 5 (.t 36)]) .ret) .skip)) (.ops [.ak 37 (.t 0),.ak 38 (.t 6),.load 39 (some 2) (.t 9),.bQ 40 2 (.t 37) (.t 38),.store none 2 (.t 40) (.t 39)]))))) (.ops [.bin 41 .add (.t 21) (.c (.int .i64 1)),.ak 21 (.t 41)]))))
def KO:ay :=
(.clean [0,3,6,12,13,19,20,21] [0,3,4,5,12,13] (.block 2 (.loop [0,3,6,12,13,19,20,21] KN)))
def KP:ay:=(.seq (.ops [.bin 14 .lss (.t 13) (.t 12)]) (.seq (.cond (.t 14) .skip (.exit 0)) (.seq (.block 1 (.seq (.ops [.ak 15 (.t 13),.aG 6 (.t 15)]) (.seq (.ops [.aI 16 (.t 3) 4,.load 17 none (.t 16),.ak 18 (.t 6),.call 19 107 [(.t 17),(.t 18)],.len 20 (.t 19),.ak 21 (.c (.int .i64 0))])
    KO))) (.ops [.bin 42 .add (.t 13) (.c (.int .i64 1)),.ak 13 (.t 42)]))))
def KQ:ay :=
(.clean [0,3,12,13] [0,4,5] (.block 0 (.loop [0,3,12,13] KP)))
def abC:gy:=⟨2,44,[.tmp 4,.tmp 5],(.seq (.ops [.box 3 (.t 1),.aG 4 (.nil 2),.aG 5 (.c (.int .i64 0))]) (.seq (.seq (.ops [.ak 11 (.t 0),.len 12 (.t 11),.ak 13 (.c (.int .i64 0))])
  KQ) (.seq (.ops [.ak 43 (.t 0),.aG 4 (.t 43),.aG 5 (.c (.int .i64 0))]) .ret)))⟩
def KR:ay:=(.seq (.ops [.bin 30 .lss (.t 29) (.t 28)]) (.seq (.cond (.t 30) .skip (.exit 0)) (.seq (.block 1 (.seq (.ops [.bQ 31 1 (.t 27) (.t 29),.load 32 none (.t 31),.aG 8 (.t 32)]) (.seq (.ops [.ak 34 (.t 8),.call 35 78 [(.t 34)],.ak 33 (.t 35),.ext 36 (.t 33) 0,.ext 37 (.t 33) 1,.alloc 9 [(.int .i64 0),(.list 1 [])],.store none 2 (.t 9) (.t 36),.aG 10 (.t 37)]) (.seq (.seq (.ops [.ak 38 (.t 10),.bin 39 .neq (.t 38) (.c (.int .i64 0))]) (.cond (.t 39) (.seq (.ops [.build 40 [(.int .i64 0),(.list 1 []),(.list 5 []),(.bool false),(.int .i64 0),(.int .i64 0),(.list 2 [])] [],.ak 41 (.t 10),.store none 7 (.t 5) (.t 40),.aG 6 (.t 41)]) .ret) .skip)) (.ops [.aI 42 (.t 3) 6,.load 43 none (.t 42),.load 44 (some 2) (.t 9),.iw 45 2 [(.t 44)],.app 46 2 (.t 43) (.t 45),.aI 47 (.t 3) 6,.store none 1 (.t 47) (.t 46)]))))) (.ops [.bin 48 .add (.t 29) (.c (.int .i64 1)),.ak 29 (.t 48)]))))
def KT:ay :=
(.clean [2,3,4,5,27,28,29] [2,3,4,5,6] (.block 0 (.loop [2,3,4,5,27,28,29] KR)))
def Yr:gy:=⟨3,62,[.cell 5 (some 7),.tmp 6],(.seq (.ops [.WE 3 (.t 0),.box 4 (.t 1),.alloc 5 [(.int .i64 0),(.list 1 []),(.list 5 []),(.bool false),(.int .i64 0),(.int .i64 0),(.list 2 [])],.aG 6 (.c (.int .i64 0))]) (.seq (.seq (.ops [.aI 12 (.t 3) 2,.load 13 none (.t 12),.len 14 (.t 13),.aI 15 (.t 3) 0,.load 16 none (.t 15),.bin 17 .lss (.t 14) (.t 16)]) (.cond (.t 17) (.seq (.yu [] [([0,1,2],3),([],4)] (some ([],[],5,[([6],7)])) [] [.aI 18 (.t 3) 2,.load 19 none (.t 18),.load 20 (some 5) (.t 4),.call 21 48 [(.t 20)],.iw 22 5 [(.t 21)],.app 23 5 (.t 19) (.t 22),.aI 24 (.t 3) 2,.store none 1 (.t 24) (.t 23)]) (.seq (.ops [.load 25 (some 7) (.t 3),.store none 7 (.t 5) (.t 25),.aG 6 (.c (.int .i64 0))]) .ret)) .skip)) (.seq (.seq (.ops [.aI 26 (.t 3) 1,.load 27 none (.t 26),.len 28 (.t 27),.ak 29 (.c (.int .i64 0))])
   KT) (.seq (.ops [.aI 49 (.t 3) 2,.load 50 none (.t 49),.load 51 (some 5) (.t 4),.iw 52 5 [(.t 51)],.app 53 5 (.t 50) (.t 52),.aG 11 (.t 53)]) (.seq (.ops [.aI 54 (.t 3) 2,.store none 1 (.t 54) (.nil 5),.aI 55 (.t 3) 3,.store none 1 (.t 55) (.c (.bool true))]) (.seq (.ops [.load 56 none (.t 2),.Zi 57 7 (.t 3),.WC 58 (.t 11),.linv 59 (.t 56) (.t 57) [(.t 58)],.ext 60 (.t 59) 0,.ext 61 (.t 59) 1,.store none 7 (.t 5) (.t 60),.aG 6 (.t 61)]) .ret))))))⟩
def Ub:gy:=⟨1,16,[.cell 2 (some 2),.tmp 3],(.seq (.ops [.alloc 2 [(.int .i64 0),(.list 1 [])],.aG 3 (.c (.int .i64 0))]) (.seq (.seq (.ops [.ak 4 (.t 0),.bin 5 .lss (.t 4) (.c (.int .i64 0)),.ak 6 (.t 5),.grd 6 false (.ak 7 (.t 0)),.grd 6 false (.bin 8 .gtr (.t 7) (.c (.int .i64 4096))),.pick 9 (.t 6) (.c (.bool true)) (.t 8)]) (.cond (.t 9) (.seq (.ops [.build 10 [(.int .i64 0),(.list 1 [])] [],.store none 2 (.t 2) (.t 10),.aG 3 (.c (.int .i64 2))]) .ret) .skip)) (.seq (.ops [.ak 11 (.t 0),.ak 12 (.t 0),.call 13 109 [(.t 12)],.make 14 (.int .u64 0) (.t 13) (.t 13),.build 15 [(.int .i64 0),(.list 1 [])] [(0,1,(.t 11)),(1,1,(.t 14))],.store none 2 (.t 2) (.t 15),.aG 3 (.c (.int .i64 0))]) .ret)))⟩
def abD:gy:=⟨3,14,[.cell 5 (some 7),.tmp 6],(.seq (.ops [.WE 3 (.t 0),.box 4 (.t 1),.alloc 5 [(.int .i64 0),(.list 1 []),(.list 5 []),(.bool false),(.int .i64 0),(.int .i64 0),(.list 2 [])],.aG 6 (.c (.int .i64 0))]) (.seq (.ops [.load 7 none (.t 2),.Zi 8 7 (.t 3),.load 9 (some 5) (.t 4),.iw 10 5 [(.t 9)],.linv 11 (.t 7) (.t 8) [(.t 10)],.ext 12 (.t 11) 0,.ext 13 (.t 11) 1,.store none 7 (.t 5) (.t 12),.aG 6 (.t 13)]) .ret))⟩
def afE:gy:=⟨1,8,[.tmp 2],(.seq (.ops [.aG 2 (.nil 1)]) (.seq (.seq (.ops [.ak 3 (.t 0),.QI 4 false (.t 3)]) (.cond (.t 4) (.seq (.ops [.aG 2 (.nil 1)]) .ret) .skip)) (.seq (.ops [.iw 5 1 [],.ak 6 (.t 0),.app 7 1 (.t 5) (.t 6),.aG 2 (.t 7)]) .ret)))⟩
def afF:gy:=⟨1,8,[.tmp 2],(.seq (.ops [.aG 2 (.nil 8)]) (.seq (.seq (.ops [.ak 3 (.t 0),.QI 4 false (.t 3)]) (.cond (.t 4) (.seq (.ops [.aG 2 (.nil 8)]) .ret) .skip)) (.seq (.ops [.iw 5 8 [],.ak 6 (.t 0),.app 7 8 (.t 5) (.t 6),.aG 2 (.t 7)]) .ret)))⟩
def zo:ay:=(.seq (.ops [.bin 12 .lss (.t 11) (.t 10)]) (.seq (.cond (.t 12) .skip (.exit 0)) (.seq (.block 1 (.seq (.ops [.bQ 13 5 (.t 9) (.t 11),.load 14 (some 5) (.t 13),.alloc 5 [(.int .i64 0),(.int .i64 0),(.int .i64 0),(.list 1 []),(.list 3 [])],.store none 5 (.t 5) (.t 14)]) (.seq (.seq (.ops [.load 15 (some 5) (.t 5),.aI 16 (.t 1) 1,.load 17 none (.t 16),.call 18 42 [(.t 15),(.t 17)],.bin 19 .neq (.t 18) (.c (.int .i64 0)),.ak 20 (.t 19),.grd 20 false (.aI 21 (.t 5) 0),.grd 20 false (.load 22 none (.t 21)),.grd 20 false (.ak 23 (.t 3)),.grd 20 false (.bin 24 .neq (.t 22) (.t 23)),.pick 25 (.t 20) (.c (.bool true)) (.t 24)]) (.cond (.t 25) (.seq (.ops [.aG 2 (.c (.bool false))]) .ret) .skip)) (.ops [.aI 26 (.t 5) 1,.load 27 none (.t 26),.aG 3 (.t 27)])))) (.ops [.bin 28 .add (.t 11) (.c (.int .i64 1)),.ak 11 (.t 28)]))))
def KU:ay :=
(.clean [1,3,9,10,11] [1,2,3] (.block 0 (.loop [1,3,9,10,11] zo)))
def abE:gy:=⟨1,47,[.tmp 2],(.seq (.ops [.box 1 (.t 0),.aG 2 (.c (.bool false))]) (.seq (.ops [.aI 6 (.t 1) 4,.load 7 none (.t 6),.aG 3 (.t 7)]) (.seq (.seq (.ops [.aI 8 (.t 1) 2,.load 9 none (.t 8),.len 10 (.t 9),.ak 11 (.c (.int .i64 0))])
   KU) (.seq (.ops [.aI 29 (.t 1) 6,.load 30 none (.t 29),.len 31 (.t 30),.bin 32 .eql (.t 31) (.c (.int .i64 0)),.ak 33 (.t 32),.grd 33 true (.aI 34 (.t 1) 2),.grd 33 true (.load 35 none (.t 34)),.grd 33 true (.len 36 (.t 35)),.grd 33 true (.aI 37 (.t 1) 0),.grd 33 true (.load 38 none (.t 37)),.grd 33 true (.bin 39 .leq (.t 36) (.t 38)),.pick 40 (.t 33) (.t 39) (.c (.bool false)),.ak 41 (.t 40),.grd 41 true (.ak 42 (.t 3)),.grd 41 true (.aI 43 (.t 1) 5),.grd 41 true (.load 44 none (.t 43)),.grd 41 true (.bin 45 .eql (.t 42) (.t 44)),.pick 46 (.t 41) (.t 45) (.c (.bool false)),.aG 2 (.t 46)]) .ret))))⟩
def OT:gy:=⟨1,23,[.tmp 2],(.seq (.ops [.box 1 (.t 0),.aG 2 (.c (.bool false))]) (.seq (.ops [.aI 4 (.t 1) 6,.load 5 none (.t 4),.aI 6 (.t 1) 1,.load 7 none (.t 6),.call 8 89 [(.t 5),(.t 7),(.c (.func 90 []))],.aG 3 (.t 8)]) (.seq (.ops [.ak 9 (.t 3),.ak 10 (.t 9),.grd 10 true (.aI 11 (.t 1) 2),.grd 10 true (.load 12 none (.t 11)),.grd 10 true (.len 13 (.t 12)),.grd 10 true (.bin 14 .eql (.t 13) (.c (.int .i64 0))),.pick 15 (.t 10) (.t 14) (.c (.bool false)),.ak 16 (.t 15),.grd 16 true (.aI 17 (.t 1) 4),.grd 16 true (.load 18 none (.t 17)),.grd 16 true (.aI 19 (.t 1) 5),.grd 16 true (.load 20 none (.t 19)),.grd 16 true (.bin 21 .lss (.t 18) (.t 20)),.pick 22 (.t 16) (.t 21) (.c (.bool false)),.aG 2 (.t 22)]) .ret)))⟩
def CZ:ay:=(.seq (.ops [.bin 18 .lss (.t 17) (.t 16)]) (.seq (.cond (.t 18) .skip (.exit 0)) (.seq (.block 1 (.seq (.ops [.ak 19 (.t 17),.bQ 20 2 (.t 15) (.t 17),.load 21 (some 2) (.t 20),.alloc 8 [(.int .i64 0),(.list 1 [])],.aG 7 (.t 19),.store none 2 (.t 8) (.t 21)]) (.seq (.ops [.ak 22 (.t 1),.ak 23 (.t 7),.bQ 24 1 (.t 22) (.t 23),.load 25 none (.t 24),.aG 9 (.t 25)]) (.seq (.ops [.ak 26 (.t 2),.load 27 (some 2) (.t 8),.ak 28 (.t 9),.kC 29 (.t 26) [(.t 27),(.t 28)],.un 30 .not (.t 29)]) (.cond (.t 30) (.seq (.ops [.aG 6 (.c (.bool false))]) .ret) .skip))))) (.ops [.bin 31 .add (.t 17) (.c (.int .i64 1)),.ak 17 (.t 31)]))))
def KW:ay :=
(.clean [0,1,2,15,16,17] [6] (.block 0 (.loop [0,1,2,15,16,17] CZ)))
def Yt:gy:=⟨3,32,[.tmp 6],(.seq (.ops [.aG 6 (.c (.bool false))]) (.seq (.seq (.ops [.ak 10 (.t 0),.len 11 (.t 10),.ak 12 (.t 1),.len 13 (.t 12),.bin 14 .neq (.t 11) (.t 13)]) (.cond (.t 14) (.seq (.ops [.aG 6 (.c (.bool false))]) .ret) .skip)) (.seq (.seq (.ops [.ak 15 (.t 0),.len 16 (.t 15),.ak 17 (.c (.int .i64 0))])
   KW) (.seq (.ops [.aG 6 (.c (.bool true))]) .ret))))⟩
def Yu:gy:=⟨2,14,[.tmp 4],(.seq (.ops [.box 2 (.t 0),.aG 4 (.c (.bool false))]) (.seq (.ops [.load 5 (some 2) (.t 2),.call 6 91 [(.t 5)],.bin 7 .eql (.t 6) (.c (.int .i64 0)),.ak 8 (.t 7),.grd 8 true (.aI 9 (.t 2) 0),.grd 8 true (.load 10 none (.t 9)),.grd 8 true (.ak 11 (.t 1)),.grd 8 true (.bin 12 .eql (.t 10) (.t 11)),.pick 13 (.t 8) (.t 12) (.c (.bool false)),.aG 4 (.t 13)]) .ret))⟩
def GK:gy:=⟨1,39,[.tmp 2],(.seq (.ops [.box 1 (.t 0),.aG 2 (.c (.int .i64 0))]) (.seq (.seq (.yu [] [([0,1,2,3,4,5,6,7,8,9,10,11,12,13],14)] none [15,16] [.aI 4 (.t 1) 0,.load 5 none (.t 4),.bin 6 .lss (.t 5) (.c (.int .i64 0)),.ak 7 (.t 6),.grd 7 false (.aI 8 (.t 1) 0),.grd 7 false (.load 9 none (.t 8)),.grd 7 false (.bin 10 .gtr (.t 9) (.c (.int .i64 4096))),.pick 11 (.t 7) (.c (.bool true)) (.t 10),.ak 12 (.t 11),.grd 12 false (.aI 13 (.t 1) 1),.grd 12 false (.load 14 none (.t 13)),.grd 12 false (.len 15 (.t 14)),.grd 12 false (.aI 16 (.t 1) 0),.grd 12 false (.load 17 none (.t 16)),.grd 12 false (.call 18 109 [(.t 17)]),.grd 12 false (.bin 19 .neq (.t 15) (.t 18)),.pick 20 (.t 12) (.c (.bool true)) (.t 19)]) (.cond (.t 20) (.seq (.ops [.aG 2 (.c (.int .i64 3))]) .ret) .skip)) (.seq (.seq (.ops [.aI 21 (.t 1) 0,.load 22 none (.t 21),.bin 23 .rem (.t 22) (.c (.int .i64 64)),.aG 3 (.t 23)]) (.seq (.ops [.ak 24 (.t 3),.bin 25 .gtr (.t 24) (.c (.int .i64 0)),.ak 26 (.t 25),.grd 26 true (.aI 27 (.t 1) 1),.grd 26 true (.load 28 none (.t 27)),.grd 26 true (.aI 29 (.t 1) 1),.grd 26 true (.load 30 none (.t 29)),.grd 26 true (.len 31 (.t 30)),.grd 26 true (.bin 32 .sub (.t 31) (.c (.int .i64 1))),.grd 26 true (.bQ 33 1 (.t 28) (.t 32)),.grd 26 true (.load 34 none (.t 33)),.grd 26 true (.ak 35 (.t 3)),.grd 26 true (.bin 36 .shr (.t 34) (.t 35)),.grd 26 true (.bin 37 .neq (.t 36) (.c (.int .u64 0))),.pick 38 (.t 26) (.t 37) (.c (.bool false))]) (.cond (.t 38) (.seq (.ops [.aG 2 (.c (.int .i64 3))]) .ret) .skip))) (.seq (.ops [.aG 2 (.c (.int .i64 0))]) .ret))))⟩
def afG:ay:=(.seq (.seq (.ops [.ak 11 (.t 5),.ak 12 (.t 0),.len 13 (.t 12),.bin 14 .lss (.t 11) (.t 13)]) (.cond (.t 14) .skip (.exit 0))) (.seq (.block 1 (.seq (.yu [] [] none [0,1,2,3,4,5,6,7,8] [.ak 17 (.t 0),.ak 18 (.t 5),.bQ 19 8 (.t 17) (.t 18),.load 20 (some 8) (.t 19),.ak 21 (.t 1),.ak 22 (.t 5),.bQ 23 8 (.t 21) (.t 22),.load 24 (some 8) (.t 23),.Vb 25 true 8 (.t 20) (.t 24)]) (.cond (.t 25) (.seq (.ops [.aG 4 (.c (.bool false))]) .ret) .skip))) (.ops [.ak 15 (.t 5),.bin 16 .add (.t 15) (.c (.int .i64 1)),.aG 5 (.t 16)])))
def afH:ay :=
(.clean [0,1,5] [4] (.block 0 (.loop [0,1,5] afG)))
def aiu:gy:=⟨2,26,[.tmp 4],(.seq (.ops [.aG 4 (.c (.bool false))]) (.seq (.seq (.ops [.ak 6 (.t 0),.len 7 (.t 6),.ak 8 (.t 1),.len 9 (.t 8),.bin 10 .neq (.t 7) (.t 9)]) (.cond (.t 10) (.seq (.ops [.aG 4 (.c (.bool false))]) .ret) .skip)) (.seq (.seq (.ops [.aG 5 (.c (.int .i64 0))])
   afH) (.seq (.ops [.aG 4 (.c (.bool true))]) .ret))))⟩
def abG:gy:=⟨1,5,[.tmp 2],(.seq (.ops [.aG 2 (.nil 1)]) (.seq (.ops [.ak 3 (.t 0),.call 4 112 [(.t 3),(.c (.func 113 []))],.aG 2 (.t 4)]) .ret))⟩
def C9:ay:=(.ops [.aG 4 (.t 8)])
def Dc:ay:=(.block 1 (.seq (.seq (.ops [.load 9 none (.t 3),.len 10 (.t 9),.aG 5 (.t 10)]) (.seq (.yu [] [] none [0,1,2,3,4,5,6,7,8,9,10,11,12,13,14,15,16,17,18] [.ak 11 (.t 5),.bin 12 .gtr (.t 11) (.c (.int .i64 0)),.ak 13 (.t 12),.grd 13 true (.load 14 none (.t 3)),.grd 13 true (.ak 15 (.t 5)),.grd 13 true (.bin 16 .sub (.t 15) (.c (.int .i64 1))),.grd 13 true (.bQ 17 2 (.t 14) (.t 16)),.grd 13 true (.aI 18 (.t 17) 0),.grd 13 true (.load 19 none (.t 18)),.grd 13 true (.load 20 none (.t 3)),.grd 13 true (.ak 21 (.t 5)),.grd 13 true (.bin 22 .sub (.t 21) (.c (.int .i64 1))),.grd 13 true (.bQ 23 2 (.t 20) (.t 22)),.grd 13 true (.aI 24 (.t 23) 1),.grd 13 true (.load 25 none (.t 24)),.grd 13 true (.bin 26 .add (.t 19) (.t 25)),.grd 13 true (.ak 27 (.t 4)),.grd 13 true (.bin 28 .eql (.t 26) (.t 27)),.pick 29 (.t 13) (.t 28) (.c (.bool false))]) (.cond (.t 29) (.seq (.ops [.load 30 none (.t 3),.ak 31 (.t 5),.bin 32 .sub (.t 31) (.c (.int .i64 1)),.bQ 33 2 (.t 30) (.t 32),.aI 34 (.t 33) 1,.load 35 none (.t 34),.bin 36 .add (.t 35) (.c (.int .i64 1)),.bQ 37 2 (.t 30) (.t 32),.aI 38 (.t 37) 1,.store none 1 (.t 38) (.t 36)]) (.exit 1)) .skip))) (.ops [.load 39 none (.t 3),.ak 40 (.t 4),.build 41 [(.int .i64 0),(.int .i64 0)] [(0,1,(.t 40)),(1,1,(.c (.int .i64 1)))],.iw 42 2 [(.t 41)],.app 43 2 (.t 39) (.t 42),.store none 1 (.t 3) (.t 43)])))
def abH:gy:=⟨1,45,[.tmp 2],(.seq (.ops [.box 1 (.t 0),.aG 2 (.nil 2)]) (.seq (.ops [.alloc 3 [(.list 2 [])]]) (.seq (.seq (.ops [.load 6 (some 2) (.t 1),.call 7 114 [(.t 6),(.c (.int .i64 0))]]) (.block 0 (.rng (.t 7) [8] C9 Dc))) (.seq (.ops [.load 44 none (.t 3),.aG 2 (.t 44)]) .ret))))⟩
def KX:ay:=(.seq (.seq (.ops [.ak 3 (.t 2),.bin 4 .lss (.t 3) (.c (.int .i64 8))]) (.cond (.t 4) .skip (.exit 0))) (.seq (.block 1 (.ops [.ak 7 (.t 1),.iw 8 1 [(.c (.int .i64 4096))],.app 9 1 (.t 7) (.t 8),.aG 1 (.t 9)])) (.ops [.ak 5 (.t 2),.bin 6 .add (.t 5) (.c (.int .i64 1)),.aG 2 (.t 6)])))
def KY:ay :=
(.clean [1,2,9] [0,1] (.block 0 (.loop [1,2,9] KX)))
def abI:gy:=⟨0,11,[.tmp 0],(.seq (.ops [.aG 0 (.nil 1)]) (.seq (.ops [.aG 1 (.nil 1)]) (.seq (.seq (.ops [.aG 2 (.c (.int .i64 0))])
   KY) (.seq (.ops [.ak 10 (.t 1),.aG 0 (.t 10)]) .ret))))⟩
def KZ:ay:=(.seq (.seq (.ops [.ak 26 (.t 10),.ak 27 (.t 2),.ak 28 (.t 8),.bQ 29 2 (.t 27) (.t 28),.aI 30 (.t 29) 1,.load 31 none (.t 30),.bin 32 .lss (.t 26) (.t 31)]) (.cond (.t 32) .skip (.exit 2))) (.seq (.block 3 (.seq (.ops [.ak 36 (.t 0),.ak 37 (.t 1),.ak 38 (.t 2),.ak 39 (.t 8),.bQ 40 2 (.t 38) (.t 39),.aI 41 (.t 40) 0,.load 42 none (.t 41),.ak 43 (.t 10),.bin 44 .add (.t 42) (.t 43),.call 45 34 [(.t 36),(.t 37),(.t 44)],.ak 35 (.t 45),.ext 46 (.t 35) 0,.ext 47 (.t 35) 1,.alloc 11 [(.int .u8 0),(.int .u8 0),(.int .u8 0),(.int .u8 0),(.int .u8 0),(.int .u8 0),(.int .u8 0),(.int .u8 0)],.store none 8 (.t 11) (.t 46),.aG 12 (.t 47)]) (.ops [.aI 48 (.t 9) 2,.load 49 none (.t 48),.load 50 (some 8) (.t 11),.iw 51 8 [(.t 50)],.app 52 8 (.t 49) (.t 51),.aI 53 (.t 9) 2,.store none 1 (.t 53) (.t 52)]))) (.ops [.ak 33 (.t 10),.bin 34 .add (.t 33) (.c (.int .i64 1)),.aG 10 (.t 34)])))
def La:ay :=
(.clean [0,1,2,7,8,9,10,57] [0,1,2,6,7,8,9,57] (.block 2 (.loop [0,1,2,7,8,9,10,57] KZ)))
def Lc:ay:=(.seq (.seq (.ops [.ak 13 (.t 8),.ak 14 (.t 2),.len 15 (.t 14),.bin 16 .lss (.t 13) (.t 15)]) (.cond (.t 16) .skip (.exit 0))) (.seq (.block 1 (.seq (.ops [.ak 19 (.t 1),.ak 20 (.t 2),.ak 21 (.t 8),.bQ 22 2 (.t 20) (.t 21),.aI 23 (.t 22) 0,.load 24 none (.t 23),.build 25 [(.int .i64 0),(.int .i64 0),(.lK 8)] [(0,1,(.t 19)),(1,1,(.t 24))],.alloc 9 [(.int .i64 0),(.int .i64 0),(.list 0 [])],.Vf 3 (.t 9) (.t 25)]) (.seq (.seq (.ops [.aG 10 (.c (.int .i64 0))])
    La) (.ops [.ak 54 (.t 7),.load 55 (some 3) (.t 9),.iw 56 3 [(.t 55)],.app 57 3 (.t 54) (.t 56),.aG 7 (.t 57)])))) (.ops [.ak 17 (.t 8),.bin 18 .add (.t 17) (.c (.int .i64 1)),.aG 8 (.t 18)])))
def Ld:ay :=
(.clean [0,1,2,7,8,57] [6,7] (.block 0 (.loop [0,1,2,7,8,57] Lc)))
def abJ:gy:=⟨3,59,[.tmp 6],(.seq (.ops [.aG 6 (.nil 3)]) (.seq (.ops [.aG 7 (.nil 3)]) (.seq (.seq (.ops [.aG 8 (.c (.int .i64 0))])
   Ld) (.seq (.ops [.ak 58 (.t 7),.aG 6 (.t 58)]) .ret))))⟩
def Df:ay:=(.seq (.seq (.ops [.ak 8 (.t 6),.ak 9 (.t 0),.len 10 (.t 9),.bin 11 .lss (.t 8) (.t 10)]) (.cond (.t 11) .skip (.exit 0))) (.seq (.block 1 (.seq (.ops [.ak 14 (.t 0),.ak 15 (.t 6),.bQ 16 3 (.t 14) (.t 15),.aI 17 (.t 16) 0,.load 18 none (.t 17),.ak 19 (.t 1),.bin 20 .eql (.t 18) (.t 19)]) (.cond (.t 20) (.yu [] [] (some ([0,1,2,3,4,5,6,7,8,9,10,11,12],[],13,[])) [] [.ak 21 (.t 5),.ak 22 (.t 0),.ak 23 (.t 6),.bQ 24 3 (.t 22) (.t 23),.aI 25 (.t 24) 1,.load 26 none (.t 25),.ak 27 (.t 0),.ak 28 (.t 6),.bQ 29 3 (.t 27) (.t 28),.aI 30 (.t 29) 2,.load 31 none (.t 30),.len 32 (.t 31),.build 33 [(.int .i64 0),(.int .i64 0)] [(0,1,(.t 26)),(1,1,(.t 32))],.Ba 34 115 (.t 21) (.t 33)]) .skip))) (.ops [.ak 12 (.t 6),.bin 13 .add (.t 12) (.c (.int .i64 1)),.aG 6 (.t 13)])))
def Le:ay :=
(.clean [0,1,5,6,7] [4,5] (.block 0 (.loop [0,1,5,6,7] Df)))
def abK:gy:=⟨2,37,[.tmp 4],(.seq (.ops [.aG 4 (.nil 2)]) (.seq (.ops [.make 7 (.bool false) (.c (.int .i64 4096)) (.c (.int .i64 4096)),.aG 5 (.t 7)]) (.seq (.seq (.ops [.aG 6 (.c (.int .i64 0))])
   Le) (.seq (.ops [.ak 35 (.t 5),.call 36 116 [(.t 35)],.aG 4 (.t 36)]) .ret))))⟩
def OU:gy:=⟨2,9,[.tmp 4],(.seq (.ops [.aG 4 (.c (.bool false))]) (.seq (.ops [.ak 5 (.t 0),.ak 6 (.t 1),.call 7 119 [(.t 5),(.t 6)],.bin 8 .geq (.t 7) (.c (.int .i64 0)),.aG 4 (.t 8)]) .ret))⟩
def OV:gy:=⟨1,9,[.tmp 2],(.seq (.ops [.aG 2 (.c (.bool false))]) (.seq (.ops [.ak 3 (.t 0),.bin 4 .lss (.t 3) (.c (.int .i64 1)),.ak 5 (.t 4),.grd 5 false (.ak 6 (.t 0)),.grd 5 false (.bin 7 .gtr (.t 6) (.c (.int .i64 4096))),.pick 8 (.t 5) (.c (.bool true)) (.t 7),.aG 2 (.t 8)]) .ret))⟩
def OW:gy:=⟨1,6,[.tmp 2],(.seq (.ops [.aG 2 (.c (.bool false))]) (.seq (.ops [.ak 3 (.t 0),.call 4 72 [(.t 3),(.c (.int .i64 0)),(.c (.int .i64 1073741824))],.un 5 .not (.t 4),.aG 2 (.t 5)]) .ret))⟩
def oD:ay:=(.seq (.ops [.bin 12 .lss (.t 11) (.t 10)]) (.seq (.cond (.t 12) .skip (.exit 0)) (.seq (.block 1 (.seq (.ops [.ak 13 (.t 11),.bQ 14 3 (.t 9) (.t 11),.load 15 (some 3) (.t 14),.alloc 6 [(.int .i64 0),(.int .i64 0),(.list 0 [])],.aG 5 (.t 13),.store none 3 (.t 6) (.t 15)]) (.seq (.seq (.ops [.ak 16 (.t 1),.load 17 (some 3) (.t 6),.kC 18 (.t 16) [(.t 17)],.aG 7 (.t 18)]) (.seq (.ops [.ak 19 (.t 7),.bin 20 .neq (.t 19) (.c (.int .i64 0))]) (.cond (.t 20) (.seq (.ops [.ak 21 (.t 7),.aG 4 (.t 21)]) .ret) .skip))) (.seq (.seq (.ops [.ak 22 (.t 5),.bin 23 .eql (.t 22) (.c (.int .i64 0))]) (.cond (.t 23) (.exit 1) .skip)) (.seq (.ops [.ak 24 (.t 0),.ak 25 (.t 5),.bin 26 .sub (.t 25) (.c (.int .i64 1)),.bQ 27 3 (.t 24) (.t 26),.load 28 (some 3) (.t 27),.alloc 8 [(.int .i64 0),(.int .i64 0),(.list 0 [])],.store none 3 (.t 8) (.t 28)]) (.seq (.ops [.aI 29 (.t 6) 0,.load 30 none (.t 29),.aI 31 (.t 8) 0,.load 32 none (.t 31),.bin 33 .lss (.t 30) (.t 32),.ak 34 (.t 33),.grd 34 false (.aI 35 (.t 6) 0),.grd 34 false (.load 36 none (.t 35)),.grd 34 false (.aI 37 (.t 8) 0),.grd 34 false (.load 38 none (.t 37)),.grd 34 false (.bin 39 .eql (.t 36) (.t 38)),.grd 34 false (.ak 40 (.t 39)),.grd 40 true (.aI 41 (.t 6) 1),.grd 40 true (.load 42 none (.t 41)),.grd 40 true (.aI 43 (.t 8) 1),.grd 40 true (.load 44 none (.t 43)),.grd 40 true (.aI 45 (.t 8) 2),.grd 40 true (.load 46 none (.t 45)),.grd 40 true (.len 47 (.t 46)),.grd 40 true (.bin 48 .add (.t 44) (.t 47)),.grd 40 true (.bin 49 .leq (.t 42) (.t 48)),.grd 34 false (.pick 50 (.t 40) (.t 49) (.c (.bool false))),.pick 51 (.t 34) (.c (.bool true)) (.t 50)]) (.cond (.t 51) (.seq (.ops [.aG 4 (.c (.int .i64 3))]) .ret) .skip))))))) (.ops [.bin 52 .add (.t 11) (.c (.int .i64 1)),.ak 11 (.t 52)]))))
def Et:ay :=
(.clean [0,1,9,10,11] [4] (.block 0 (.loop [0,1,9,10,11] oD)))
def OX:gy:=⟨2,53,[.tmp 4],(.seq (.ops [.aG 4 (.c (.int .i64 0))]) (.seq (.seq (.ops [.ak 9 (.t 0),.len 10 (.t 9),.ak 11 (.c (.int .i64 0))])
  Et) (.seq (.ops [.aG 4 (.c (.int .i64 0))]) .ret)))⟩
def OY:gy:=⟨2,7,[.tmp 3],(.seq (.ops [.box 2 (.t 0),.aG 3 (.c (.int .i64 0))]) (.seq (.ops [.load 4 none (.t 1),.load 5 (some 3) (.t 2),.call 6 106 [(.t 4),(.t 5)],.aG 3 (.t 6)]) .ret))⟩
def OZ:gy:=⟨2,14,[.tmp 4],(.seq (.ops [.box 3 (.t 1),.aG 4 (.c (.int .i64 0))]) (.seq (.seq (.ops [.ak 6 (.t 0),.call 7 53 [(.t 6)],.aG 5 (.t 7)]) (.seq (.ops [.ak 8 (.t 5),.bin 9 .neq (.t 8) (.c (.int .i64 0))]) (.cond (.t 9) (.seq (.ops [.ak 10 (.t 5),.aG 4 (.t 10)]) .ret) .skip))) (.seq (.ops [.ak 11 (.t 0),.load 12 (some 3) (.t 3),.call 13 118 [(.t 11),(.t 12)],.aG 4 (.t 13)]) .ret)))⟩
def zq:ay:=(.seq (.ops [.bin 11 .lss (.t 10) (.t 9)]) (.seq (.cond (.t 11) .skip (.exit 0)) (.seq (.block 1 (.seq (.ops [.bQ 12 3 (.t 8) (.t 10),.load 13 (some 3) (.t 12),.alloc 7 [(.int .i64 0),(.int .i64 0),(.list 0 [])],.store none 3 (.t 7) (.t 13)]) (.seq (.ops [.aI 14 (.t 7) 0,.load 15 none (.t 14),.ak 16 (.t 1),.bin 17 .eql (.t 15) (.t 16)]) (.cond (.t 17) (.ops [.ak 18 (.t 5),.aI 19 (.t 7) 1,.load 20 none (.t 19),.aI 21 (.t 7) 2,.load 22 none (.t 21),.len 23 (.t 22),.build 24 [(.int .i64 0),(.int .i64 0)] [(0,1,(.t 20)),(1,1,(.t 23))],.iw 25 2 [(.t 24)],.app 26 2 (.t 18) (.t 25),.aG 5 (.t 26)]) .skip)))) (.ops [.bin 27 .add (.t 10) (.c (.int .i64 1)),.ak 10 (.t 27)]))))
def Eu:ay :=
(.clean [0,1,5,8,9,10,26] [4,5] (.block 0 (.loop [0,1,5,8,9,10,26] zq)))
def O1:gy:=⟨2,30,[.tmp 4],(.seq (.ops [.aG 4 (.nil 2)]) (.seq (.ops [.aG 5 (.nil 2)]) (.seq (.seq (.ops [.ak 8 (.t 0),.len 9 (.t 8),.ak 10 (.c (.int .i64 0))])
   Eu) (.seq (.ops [.ak 28 (.t 5),.call 29 120 [(.t 28),(.nil 2)],.aG 4 (.t 29)]) .ret))))⟩
def O4:gy:=⟨2,12,[.cell 4 (some 2),.tmp 5],(.seq (.ops [.box 2 (.t 0),.box 3 (.t 1),.alloc 4 [(.int .i64 0),(.list 1 [])],.aG 5 (.c (.int .i64 0))]) (.seq (.ops [.build 6 [.nC] [(0,1,(.c (.func 121 [])))],.load 7 (some 2) (.t 2),.load 8 (some 2) (.t 3),.call 9 122 [(.t 6),(.t 7),(.t 8)],.ext 10 (.t 9) 0,.ext 11 (.t 9) 1,.store none 2 (.t 4) (.t 10),.aG 5 (.t 11)]) .ret))⟩
def O5:gy:=⟨1,7,[.tmp 2],(.seq (.ops [.aG 2 (.c (.int .i64 0))]) (.seq (.ops [.ak 3 (.t 0),.bin 4 .add (.t 3) (.c (.int .i64 64)),.bin 5 .sub (.t 4) (.c (.int .i64 1)),.bin 6 .quo (.t 5) (.c (.int .i64 64)),.aG 2 (.t 6)]) .ret))⟩
def Ew:ay:=(.seq (.ops [.bin 14 .lss (.t 13) (.t 12)]) (.seq (.cond (.t 14) .skip (.exit 0)) (.seq (.block 1 (.seq (.ops [.bQ 15 1 (.t 11) (.t 13),.load 16 none (.t 15),.aG 7 (.t 16)]) (.ops [.ak 17 (.t 5),.ak 18 (.t 1),.ak 19 (.t 7),.kC 20 (.t 18) [(.t 19)],.iw 21 1 [(.t 20)],.app 22 1 (.t 17) (.t 21),.aG 5 (.t 22)]))) (.ops [.bin 23 .add (.t 13) (.c (.int .i64 1)),.ak 13 (.t 23)]))))
def Ey:ay :=
(.clean [0,1,5,10,11,12,13,22] [4,5] (.block 0 (.loop [0,1,5,10,11,12,13,22] Ew)))
def O6:gy:=⟨2,25,[.tmp 4],(.seq (.ops [.aG 4 (.nil 1)]) (.seq (.ops [.ak 8 (.t 0),.len 9 (.t 8),.make 10 (.int .i64 0) (.c (.int .i64 0)) (.t 9),.aG 5 (.t 10)]) (.seq (.seq (.ops [.ak 11 (.t 0),.len 12 (.t 11),.ak 13 (.c (.int .i64 0))])
   Ey) (.seq (.ops [.ak 24 (.t 5),.aG 4 (.t 24)]) .ret))))⟩
def O7:gy:=⟨1,5,[.tmp 2],(.seq (.ops [.aG 2 (.c (.int .i64 0))]) (.seq (.ops [.ak 3 (.t 0),.len 4 (.t 3),.aG 2 (.t 4)]) .ret))⟩
def O8:gy:=⟨2,6,[.tmp 4],(.seq (.ops [.box 2 (.t 0),.box 3 (.t 1),.aG 4 (.c .nC)]) (.seq (.ops [.QJ 5 124 [(.t 2),(.t 3)],.aG 4 (.t 5)]) .ret))⟩
def rV:ay:=(.seq (.seq (.ops [.ak 5 (.t 4),.ak 6 (.t 0),.len 7 (.t 6),.bin 8 .lss (.t 5) (.t 7)]) (.cond (.t 8) .skip (.exit 0))) (.seq (.block 1 (.seq (.seq (.ops [.ak 11 (.t 0),.ak 12 (.t 4),.bQ 13 1 (.t 11) (.t 12),.load 14 none (.t 13),.un 15 .not (.t 14)]) (.cond (.t 15) (.exit 1) .skip)) (.seq (.ops [.ak 16 (.t 4),.bin 17 .gtr (.t 16) (.c (.int .i64 0)),.ak 18 (.t 17),.grd 18 true (.ak 19 (.t 0)),.grd 18 true (.ak 20 (.t 4)),.grd 18 true (.bin 21 .sub (.t 20) (.c (.int .i64 1))),.grd 18 true (.bQ 22 1 (.t 19) (.t 21)),.grd 18 true (.load 23 none (.t 22)),.pick 24 (.t 18) (.t 23) (.c (.bool false))]) (.cond (.t 24) (.ops [.ak 25 (.t 3),.ak 26 (.t 3),.len 27 (.t 26),.bin 28 .sub (.t 27) (.c (.int .i64 1)),.bQ 29 2 (.t 25) (.t 28),.aI 30 (.t 29) 1,.load 31 none (.t 30),.bin 32 .add (.t 31) (.c (.int .i64 1)),.bQ 33 2 (.t 25) (.t 28),.aI 34 (.t 33) 1,.store none 1 (.t 34) (.t 32)]) (.ops [.ak 35 (.t 3),.ak 36 (.t 4),.build 37 [(.int .i64 0),(.int .i64 0)] [(0,1,(.t 36)),(1,1,(.c (.int .i64 1)))],.iw 38 2 [(.t 37)],.app 39 2 (.t 35) (.t 38),.aG 3 (.t 39)]))))) (.ops [.ak 9 (.t 4),.bin 10 .add (.t 9) (.c (.int .i64 1)),.aG 4 (.t 10)])))
def Ez:ay :=
(.clean [0,3,4,39] [2,3] (.block 0 (.loop [0,3,4,39] rV)))
def O9:gy:=⟨1,41,[.tmp 2],(.seq (.ops [.aG 2 (.nil 2)]) (.seq (.ops [.aG 3 (.nil 2)]) (.seq (.seq (.ops [.aG 4 (.c (.int .i64 0))])
   Ez) (.seq (.ops [.ak 40 (.t 3),.aG 2 (.t 40)]) .ret))))⟩
def Iu:gy:=⟨2,40,[.tmp 4],(.seq (.ops [.box 3 (.t 1),.aG 4 (.c (.int .i64 0))]) (.seq (.block 0 (.seq (.ops [.aI 6 (.t 3) 0,.load 7 none (.t 6),.bin 8 .lss (.t 7) (.c (.int .i64 0)),.ak 9 (.t 8),.grd 9 false (.aI 10 (.t 3) 0),.grd 9 false (.load 11 none (.t 10)),.grd 9 false (.ak 12 (.t 0)),.grd 9 false (.len 13 (.t 12)),.grd 9 false (.bin 14 .geq (.t 11) (.t 13)),.pick 15 (.t 9) (.c (.bool true)) (.t 14),.aG 5 (.t 15)]) (.cond (.t 5) (.seq (.ops [.aG 4 (.c (.int .i64 7))]) .ret) (.seq (.ops [.aI 17 (.t 3) 2,.load 18 none (.t 17),.len 19 (.t 18),.bin 20 .eql (.t 19) (.c (.int .i64 0)),.aG 16 (.t 20)]) (.cond (.t 16) (.seq (.ops [.aG 4 (.c (.int .i64 1))]) .ret) (.seq (.yu [] [] none [0,1,2,3,4,5,6,7,8,9,10,11,12,13,14,15,16,17,18] [.aI 22 (.t 3) 1,.load 23 none (.t 22),.bin 24 .lss (.t 23) (.c (.int .i64 0)),.ak 25 (.t 24),.grd 25 false (.aI 26 (.t 3) 1),.grd 25 false (.load 27 none (.t 26)),.grd 25 false (.ak 28 (.t 0)),.grd 25 false (.aI 29 (.t 3) 0),.grd 25 false (.load 30 none (.t 29)),.grd 25 false (.bQ 31 1 (.t 28) (.t 30)),.grd 25 false (.load 32 none (.t 31)),.grd 25 false (.len 33 (.t 32)),.grd 25 false (.aI 34 (.t 3) 2),.grd 25 false (.load 35 none (.t 34)),.grd 25 false (.len 36 (.t 35)),.grd 25 false (.bin 37 .sub (.t 33) (.t 36)),.grd 25 false (.bin 38 .gtr (.t 27) (.t 37)),.pick 39 (.t 25) (.c (.bool true)) (.t 38),.aG 21 (.t 39)]) (.cond (.t 21) (.seq (.ops [.aG 4 (.c (.int .i64 2))]) .ret) .skip))))))) (.seq (.ops [.aG 4 (.c (.int .i64 0))]) .ret)))⟩
def EC:ay:=(.seq (.ops [.bin 9 .lss (.t 8) (.t 7)]) (.seq (.cond (.t 9) .skip (.exit 0)) (.seq (.block 1 (.seq (.ops [.ak 10 (.t 8),.aG 5 (.t 10)]) (.seq (.ops [.ak 11 (.t 1),.ak 12 (.t 0),.ak 13 (.t 5),.bQ 14 1 (.t 12) (.t 13),.load 15 none (.t 14),.kC 16 (.t 11) [(.t 15)]]) (.cond (.t 16) (.seq (.ops [.ak 17 (.t 5),.aG 4 (.t 17)]) .ret) .skip)))) (.ops [.bin 18 .add (.t 8) (.c (.int .i64 1)),.ak 8 (.t 18)]))))
def ED:ay :=
(.clean [0,1,7,8] [4] (.block 0 (.loop [0,1,7,8] EC)))
def Pg:gy:=⟨2,19,[.tmp 4],(.seq (.ops [.aG 4 (.c (.int .i64 0))]) (.seq (.seq (.ops [.ak 6 (.t 0),.len 7 (.t 6),.ak 8 (.c (.int .i64 0))])
  ED) (.seq (.ops [.aG 4 (.c (.int .i64 (-1)))]) .ret)))⟩
def Ph:gy:=⟨2,9,[.tmp 4],(.seq (.ops [.aG 4 (.nil 2)]) (.seq (.ops [.ak 5 (.t 0),.ak 6 (.t 1),.call 7 129 [(.t 5),(.t 6),(.c (.func 130 []))],.call 8 128 [(.t 7)],.aG 4 (.t 8)]) .ret))⟩
def Pj:gy:=⟨2,8,[.tmp 4],(.seq (.ops [.aG 4 (.c (.int .u64 0))]) (.seq (.ops [.ak 5 (.t 0),.ak 6 (.t 1),.bin 7 .or (.t 5) (.t 6),.aG 4 (.t 7)]) .ret))⟩
def EF:ay:=(.seq (.ops [.bin 29 .lss (.t 28) (.t 27)]) (.seq (.cond (.t 29) .skip (.exit 0)) (.seq (.block 1 (.seq (.ops [.ak 30 (.t 28),.aG 10 (.t 30)]) (.yu [] [([0,1,2,3,4,5,6,7,8,9,10,11,12,13,14,15],16),([],17)] (some ([18],[],19,[])) [] [.ak 31 (.t 9),.ak 32 (.t 10),.aI 33 (.t 3) 0,.load 34 none (.t 33),.ak 35 (.t 9),.ak 36 (.t 10),.bQ 37 1 (.t 35) (.t 36),.load 38 none (.t 37),.ak 39 (.t 10),.aI 40 (.t 5) 0,.load 41 none (.t 40),.aI 42 (.t 5) 0,.load 43 none (.t 42),.aI 44 (.t 5) 1,.load 45 none (.t 44),.bin 46 .add (.t 43) (.t 45),.call 47 125 [(.t 39),(.t 41),(.t 46)],.kC 48 (.t 34) [(.t 38),(.t 47)],.bQ 49 1 (.t 31) (.t 32),.store none 1 (.t 49) (.t 48)]))) (.ops [.bin 50 .add (.t 28) (.c (.int .i64 1)),.ak 28 (.t 50)]))))
def EG:ay :=
(.clean [3,4,5,6,9,25,27,28] [4,6,7,9] (.block 0 (.loop [3,4,5,6,9,25,27,28] EF)))
def EH:gy:=⟨3,55,[.cell 6 (some 2),.tmp 7],(.seq (.ops [.box 3 (.t 0),.box 4 (.t 1),.box 5 (.t 2),.alloc 6 [(.int .i64 0),(.list 1 [])],.aG 7 (.c (.int .i64 0))]) (.seq (.seq (.ops [.load 11 (some 2) (.t 4),.call 12 91 [(.t 11)],.aG 8 (.t 12)]) (.seq (.ops [.ak 13 (.t 8),.bin 14 .neq (.t 13) (.c (.int .i64 0))]) (.cond (.t 14) (.seq (.ops [.build 15 [(.int .i64 0),(.list 1 [])] [],.ak 16 (.t 8),.store none 2 (.t 6) (.t 15),.aG 7 (.t 16)]) .ret) .skip))) (.seq (.seq (.ops [.load 17 (some 2) (.t 5),.aI 18 (.t 4) 0,.load 19 none (.t 18),.call 20 131 [(.t 17),(.t 19)],.un 21 .not (.t 20)]) (.cond (.t 21) (.seq (.ops [.build 22 [(.int .i64 0),(.list 1 [])] [],.store none 2 (.t 6) (.t 22),.aG 7 (.c (.int .i64 2))]) .ret) .skip)) (.seq (.ops [.aI 23 (.t 4) 1,.load 24 none (.t 23),.call 25 80 [(.t 24)],.aG 9 (.t 25)]) (.seq (.seq (.ops [.ak 26 (.t 9),.len 27 (.t 26),.ak 28 (.c (.int .i64 0))])
    EG) (.seq (.ops [.aI 51 (.t 4) 0,.load 52 none (.t 51),.ak 53 (.t 9),.build 54 [(.int .i64 0),(.list 1 [])] [(0,1,(.t 52)),(1,1,(.t 53))],.store none 2 (.t 6) (.t 54),.aG 7 (.c (.int .i64 0))]) .ret))))))⟩
def EI:ay:=(.seq (.seq (.ops [.ak 24 (.t 5),.bin 25 .neq (.t 24) (.c (.int .u64 0))]) (.cond (.t 25) .skip (.exit 2))) (.block 3 (.seq (.seq (.ops [.ak 26 (.t 0),.ak 27 (.t 4),.bin 28 .mul (.t 27) (.c (.int .i64 64)),.ak 29 (.t 5),.call 30 126 [(.t 29)],.bin 31 .add (.t 28) (.t 30),.yield 32 (.t 26) [(.t 31)],.un 33 .not (.t 32)]) (.cond (.t 33) .ret .skip)) (.ops [.ak 34 (.t 5),.ak 35 (.t 5),.bin 36 .sub (.t 35) (.c (.int .u64 1)),.bin 37 .and (.t 34) (.t 36),.aG 5 (.t 37)]))))
def EJ:ay :=
(.clean [0,1,2,4,5,10,11,12] [0,1,2,10,11,12] (.block 2 (.loop [0,1,2,4,5,10,11,12] EI)))
def EK:ay:=(.seq (.ops [.bin 13 .lss (.t 12) (.t 11)]) (.seq (.cond (.t 13) .skip (.exit 0)) (.seq (.block 1 (.seq (.ops [.ak 14 (.t 12),.bQ 15 1 (.t 10) (.t 12),.load 16 none (.t 15),.aG 4 (.t 14),.aG 5 (.t 16)]) (.seq (.ops [.ak 17 (.t 5),.ak 18 (.t 4),.load 19 none (.t 2),.aI 20 (.t 1) 0,.load 21 none (.t 20),.call 22 125 [(.t 18),(.t 19),(.t 21)],.bin 23 .and (.t 17) (.t 22),.aG 5 (.t 23)])
    EJ))) (.ops [.bin 38 .add (.t 12) (.c (.int .i64 1)),.ak 12 (.t 38)]))))
def EL:ay :=
(.clean [0,1,2,10,11,12] [] (.block 0 (.loop [0,1,2,10,11,12] EK)))
def Pm:gy:=⟨3,39,[],(.seq (.seq (.ops [.load 6 (some 2) (.t 1),.call 7 91 [(.t 6)],.bin 8 .neq (.t 7) (.c (.int .i64 0))]) (.cond (.t 8) .ret .skip)) (.seq (.ops [.aI 9 (.t 1) 1,.load 10 none (.t 9),.len 11 (.t 10),.ak 12 (.c (.int .i64 0))])
  EL))⟩
def Iw:gy:=⟨3,27,[.tmp 6],(.seq (.ops [.aG 6 (.c (.int .u64 0))]) (.seq (.ops [.ak 7 (.t 1),.ak 8 (.t 0),.bin 9 .mul (.t 8) (.c (.int .i64 64)),.bin 10 .sub (.t 7) (.t 9),.mn 11 true (.t 10) (.c (.int .i64 0)),.ak 12 (.t 2),.ak 13 (.t 0),.bin 14 .mul (.t 13) (.c (.int .i64 64)),.bin 15 .sub (.t 12) (.t 14),.mn 16 false (.t 15) (.c (.int .i64 64)),.aG 1 (.t 11),.aG 2 (.t 16)]) (.seq (.seq (.ops [.ak 17 (.t 1),.ak 18 (.t 2),.bin 19 .geq (.t 17) (.t 18)]) (.cond (.t 19) (.seq (.ops [.aG 6 (.c (.int .u64 0))]) .ret) .skip)) (.seq (.ops [.ak 20 (.t 2),.ak 21 (.t 1),.bin 22 .sub (.t 20) (.t 21),.bin 23 .sub (.c (.int .i64 64)) (.t 22),.bin 24 .shr (.c (.int .u64 18446744073709551615)) (.t 23),.ak 25 (.t 1),.bin 26 .shl (.t 24) (.t 25),.aG 6 (.t 26)]) .ret))))⟩
def Pn:gy:=⟨1,5,[.tmp 2],(.seq (.ops [.aG 2 (.nil 2)]) (.seq (.ops [.ak 3 (.t 0),.call 4 132 [(.c (.lK 2)),(.t 3)],.aG 2 (.t 4)]) .ret))⟩
def Po:gy:=⟨3,8,[.tmp 6],(.seq (.ops [.box 3 (.t 0),.box 4 (.t 1),.box 5 (.t 2),.aG 6 (.c .nC)]) (.seq (.ops [.QJ 7 133 [(.t 3),(.t 4),(.t 5)],.aG 6 (.t 7)]) .ret))⟩
def Pq:gy:=⟨2,9,[.tmp 4],(.seq (.ops [.aG 4 (.c (.bool false))]) (.seq (.ops [.ak 5 (.t 0),.ak 6 (.t 5),.grd 6 false (.ak 7 (.t 1)),.pick 8 (.t 6) (.c (.bool true)) (.t 7),.aG 4 (.t 8)]) .ret))⟩
def BK:gy:=⟨2,28,[.tmp 4],(.seq (.ops [.box 2 (.t 0),.aG 4 (.c (.bool false))]) (.seq (.ops [.aI 5 (.t 2) 0,.load 6 none (.t 5),.bin 7 .geq (.t 6) (.c (.int .i64 0)),.ak 8 (.t 7),.grd 8 true (.aI 9 (.t 2) 1),.grd 8 true (.load 10 none (.t 9)),.grd 8 true (.bin 11 .geq (.t 10) (.c (.int .i64 0))),.pick 12 (.t 8) (.t 11) (.c (.bool false)),.ak 13 (.t 12),.grd 13 true (.aI 14 (.t 2) 0),.grd 13 true (.load 15 none (.t 14)),.grd 13 true (.ak 16 (.t 1)),.grd 13 true (.bin 17 .leq (.t 15) (.t 16)),.pick 18 (.t 13) (.t 17) (.c (.bool false)),.ak 19 (.t 18),.grd 19 true (.aI 20 (.t 2) 1),.grd 19 true (.load 21 none (.t 20)),.grd 19 true (.ak 22 (.t 1)),.grd 19 true (.aI 23 (.t 2) 0),.grd 19 true (.load 24 none (.t 23)),.grd 19 true (.bin 25 .sub (.t 22) (.t 24)),.grd 19 true (.bin 26 .leq (.t 21) (.t 25)),.pick 27 (.t 19) (.t 26) (.c (.bool false)),.aG 4 (.t 27)]) .ret))⟩
def Pv:ay:=(.ops [.alloc 5 [(.int .i64 0),(.int .i64 0)],.store none 2 (.t 5) (.t 7)])
def Px:ay:=(.block 1 (.ops [.load 8 none (.t 2),.load 9 (some 2) (.t 5),.iw 10 2 [(.t 9)],.app 11 2 (.t 8) (.t 10),.store none 1 (.t 2) (.t 11)]))
def Py:gy:=⟨2,13,[.tmp 4],(.seq (.ops [.box 2 (.t 0),.aG 4 (.nil 2)]) (.seq (.seq (.ops [.ak 6 (.t 1)]) (.block 0 (.rng (.t 6) [7] Pv Px))) (.seq (.ops [.load 12 none (.t 2),.aG 4 (.t 12)]) .ret)))⟩
def oG:ay:=(.seq (.ops [.bin 19 .lss (.t 18) (.t 17)]) (.seq (.cond (.t 19) .skip (.exit 0)) (.seq (.block 1 (.seq (.ops [.ak 20 (.t 18),.bQ 21 3 (.t 16) (.t 18),.load 22 (some 3) (.t 21),.alloc 10 [(.int .i64 0),(.int .i64 0),(.int .i64 0)],.aG 9 (.t 20),.store none 3 (.t 10) (.t 22)]) (.seq (.yu [] [] (some ([0,1,2,3,4,5,6,7],[],8,[])) [] [.aI 23 (.t 10) 1,.load 24 none (.t 23),.rG 25 (.t 6) (.t 24) 2 1,.load 26 none (.t 25),.aI 27 (.t 10) 2,.load 28 none (.t 27),.bin 29 .add (.t 26) (.t 28),.rG 30 (.t 6) (.t 24) 2 1,.store none 1 (.t 30) (.t 29)]) (.seq (.seq (.yu [] [] none [0,1,2,3,4,5,6,7,8,9,10,11,12,13,14,15] [.ak 31 (.t 9),.bin 32 .add (.t 31) (.c (.int .i64 1)),.ak 33 (.t 5),.len 34 (.t 33),.bin 35 .lss (.t 32) (.t 34),.ak 36 (.t 35),.grd 36 true (.ak 37 (.t 5)),.grd 36 true (.ak 38 (.t 9)),.grd 36 true (.bin 39 .add (.t 38) (.c (.int .i64 1))),.grd 36 true (.bQ 40 3 (.t 37) (.t 39)),.grd 36 true (.aI 41 (.t 40) 0),.grd 36 true (.load 42 none (.t 41)),.grd 36 true (.aI 43 (.t 10) 0),.grd 36 true (.load 44 none (.t 43)),.grd 36 true (.bin 45 .eql (.t 42) (.t 44)),.pick 46 (.t 36) (.t 45) (.c (.bool false))]) (.cond (.t 46) (.exit 1) .skip)) (.seq (.ops [.load 47 none (.t 3),.rG 48 (.t 6) (.c (.int .i64 0)) 2 1,.load 49 none (.t 48),.bin 50 .gtr (.t 49) (.c (.int .i64 0)),.rG 51 (.t 6) (.c (.int .i64 1)) 2 1,.load 52 none (.t 51),.bin 53 .gtr (.t 52) (.c (.int .i64 0)),.kC 54 (.t 47) [(.t 50),(.t 53)],.aG 11 (.t 54)]) (.seq (.seq (.ops [.ak 55 (.t 11),.ak 56 (.t 55),.grd 56 true (.ak 57 (.t 8)),.grd 56 true (.un 58 .not (.t 57)),.pick 59 (.t 56) (.t 58) (.c (.bool false))]) (.cond (.t 59) (.ops [.aI 60 (.t 10) 0,.load 61 none (.t 60),.aG 7 (.t 61)]) .skip)) (.seq (.seq (.ops [.ak 62 (.t 11),.un 63 .not (.t 62),.ak 64 (.t 63),.grd 64 true (.ak 65 (.t 8)),.pick 66 (.t 64) (.t 65) (.c (.bool false)),.ak 67 (.t 66),.grd 67 true (.ak 68 (.t 0)),.grd 67 true (.ak 69 (.t 7)),.grd 67 true (.aI 70 (.t 10) 0),.grd 67 true (.load 71 none (.t 70)),.grd 67 true (.ak 72 (.t 7)),.grd 67 true (.bin 73 .sub (.t 71) (.t 72)),.grd 67 true (.build 74 [(.int .i64 0),(.int .i64 0)] [(0,1,(.t 69)),(1,1,(.t 73))]),.grd 67 true (.yield 75 (.t 68) [(.t 74)]),.grd 67 true (.un 76 .not (.t 75)),.pick 77 (.t 67) (.t 76) (.c (.bool false))]) (.cond (.t 77) .ret .skip)) (.ops [.ak 78 (.t 11),.aG 8 (.t 78)])))))))) (.ops [.bin 79 .add (.t 18) (.c (.int .i64 1)),.ak 18 (.t 79)]))))
def EM:ay :=
(.clean [0,3,5,6,7,8,15,16,17,18] [] (.block 0 (.loop [0,3,5,6,7,8,15,16,17,18] oG)))
def Pz:gy:=⟨4,80,[],(.seq (.ops [.load 12 none (.t 1),.load 13 none (.t 2),.iw 14 1 [(.t 12),(.t 13)],.call 15 134 [(.t 14)],.aG 5 (.t 15)]) (.seq (.ops [.alloc 6 [(.int .i64 0),(.int .i64 0)]]) (.seq (.ops [.aG 7 (.c (.int .i64 0)),.aG 8 (.c (.bool false))]) (.seq (.ops [.ak 16 (.t 5),.len 17 (.t 16),.ak 18 (.c (.int .i64 0))])
   EM))))⟩
def zu:ay:=(.seq (.ops [.bin 21 .lss (.t 20) (.t 19)]) (.seq (.cond (.t 21) .skip (.exit 2)) (.seq (.block 3 (.seq (.ops [.bQ 22 2 (.t 18) (.t 20),.load 23 (some 2) (.t 22),.alloc 7 [(.int .i64 0),(.int .i64 0)],.store none 2 (.t 7) (.t 23)]) (.seq (.ops [.load 25 (some 2) (.t 7),.call 26 135 [(.t 25)],.ak 24 (.t 26),.ext 27 (.t 24) 0,.ext 28 (.t 24) 1,.ext 29 (.t 24) 2,.aG 8 (.t 27),.aG 9 (.t 28),.aG 10 (.t 29)]) (.seq (.ops [.ak 30 (.t 10)]) (.cond (.t 30) (.ops [.ak 31 (.t 3),.ak 32 (.t 8),.ak 33 (.t 4),.build 34 [(.int .i64 0),(.int .i64 0),(.int .i64 0)] [(0,1,(.t 32)),(1,1,(.t 33)),(2,1,(.c (.int .i64 1)))],.ak 35 (.t 9),.ak 36 (.t 4),.build 37 [(.int .i64 0),(.int .i64 0),(.int .i64 0)] [(0,1,(.t 35)),(1,1,(.t 36)),(2,1,(.c (.int .i64 (-1))))],.iw 38 3 [(.t 34),(.t 37)],.app 39 3 (.t 31) (.t 38),.aG 3 (.t 39)]) .skip))))) (.ops [.bin 40 .add (.t 20) (.c (.int .i64 1)),.ak 20 (.t 40)]))))
def EN:ay :=
(.clean [0,3,4,5,11,12,13,17,18,19,20,39] [0,2,3,11,12,13,39] (.block 2 (.loop [0,3,4,5,11,12,13,17,18,19,20,39] zu)))
def EO:ay:=(.seq (.ops [.bin 14 .lss (.t 13) (.t 12)]) (.seq (.cond (.t 14) .skip (.exit 0)) (.seq (.block 1 (.seq (.ops [.ak 15 (.t 13),.bQ 16 1 (.t 11) (.t 13),.load 17 none (.t 16),.aG 4 (.t 15),.aG 5 (.t 17)]) (.seq (.ops [.ak 18 (.t 5),.len 19 (.t 18),.ak 20 (.c (.int .i64 0))])
    EN))) (.ops [.bin 41 .add (.t 13) (.c (.int .i64 1)),.ak 13 (.t 41)]))))
def EP:ay :=
(.clean [0,3,11,12,13,39] [2,3] (.block 0 (.loop [0,3,11,12,13,39] EO)))
def PD:gy:=⟨1,45,[.tmp 2],(.seq (.ops [.aG 2 (.nil 3)]) (.seq (.ops [.aG 3 (.nil 3)]) (.seq (.seq (.ops [.ak 11 (.t 0),.len 12 (.t 11),.ak 13 (.c (.int .i64 0))])
   EP) (.seq (.ops [.ak 42 (.t 3),.Ba 43 136 (.t 42) (.c (.func 137 []))]) (.seq (.ops [.ak 44 (.t 3),.aG 2 (.t 44)]) .ret)))))⟩
def BL:gy:=⟨1,35,[.tmp 2,.tmp 3,.tmp 4],(.seq (.ops [.box 1 (.t 0),.aG 2 (.c (.int .i64 0)),.aG 3 (.c (.int .i64 0)),.aG 4 (.c (.bool false))]) (.seq (.seq (.ops [.aI 7 (.t 1) 1,.load 8 none (.t 7),.bin 9 .leq (.t 8) (.c (.int .i64 0))]) (.cond (.t 9) (.seq (.ops [.aG 2 (.c (.int .i64 0)),.aG 3 (.c (.int .i64 0)),.aG 4 (.c (.bool false))]) .ret) .skip)) (.seq (.ops [.aI 10 (.t 1) 0,.load 11 none (.t 10),.mn 12 true (.t 11) (.c (.int .i64 0)),.aG 5 (.t 12),.aG 6 (.c (.int .i64 4096))]) (.seq (.seq (.ops [.aI 13 (.t 1) 0,.load 14 none (.t 13),.bin 15 .lss (.t 14) (.c (.int .i64 0)),.ak 16 (.t 15),.grd 16 false (.aI 17 (.t 1) 1),.grd 16 false (.load 18 none (.t 17)),.grd 16 false (.aI 19 (.t 1) 0),.grd 16 false (.load 20 none (.t 19)),.grd 16 false (.bin 21 .sub (.c (.int .i64 4096)) (.t 20)),.grd 16 false (.bin 22 .lss (.t 18) (.t 21)),.pick 23 (.t 16) (.c (.bool true)) (.t 22)]) (.cond (.t 23) (.ops [.aI 24 (.t 1) 0,.load 25 none (.t 24),.aI 26 (.t 1) 1,.load 27 none (.t 26),.bin 28 .add (.t 25) (.t 27),.mn 29 false (.t 28) (.c (.int .i64 4096)),.aG 6 (.t 29)]) .skip)) (.seq (.ops [.ak 30 (.t 5),.ak 31 (.t 6),.ak 32 (.t 5),.ak 33 (.t 6),.bin 34 .lss (.t 32) (.t 33),.aG 2 (.t 30),.aG 3 (.t 31),.aG 4 (.t 34)]) .ret)))))⟩
def abL:gy:=⟨2,10,[.tmp 4],(.seq (.ops [.box 2 (.t 0),.box 3 (.t 1),.aG 4 (.c (.int .i64 0))]) (.seq (.ops [.aI 5 (.t 2) 0,.load 6 none (.t 5),.aI 7 (.t 3) 0,.load 8 none (.t 7),.call 9 138 [(.t 6),(.t 8)],.aG 4 (.t 9)]) .ret))⟩
def abM:gy:=⟨2,20,[.tmp 4],(.seq (.ops [.aG 4 (.c (.int .i64 0))]) (.seq (.ops [.ak 7 (.t 0),.call 8 141 [(.t 7)],.aG 5 (.t 8)]) (.seq (.ops [.ak 9 (.t 1),.call 10 141 [(.t 9)],.aG 6 (.t 10)]) (.seq (.seq (.ops [.ak 11 (.t 5)]) (.cond (.t 11) (.seq (.seq (.ops [.ak 12 (.t 6)]) (.cond (.t 12) (.seq (.ops [.aG 4 (.c (.int .i64 0))]) .ret) .skip)) (.seq (.ops [.aG 4 (.c (.int .i64 (-1)))]) .ret)) .skip)) (.seq (.seq (.ops [.ak 13 (.t 6)]) (.cond (.t 13) (.seq (.ops [.aG 4 (.c (.int .i64 1))]) .ret) .skip)) (.seq (.seq (.ops [.ak 14 (.t 0),.ak 15 (.t 1),.bin 16 .lss (.t 14) (.t 15)]) (.cond (.t 16) (.seq (.ops [.aG 4 (.c (.int .i64 (-1)))]) .ret) .skip)) (.seq (.seq (.ops [.ak 17 (.t 0),.ak 18 (.t 1),.bin 19 .gtr (.t 17) (.t 18)]) (.cond (.t 19) (.seq (.ops [.aG 4 (.c (.int .i64 1))]) .ret) .skip)) (.seq (.ops [.aG 4 (.c (.int .i64 0))]) .ret))))))))⟩
def abN:gy:=⟨1,6,[.tmp 2],(.seq (.ops [.aG 2 (.c (.bool false))]) (.seq (.ops [.ak 3 (.t 0),.ak 4 (.t 0),.bin 5 .neq (.t 3) (.t 4),.aG 2 (.t 5)]) .ret))⟩
def tab:List (Nat × Zt):=[(9,.code fn9),(10,.code abf),(11,.code OQ),(15,.code TW),(16,.code JR),(18,.code aip),(20,.code zh),(23,.code aiq),(26,.code Es),(28,.code abg),(31,.code Yk),(32,.code abh),(33,.code abj),(34,.code abk),(35,.code Yl),(36,.code air),(37,.code ais),(38,.code Ym),(39,.ext (lu 1)),(42,.code JZ),(43,.code abl),(44,.code Yn),(45,.code abm),(48,.code abn),(49,.code abo),(52,.code ait),(53,.code abp),(54,.code Yo),(55,.code abq),(56,.code abr),(57,.code abt),(62,.code abu),(63,.code abv),(64,.code abw),(65,.code TY),(66,.code abx),(67,.code KG),(68,.code aby),(69,.code abz),(70,.code abA),(72,.code Yp),(73,.code Ua),(74,.code Yq),(75,.code abB),(76,.code abC),(77,.code Yr),(78,.code Ub),(79,.code abD),(80,.ext (lu 1)),(86,.ext (lu 8)),(87,.code abE),(88,.code OT),(89,.code Yt),(90,.code Yu),(91,.code GK),(93,.code aiu),(94,.code abG),(95,.code abH),(97,.code abI),(98,.code abJ),(99,.code abK),(100,.ext um),(101,.code OU),(102,.code OV),(103,.code OW),(104,.code OX),(105,.code OY),(106,.code OZ),(107,.code O1),(108,.code O4),(109,.code O5),(112,.code O6),(113,.code O7),(114,.code O8),(115,.Ba OO),(116,.code O9),(118,.code Iu),(119,.code Pg),(120,.code Ph),(121,.code Pj),(122,.code EH),(124,.code Pm),(125,.code Iw),(126,.ext tzX),(128,.code Pn),(129,.code Po),(130,.code Pq),(131,.code BK),(132,.code Py),(133,.code Pz),(134,.code PD),(135,.code BL),(136,.Ba (lI 137)),(137,.code abL),(138,.code abM),(141,.code abN)]
def env:Env:=fun f=>tab.lookup f
theorem aiv:env 9=some (.code fn9):=rfl
theorem alg:env 10=some (.code abf):=rfl
theorem VA:env 11=some (.code OQ):=rfl
theorem abO:env 15=some (.code TW):=rfl
theorem PE:env 16=some (.code JR):=rfl
theorem xq:env 20=some (.code zh):=rfl
theorem ER:env 26=some (.code Es):=rfl
theorem alh:env 28=some (.code abg):=rfl
theorem ahc:env 31=some (.code Yk):=rfl
theorem ali:env 32=some (.code abh):=rfl
theorem alj:env 33=some (.code abj):=rfl
theorem alk:env 34=some (.code abk):=rfl
theorem ahd:env 35=some (.code Yl):=rfl
theorem ahe:env 38=some (.code Ym):=rfl
theorem alm:env 39=some (.ext (lu 1)):=rfl
theorem PG:env 42=some (.code JZ):=rfl
theorem aln:env 43=some (.code abl):=rfl
theorem ahf:env 44=some (.code Yn):=rfl
theorem alo:env 45=some (.code abm):=rfl
theorem alp:env 48=some (.code abn):=rfl
theorem alq:env 49=some (.code abo):=rfl
theorem alr:env 53=some (.code abp):=rfl
theorem ahg:env 54=some (.code Yo):=rfl
theorem als:env 55=some (.code abq):=rfl
theorem alu:env 56=some (.code abr):=rfl
theorem alv:env 57=some (.code abt):=rfl
theorem alx:env 62=some (.code abu):=rfl
theorem aly:env 63=some (.code abv):=rfl
theorem alz:env 64=some (.code abw):=rfl
theorem abP:env 65=some (.code TY):=rfl
theorem alA:env 66=some (.code abx):=rfl
theorem PI:env 67=some (.code KG):=rfl
theorem alB:env 68=some (.code aby):=rfl
theorem alC:env 69=some (.code abz):=rfl
theorem alD:env 70=some (.code abA):=rfl
theorem ahh:env 72=some (.code Yp):=rfl
theorem abQ:env 73=some (.code Ua):=rfl
theorem ahi:env 74=some (.code Yq):=rfl
theorem alE:env 75=some (.code abB):=rfl
theorem alF:env 76=some (.code abC):=rfl
theorem alG:env 77=some (.code Yr):=rfl
theorem abR:env 78=some (.code Ub):=rfl
theorem alH:env 79=some (.code abD):=rfl
theorem ahj:env 80=some (.ext (lu 1)):=rfl
theorem alI:env 86=some (.ext (lu 8)):=rfl
theorem alJ:env 87=some (.code abE):=rfl
theorem VB:env 88=some (.code OT):=rfl
theorem ahk:env 89=some (.code Yt):=rfl
theorem ahl:env 90=some (.code Yu):=rfl
theorem Iy:env 91=some (.code GK):=rfl
theorem alK:env 94=some (.code abG):=rfl
theorem alL:env 95=some (.code abH):=rfl
theorem alM:env 97=some (.code abI):=rfl
theorem alN:env 98=some (.code abJ):=rfl
theorem alO:env 99=some (.code abK):=rfl
theorem aiw:env 100=some (.ext um):=rfl
theorem aix:env 101=some (.code OU):=rfl
theorem aiy:env 102=some (.code OV):=rfl
theorem aiz:env 103=some (.code OW):=rfl
theorem aiA:env 104=some (.code OX):=rfl
theorem aiB:env 105=some (.code OY):=rfl
theorem aiC:env 106=some (.code OZ):=rfl
theorem aiD:env 107=some (.code O1):=rfl
theorem aiE:env 108=some (.code O4):=rfl
theorem aiF:env 109=some (.code O5):=rfl
theorem aiG:env 112=some (.code O6):=rfl
theorem aiH:env 113=some (.code O7):=rfl
theorem aiI:env 114=some (.code O8):=rfl
theorem aiJ:env 115=some (.Ba OO):=rfl
theorem aiK:env 116=some (.code O9):=rfl
theorem abS:env 118=some (.code Iu):=rfl
theorem aiL:env 119=some (.code Pg):=rfl
theorem aiM:env 120=some (.code Ph):=rfl
theorem aiN:env 121=some (.code Pj):=rfl
theorem Uc:env 122=some (.code EH):=rfl
theorem aiO:env 124=some (.code Pm):=rfl
theorem abT:env 125=some (.code Iw):=rfl
theorem aiP:env 126=some (.ext tzX):=rfl
theorem aiQ:env 128=some (.code Pn):=rfl
theorem aiR:env 129=some (.code Po):=rfl
theorem aiS:env 130=some (.code Pq):=rfl
theorem Lh:env 131=some (.code BK):=rfl
theorem aiT:env 132=some (.code Py):=rfl
theorem aiU:env 133=some (.code Pz):=rfl
theorem aiV:env 134=some (.code PD):=rfl
theorem Lj:env 135=some (.code BL):=rfl
theorem abU:env 136=some (.Ba (lI 137)):=rfl
end Go.Proofs.YtpcncggjmabnaaaGreatDoor

namespace Go.Proofs.YtpcncggjmabnaaaGreatDoor
open V
def ES:=(And.intro (And.intro (And.intro (And.intro (And.intro (And.intro (And.intro (And.intro @Ot (And.intro @aay @aaz)) (And.intro (And.intro @aeG @Ou) (And.intro @Ov @aax))) (And.intro (And.intro (And.intro @JF @aaC) (And.intro @aeC @RX)) (And.intro (And.intro @RY @Ol) (And.intro @Om @aeD)))) (And.intro (And.intro (And.intro (And.intro @JE @Oo) (And.intro @Xw @Xx)) (And.intro (And.intro @dK @List.foldl_nil.{0,0}) (And.intro @List.foldl_cons.{0,0} @aez))) (And.intro (And.intro (And.intro @aeA @aeE) (And.intro @aat @Ih)) (And.intro (And.intro @aav @aeF) (And.intro @Oq @Xz))))) (And.intro (And.intro (And.intro (And.intro @aaw (And.intro @Ci @JG)) (And.intro (And.intro @GH @Oz) (And.intro @aaD @XA))) (And.intro (And.intro (And.intro @Si @aeH) (And.intro @RV @BH)) (And.intro (And.intro @OA @Sz) (And.intro @OB @SA)))) (And.intro (And.intro (And.intro (And.intro @fJ.eq_1 @fJ.eq_2) (And.intro @fJ.eq_3 @resultList.eq_1)) (And.intro (And.intro @resultList.eq_2 @ou.eq_1) (And.intro @ou.eq_2 @ou.eq_3))) (And.intro (And.intro (And.intro @zBV.eq_1 @zBV.eq_2) (And.intro @splice.eq_1 @PV.uS.eq_1)) (And.intro (And.intro @PV.uS.eq_2 @PV.uS.eq_3) (And.intro @PV.uS.eq_4 @St.iM.eq_1)))))) (And.intro (And.intro (And.intro (And.intro (And.intro @St.bF.eq_1 (And.intro @St.fH.eq_1 @St.fH.eq_2)) (And.intro (And.intro @PV.single.eq_1 @PV.single.eq_2) (And.intro @aaF @XD))) (And.intro (And.intro (And.intro @aeQ @aaG) (And.intro @aaH @XF)) (And.intro (And.intro @aaI @XG) (And.intro @aeS @aaK)))) (And.intro (And.intro (And.intro (And.intro @aeT @aaL) (And.intro @aaM @aeU)) (And.intro (And.intro @aeV @aeW) (And.intro @aeX @aeY))) (And.intro (And.intro (And.intro @dK @aeZ) (And.intro @dK @dK)) (And.intro (And.intro @dK @dK) (And.intro @afa @ae6))))) (And.intro (And.intro (And.intro (And.intro @ae4 (And.intro @ae0 @ae2)) (And.intro (And.intro @dK @ae8) (And.intro @aii @aaN))) (And.intro (And.intro (And.intro @aaO @aaP) (And.intro @aaQ @aaR)) (And.intro (And.intro @dK @afd) (And.intro @afe @aff)))) (And.intro (And.intro (And.intro (And.intro @dK @afg) (And.intro @XH @aij)) (And.intro (And.intro @afh @XI) (And.intro @afi @XJ))) (And.intro (And.intro (And.intro @aaS @aaT) (And.intro @afj @dK)) (And.intro (And.intro @dK @dK) (And.intro @XK @afk))))))) (And.intro (And.intro (And.intro (And.intro (And.intro (And.intro @afl (And.intro @afm @afn)) (And.intro (And.intro @afo @dK) (And.intro @afc @dK))) (And.intro (And.intro (And.intro @dK @dK) (And.intro @dK @afb)) (And.intro (And.intro @ae7 @ae5) (And.intro @ae1 @ae3)))) (And.intro (And.intro (And.intro (And.intro @dK @ae9) (And.intro @aik @aaU)) (And.intro (And.intro @aaV @aaW) (And.intro @aaX @aaY))) (And.intro (And.intro (And.intro @dK @afp) (And.intro @afq @afr)) (And.intro (And.intro @dK @afs) (And.intro @XL @ail))))) (And.intro (And.intro (And.intro (And.intro @aft (And.intro @XM @afu)) (And.intro (And.intro @XO @aaZ) (And.intro @aa0 @afv))) (And.intro (And.intro (And.intro @dK @dK) (And.intro @dK @XP)) (And.intro (And.intro @plain.eq_1 @plain.eq_2) (And.intro @plain.eq_3 @plain.eq_4)))) (And.intro (And.intro (And.intro (And.intro @plain.eq_5 @plain.eq_6) (And.intro @plain.eq_7 @plain.eq_8)) (And.intro (And.intro @plain.eq_9 @plain.eq_10) (And.intro @plain.eq_11 @plain.eq_12))) (And.intro (And.intro (And.intro @plain.eq_13 @plain.eq_14) (And.intro @plain.eq_15 @plain.eq_16)) (And.intro (And.intro @plain.eq_17 @plain.eq_18) (And.intro @plain.eq_19 @plain.eq_20)))))) (And.intro (And.intro (And.intro (And.intro (And.intro @plain.eq_21 (And.intro @plain.eq_22 @plain.eq_23)) (And.intro (And.intro @plain.eq_24 @plain.eq_25) (And.intro @plain.eq_26 @plain.eq_27))) (And.intro (And.intro (And.intro @plain.eq_28 @plain.eq_29) (And.intro @plain.eq_30 @plain.eq_31)) (And.intro (And.intro @plain.eq_32 @plain.eq_33) (And.intro @act.eq_1 @act.eq_2)))) (And.intro (And.intro (And.intro (And.intro @act.eq_3 @act.eq_4) (And.intro @act.eq_5 @act.eq_6)) (And.intro (And.intro @act.eq_7 @act.eq_8) (And.intro @act.eq_9 @act.eq_10))) (And.intro (And.intro (And.intro @act.eq_11 @act.eq_12) (And.intro @act.eq_13 @act.eq_14)) (And.intro (And.intro @act.eq_15 @act.eq_16) (And.intro @act.eq_17 @act.eq_18))))) (And.intro (And.intro (And.intro (And.intro (And.intro @act.eq_19 @bZ.eq_1) (And.intro @bZ.eq_2 @bZ.eq_3)) (And.intro (And.intro @bZ.eq_4 @bZ.eq_5) (And.intro @bZ.eq_6 @bZ.eq_7))) (And.intro (And.intro (And.intro @bZ.eq_8 @bZ.eq_9) (And.intro @bZ.eq_10 @bZ.eq_11)) (And.intro (And.intro @bZ.eq_12 @bZ.eq_13) (And.intro @bZ.eq_14 @bZ.eq_15)))) (And.intro (And.intro (And.intro (And.intro @bZ.eq_16 @bZ.eq_17) (And.intro @bZ.eq_18 @bZ.eq_19)) (And.intro (And.intro @bZ.eq_20 @bZ.eq_21) (And.intro @bZ.eq_22 @bZ.eq_23))) (And.intro (And.intro (And.intro @bZ.eq_24 @bZ.eq_25) (And.intro @bZ.eq_26 @bZ.eq_27)) (And.intro (And.intro @bZ.eq_28 @bZ.eq_29) (And.intro @bZ.eq_30 @bZ.eq_31)))))))) (And.intro (And.intro (And.intro (And.intro (And.intro (And.intro (And.intro @bZ.eq_32 (And.intro @bZ.eq_33 @bZ.eq_34)) (And.intro (And.intro @bZ.eq_35 @bZ.eq_36) (And.intro @bZ.eq_37 @bZ.eq_38))) (And.intro (And.intro (And.intro @bZ.eq_39 @bZ.eq_40) (And.intro @bZ.eq_41 @bZ.eq_42)) (And.intro (And.intro @bZ.eq_43 @bZ.eq_44) (And.intro @bZ.eq_45 @bZ.eq_46)))) (And.intro (And.intro (And.intro (And.intro @bZ.eq_47 @bZ.eq_48) (And.intro @bZ.eq_49 @Bool.false_eq_true)) (And.intro (And.intro @if_true.{1} @if_false.{1}) (And.intro @SB @OC))) (And.intro (And.intro (And.intro @St.get.eq_1 @St.get.eq_2) (And.intro @St.get.eq_3 @St.put.eq_1)) (And.intro (And.intro @St.cZ.eq_1 @St.putRow.eq_1) (And.intro @St.consume.eq_1 @St.consume.eq_2))))) (And.intro (And.intro (And.intro (And.intro @St.consume.eq_3 (And.intro @St.freeze.eq_1 @St.row.eq_1)) (And.intro (And.intro @St.row.eq_2 @St.row.eq_3) (And.intro @St.elems.eq_1 @St.grab.eq_1))) (And.intro (And.intro (And.intro @St.grab.eq_2 @St.grab.eq_3) (And.intro @qE.eq_1 @qE.eq_2)) (And.intro (And.intro @qE.eq_3 @qE.eq_4) (And.intro @WH.eq_1 @WH.eq_2)))) (And.intro (And.intro (And.intro (And.intro @jP.eq_1 @jP.eq_2) (And.intro @jP.eq_3 @jP.eq_4)) (And.intro (And.intro @St.takeRow.eq_1 @St.takeRow.eq_2) (And.intro @St.takeRow.eq_3 @St.setRow.eq_1))) (And.intro (And.intro (And.intro @St.setRow.eq_2 @St.setRow.eq_3) (And.intro @St.place.eq_1 @St.place.eq_2)) (And.intro (And.intro @St.xk.eq_1 @St.xk.eq_2) (And.intro @St.setCell.eq_1 @St.jO.eq_1)))))) (And.intro (And.intro (And.intro (And.intro (And.intro @Bc.eq_1 (And.intro @Bc.eq_2 @Bc.eq_3)) (And.intro (And.intro @Bc.eq_4 @Dv.eq_1) (And.intro @Dv.eq_2 @Dv.eq_3))) (And.intro (And.intro (And.intro @Dv.eq_4 @gB.eq_1) (And.intro @gB.eq_2 @gB.eq_3)) (And.intro (And.intro @gB.eq_4 @gB.eq_5) (And.intro @gB.eq_6 @gB.eq_7)))) (And.intro (And.intro (And.intro (And.intro @gB.eq_8 @gB.eq_9) (And.intro @gB.eq_10 @gB.eq_11)) (And.intro (And.intro @gB.eq_12 @gB.eq_13) (And.intro @gB.eq_14 @gB.eq_15))) (And.intro (And.intro (And.intro @gB.eq_16 @gB.eq_17) (And.intro @WG.eq_1 @WG.eq_2)) (And.intro (And.intro @WG.eq_3 @WG.eq_4) (And.intro @BV.val.eq_1 @BV.val.eq_2))))) (And.intro (And.intro (And.intro (And.intro @BV.av.eq_1 (And.intro @BV.av.eq_2 @Yc)) (And.intro (And.intro @TD @Yd) (And.intro @TF @cells_func))) (And.intro (And.intro (And.intro @Ye @OM) (And.intro @Io @Ip)) (And.intro (And.intro @aa1 @XQ) (And.intro @XR @SQ)))) (And.intro (And.intro (And.intro (And.intro @aa2 @XU) (And.intro @XT @XV)) (And.intro (And.intro @SS @SV) (And.intro @SX @SY))) (And.intro (And.intro (And.intro @aa3 @XW) (And.intro @XY @S9)) (And.intro (And.intro @aa4 @X0) (And.intro @XZ @X3))))))) (And.intro (And.intro (And.intro (And.intro (And.intro (And.intro @Tf (And.intro @Td @Tm)) (And.intro (And.intro @Tj @aa5) (And.intro @X4 @X5))) (And.intro (And.intro (And.intro @Tq @aa6) (And.intro @X7 @X6)) (And.intro (And.intro @X8 @Tv) (And.intro @Tt @TB)))) (And.intro (And.intro (And.intro (And.intro @TA @bound.eq_1) (And.intro @bound.eq_2 @bound.eq_3)) (And.intro (And.intro @eF.eq_1 @eF.eq_2) (And.intro @iD.eq_1 @iD.eq_2))) (And.intro (And.intro (And.intro @xB.eq_1 @xB.eq_2) (And.intro @capOf.eq_1 @Ij)) (And.intro (And.intro @aif @aQ) (And.intro @aV @aO))))) (And.intro (And.intro (And.intro (And.intro @aU (And.intro @List.append_nil.{0} @aS)) (And.intro (And.intro @aP @Nat.zero_add) (And.intro @Nat.add_zero @OG))) (And.intro (And.intro (And.intro @OE @OD) (And.intro @qL @decide_true)) (And.intro (And.intro @decide_false @Bool.not_true) (And.intro @Bool.not_false @Bool.true_eq_false)))) (And.intro (And.intro (And.intro (And.intro @beq_self_eq_true.{0} @Bool.true_and) (And.intro @Bool.and_true @Bool.false_and)) (And.intro (And.intro @Bool.and_false @Bool.true_or) (And.intro @Bool.false_or @Bool.or_false))) (And.intro (And.intro (And.intro @Bool.or_true @ald) (And.intro @ale @Ig)) (And.intro (And.intro @Xv @List.length_map.{0,0}) (And.intro @OH @aaE)))))) (And.intro (And.intro (And.intro (And.intro (And.intro @OI (And.intro @SE @aeO)) (And.intro (And.intro @SG @SH) (And.intro @aeP @SI))) (And.intro (And.intro (And.intro @dcall.eq_1 @Ah.eq_1) (And.intro @aeR.eq_1 @OL.eq_1)) (And.intro (And.intro @Il.eq_1 @JI.eq_1) (And.intro @sS.eq_1 @nV.eq_1)))) (And.intro (And.intro (And.intro (And.intro @nV.eq_2 @nV.eq_3) (And.intro @Sm @Sr)) (And.intro (And.intro @Sv @aeI) (And.intro @aeJ @aeK))) (And.intro (And.intro (And.intro @aeL @aeM) (And.intro @aeN @Ox)) (And.intro (And.intro @aaA @Cj) (And.intro @Ee @List.mapM_cons.{0,0,0}))))) (And.intro (And.intro (And.intro (And.intro (And.intro @SK @St.jH.eq_1) (And.intro @St.jH.eq_2 @St.snap.eq_1)) (And.intro (And.intro @St.snap.eq_2 @St.snap.eq_3) (And.intro @St.snap.eq_4 @St.snap.eq_5))) (And.intro (And.intro (And.intro @St.snap.eq_6 @SL) (And.intro @XB @SN)) (And.intro (And.intro @XC @aa7) (And.intro @X9 @aa8)))) (And.intro (And.intro (And.intro (And.intro @Ya @Yb) (And.intro @St.layAll.eq_1 @St.layAll.eq_2)) (And.intro (And.intro @St.lay.eq_1 @St.lay.eq_2) (And.intro @St.lay.eq_3 @JH))) (And.intro (And.intro (And.intro @OJ @St.bT.eq_1) (And.intro @St.bI.eq_1 @St.bI.eq_2)) (And.intro (And.intro @St.bI.eq_3 @St.bI.eq_4) (And.intro @St.bI.eq_5 @St.bI.eq_6)))))))))
def abV:=(And.intro (And.intro (And.intro (And.intro @List.isEmpty_nil.{0} (And.intro @aee @QN)) (And.intro @GY (And.intro @WI @WJ))) (And.intro (And.intro @QM (And.intro @Int.le_refl @y8)) (And.intro @Nat.le_refl (And.intro @St.bH.eq_1 @BV.frozen.eq_1)))) (And.intro (And.intro (And.intro @BV.frozen.eq_2 (And.intro @List.take_length.{0} @List.take_append_drop.{0})) (And.intro @aH (And.intro @Int.toNat_zero @true_and))) (And.intro (And.intro @and_true (And.intro @and_self @eq_self.{1})) (And.intro @qL (And.intro @List.drop_nil.{0} @List.take_nil.{0})))))
def bg:=(And.intro (And.intro @Nat.zero_le (And.intro @List.take_zero.{0} @List.take_nil.{0})) (And.intro (And.intro @List.take_succ_cons.{0} @List.length_cons.{0}) (And.intro @List.length_nil.{0} @Nat.le_refl)))
def bV:=And.intro @abV @ES
end Go.Proofs.YtpcncggjmabnaaaGreatDoor

namespace Go.Proofs.YtpcncggjmabnaaaGreatDoor.V
theorem Ud:lY xC=[.int .u8 0,.int .u8 0,.int .u8 0,.int .u8 0,.int .u8 0,.int .u8 0,.int .u8 0,.int .u8 0]:=rfl
theorem ET:∀ a b:List UInt8,a.length=b.length→jC (a.map fun b=>.int .u8 (b.toNat:Int)) (b.map fun b=>.int .u8 (b.toNat:Int))=some (decide (a=b))
 |[],[],_=>rfl
 |x :: a,y :: b,h=>by
  simp only [List.length_cons,Nat.add_right_cancel_iff] at h
  simp only [List.map_cons,jC,if_pos,ET a b h,Option.map_some,List.cons.injEq]
  congr 1
  have:((x.toNat:Int)==(y.toNat:Int))=decide (x=y):=by
   by_cases e:x=y
   ·subst e;simp
   ·have:¬ x.toNat=y.toNat:=fun h=>e (UInt8.toNat_inj.1 h)
    simp [e];omega
  rw [this,Bool.decide_and]
 |[],_ :: _,h=>by simp at h
 |_ :: _,[],h=>by simp at h
theorem PK (a b:fV):jC (lY a) (lY b)=some (decide (a=b)):=by
 unfold lY
 rw [ET _ _ (by simp)]
 congr 1
 apply decide_eq_decide.2
 exact ⟨fun h=>Vector.toList_inj.1 h,fun h=>by rw [h]⟩
end Go.Proofs.YtpcncggjmabnaaaGreatDoor.V

namespace Go.Proofs.YtpcncggjmabnaaaGreatDoor.V
def afI {α:Type} (p:α→Bool) (l:List α):Int:=if l.any p then (l.findIdx p:Int) else -1
theorem PL {α:Type} (p:α→Bool) (l:List α):decide (afI p l ≥ 0)=l.any p:=by
 unfold afI
 cases l.any p
 ·rfl
 ·simp only [if_true];exact decide_eq_true (by omega)
def eqF {α β:Type} (eq:α→β→Bool) (l:List α) (m:List β):Bool:=decide (l.length=m.length)&&(l.zip m).all fun q=>eq q.1 q.2
--+
theorem afJ {α:Type} {enc:α→PV} {l:List α} {p:α→Bool} {gf:Nat} {caps:List PV} (hp:∀ x∈l,cal env gf (enc x :: caps)=some [(.bool (p x),false)]) (hs:∀ x,part (enc x).cells 0 none=some (enc x)) (hl:l.length≤lim)
  {st:St} (h:st.head [0,1,7,8] st.boxes.length=some ⟨[.pv (.list 1 (l.map enc)),.pv (.func gf caps),.any,.any,.any,.any,.any,.pv (.int .i64 l.length),.pv (.int .i64 (0:Nat)),.any,.any,.any,.any,.any,.any,.any,.any,.any,.any],[],[],none⟩) :
  den env ED st=if l.any p then some (.ret,⟨[.any,.any,.any,.any,.pv (.int .i64 (l.findIdx p)),.any,.any,.any,.any,.any,.any,.any,.any,.any,.any,.any,.any,.any,.any],[],[],none⟩) else some (.normal,⟨[.any,.any,.any,.any,.any,.any,.any,.any,.any,.any,.any,.any,.any,.any,.any,.any,.any,.any,.any],[],[],none⟩):=by
 unfold ED
 rw [bC l.length (fun i=>⟨[.pv (.list 1 (l.map enc)),.pv (.func gf caps),.any,.any,.any,.any,.any,.pv (.int .i64 l.length),.pv (.int .i64 i),.any,.any,.any,.any,.any,.any,.any,.any,.any,.any],[],[],none⟩)
  (fun i=>if (l.drop i).any p then some (.ret,⟨[.any,.any,.any,.any,.pv (.int .i64 ((i+(l.drop i).findIdx p:Nat):Int)),.any,.any,.any,.any,.any,.any,.any,.any,.any,.any,.any,.any,.any,.any],[],[],none⟩) else some (.normal,⟨[.any,.any,.any,.any,.any,.any,.any,.any,.any,.any,.any,.any,.any,.any,.any,.any,.any,.any,.any],[],[],none⟩)) h (fun _=>rfl) (fun _=>rfl) ?_ ?_]
 ·simp only [List.drop_zero,Nat.zero_add]
 ·intro i rb hi ih
  have hi1:=bG hi hl
  have F1:((i:Int)<(l.length:Int))=True:=eq_true (by omega)
  simp only [EC,F1,List.length_map,aj hi,List.getElem?_map,List.getElem?_eq_getElem hi,hp _ (List.getElem_mem hi),hs,ES,reduceCtorEq,Nat.reduceEqDiff,Nat.reduceAdd,Nat.reduceLT,Nat.reduceLeDiff,Nat.beq]
  (try simp only [fB,gu,fC]);refine dU (fun hb=>?_) (fun hb=>?_)<;>try simp only [hb,bV,reduceCtorEq,Nat.reduceEqDiff,Nat.reduceAdd,Nat.reduceLT,Nat.reduceLeDiff,Nat.beq]
  ·rw [List.drop_eq_getElem_cons hi]
   simp only [List.any_cons,hb,Bool.true_or,if_true,List.findIdx_cons,cond_true,Nat.add_zero]
   rfl
  ·rw [ih _ (by simp only [hi1];rfl),List.drop_eq_getElem_cons hi]
   simp only [List.any_cons,hb,Bool.false_or,List.findIdx_cons,cond_false,Nat.add_assoc,Nat.add_comm 1]
 ·intro rb
  simp only [EC,Int.lt_irrefl,ES,reduceCtorEq,Nat.reduceEqDiff,Nat.reduceAdd,Nat.reduceLT,Nat.reduceLeDiff,Nat.beq]
  simp only [List.drop_length,List.any_nil,Bool.false_eq_true,if_false]
  rfl
theorem aiW {α:Type} {enc:α→PV} {l:List α} {p:α→Bool} {gf:Nat} {caps:List PV} (hp:∀ x∈l,cal env gf (enc x :: caps)=some [(.bool (p x),false)]) (hs:∀ x,part (enc x).cells 0 none=some (enc x)) (hl:l.length≤lim) :
  cal env 119 [.list 1 (l.map enc),.func gf caps]=some [(.int .i64 (afI p l),false)]:=by
 rw [ah aiL rfl];simp only [Pg];simp only [start,aQ,aV,aO,aU,aH,aJ,aP,aS,Nat.reduceAdd,Nat.reduceSub]
 simp only [List.length_map,ES,reduceCtorEq,Nat.reduceEqDiff,Nat.reduceAdd,Nat.reduceLT,Nat.reduceLeDiff,Nat.beq]
 rw [afJ hp hs hl]
 rotate_left
 ·rfl
 ·simp only [afI]
  split<;>simp only [ES,reduceCtorEq,Nat.reduceEqDiff,Nat.reduceAdd,Nat.reduceLT,Nat.reduceLeDiff,Nat.beq]
--+
theorem abW {α:Type} {enc:α→PV} {l:List α} {p:α→Bool} {gf:Nat} {caps:List PV} (hp:∀ x∈l,cal env gf (enc x :: caps)=some [(.bool (p x),false)]) (hs:∀ x,part (enc x).cells 0 none=some (enc x)) (hl:l.length≤lim) :
  cal env 101 [.list 1 (l.map enc),.func gf caps]=some [(.bool (l.any p),false)]:=by
 rw [ah aix rfl];simp only [OU];simp only [start,aQ,aV,aO,aU,aH,aJ,aP,aS,Nat.reduceAdd,Nat.reduceSub]
 simp only [aiW hp hs hl,PL,ES,reduceCtorEq,Nat.reduceEqDiff,Nat.reduceAdd,Nat.reduceLT,Nat.reduceLeDiff,Nat.beq]
--+
end Go.Proofs.YtpcncggjmabnaaaGreatDoor.V

namespace Go.Proofs.YtpcncggjmabnaaaGreatDoor.V
def aN (l:List Int):Int:=if l.length<1∨8<l.length then 6 else if l.any (fun n=>decide (n<1) || decide (n > 4096)) then 2 else 0
def aA (im:ig):List Int:=im.map fun v=>(v.length:Int)
def dH (im:ig):Int:=aN (aA im)
def aT (im:ig) (w:bK):Int :=
 if w.volume<0∨(im.length:Int)≤w.volume then 7 else if w.data.length=0 then 1
 else if w.start<0∨((im.getD w.volume.toNat []).length:Int) - w.data.length<w.start then 2 else 0
def nS (im:ig) (w:bK):Int:=if dH im≠0 then dH im else aT im w
def aC (l:List Int):ig:=l.map fun n=>List.replicate n.toNat xC
theorem ru {α β:Type} (f:α→β) {l:List α} {i:Nat} (h:i<l.length):(l.take i).map f++[f l[i]]=(l.take (i+1)).map f:=by
 rw [List.take_succ,List.getElem?_eq_getElem h,List.map_append];rfl
theorem aiX {α:Type} {enc:α→PV} {l:List α} {g:α→List fV} {gf:Nat} {caps:List PV} (hp:∀ x∈l,cal env gf (enc x :: caps)=some [(bf (g x),true)]) (hs:∀ x,part (enc x).cells 0 none=some (enc x)) (hs3:∀ x,(enc x).cells.length=1) (hl:l.length≤lim)
  {st:St} (h:st.head [0,1,5,10,11,12,13,22] st.boxes.length=some ⟨[.pv (.list 1 (l.map enc)),.pv (.func gf caps),.any,.any,.any,.row 1 [],.any,.any,.any,.any,.any,.pv (.list 1 (l.map enc)),.pv (.int .i64 l.length),.pv (.int .i64 (0:Nat)),.any,.any,.any,.any,.any,.any,.any,.any,.any,.any,.any],[],[],none⟩) :
  den env KI st=some (.normal,⟨[.any,.any,.any,.any,.any,.row 1 (l.map fun x=>bf (g x)),.any,.any,.any,.any,.any,.any,.any,.any,.any,.any,.any,.any,.any,.any,.any,.any,.any,.any,.any],[],[],none⟩):=by
 unfold KI
 rw [bC l.length (fun i=>⟨[.pv (.list 1 (l.map enc)),.pv (.func gf caps),.any,.any,.any,.row 1 ((l.take i).map fun x=>bf (g x)),.any,.any,.any,.any,.any,.pv (.list 1 (l.map enc)),.pv (.int .i64 l.length),.pv (.int .i64 i),.any,.any,.any,.any,.any,.any,.any,.any,.any,.any,.any],[],[],none⟩)
  (fun i=>some (.normal,⟨[.any,.any,.any,.any,.any,.row 1 (l.map fun x=>bf (g x)),.any,.any,.any,.any,.any,.any,.any,.any,.any,.any,.any,.any,.any,.any,.any,.any,.any,.any,.any],[],[],none⟩)) h (fun _=>rfl) (fun _=>rfl) ?_ ?_]
 ·intro i rb hi ih
  have hi1:=bG hi hl
  have F1:((i:Int)<(l.length:Int))=True:=eq_true (by omega)
  have F2:((l.take i).length+1≤lim)=True:=eq_true (by rw [List.length_take];omega)
  have hpi:cal env gf (enc l[i] :: caps)=some [((PV.list 8 ((g l[i]).map iJ)),true)]:=hp _ (List.getElem_mem hi)
  try simp only [dw] at hpi
  simp only [KH,F1,F2,aj hi,List.getElem?_map,List.getElem?_eq_getElem hi,hpi,hs,hs3,bV,reduceCtorEq,Nat.reduceEqDiff,Nat.reduceAdd,Nat.reduceLT,Nat.reduceLeDiff,Nat.beq]
  rw [ih _ (by simp only [hi1];rw [← ru _ hi];rfl)]
 ·intro rb
  simp only [KH,Int.lt_irrefl,ES,reduceCtorEq,Nat.reduceEqDiff,Nat.reduceAdd,Nat.reduceLT,Nat.reduceLeDiff,Nat.beq]
  rw [List.take_length]
  rfl
theorem alP {α:Type} {enc:α→PV} {l:List α} {g:α→List fV} {gf:Nat} {caps:List PV} (hp:∀ x∈l,cal env gf (enc x :: caps)=some [(bf (g x),true)]) (hs:∀ x,part (enc x).cells 0 none=some (enc x)) (hs3:∀ x,(enc x).cells.length=1) (hl:l.length≤lim) :
  cal env 69 [.list 1 (l.map enc),.func gf caps]=some [(.list 1 (l.map fun x=>bf (g x)),true)]:=by
 rw [ah alC rfl];simp only [abz];simp only [start,aQ,aV,aO,aU,aH,aJ,aP,aS,Nat.reduceAdd,Nat.reduceSub]
 have F1:((l.length:Int)≤(lim:Int))=True:=eq_true (by omega)
 have F2:((0:Int)≤(l.length:Int))=True:=eq_true (by omega)
 simp only [F1,F2,Int.le_refl,bV,reduceCtorEq,Nat.reduceEqDiff,Nat.reduceAdd,Nat.reduceLT,Nat.reduceLeDiff,Nat.beq]
 rw [aiX hp hs hs3 hl]
 rotate_left
 ·rfl
 ·simp only [bV,reduceCtorEq,Nat.reduceEqDiff,Nat.reduceAdd,Nat.reduceLT,Nat.reduceLeDiff,Nat.beq]
--+
theorem afK {α:Type} {enc:α→PV} {l:List α} {g:α→Int} {gf:Nat} {caps:List PV} (hp:∀ x∈l,cal env gf (enc x :: caps)=some [(eI (g x),false)]) (hs:∀ x,part (enc x).cells 0 none=some (enc x)) (hs3:∀ x,(enc x).cells.length=1) (hl:l.length≤lim)
  {st:St} (h:st.head [0,1,5,10,11,12,13,22] st.boxes.length=some ⟨[.pv (.list 1 (l.map enc)),.pv (.func gf caps),.any,.any,.any,.row 1 [],.any,.any,.any,.any,.any,.pv (.list 1 (l.map enc)),.pv (.int .i64 l.length),.pv (.int .i64 (0:Nat)),.any,.any,.any,.any,.any,.any,.any,.any,.any,.any,.any],[],[],none⟩) :
  den env Ey st=some (.normal,⟨[.any,.any,.any,.any,.any,.row 1 (l.map fun x=>eI (g x)),.any,.any,.any,.any,.any,.any,.any,.any,.any,.any,.any,.any,.any,.any,.any,.any,.any,.any,.any],[],[],none⟩):=by
 unfold Ey
 rw [bC l.length (fun i=>⟨[.pv (.list 1 (l.map enc)),.pv (.func gf caps),.any,.any,.any,.row 1 ((l.take i).map fun x=>eI (g x)),.any,.any,.any,.any,.any,.pv (.list 1 (l.map enc)),.pv (.int .i64 l.length),.pv (.int .i64 i),.any,.any,.any,.any,.any,.any,.any,.any,.any,.any,.any],[],[],none⟩)
  (fun i=>some (.normal,⟨[.any,.any,.any,.any,.any,.row 1 (l.map fun x=>eI (g x)),.any,.any,.any,.any,.any,.any,.any,.any,.any,.any,.any,.any,.any,.any,.any,.any,.any,.any,.any],[],[],none⟩)) h (fun _=>rfl) (fun _=>rfl) ?_ ?_]
 ·intro i rb hi ih
  have hi1:=bG hi hl
  have F1:((i:Int)<(l.length:Int))=True:=eq_true (by omega)
  have F2:((l.take i).length+1≤lim)=True:=eq_true (by rw [List.length_take];omega)
  have hpi:cal env gf (enc l[i] :: caps)=some [((PV.int .i64 (g l[i])),false)]:=hp _ (List.getElem_mem hi)
  try simp only [dw] at hpi
  simp only [Ew,F1,F2,aj hi,List.getElem?_map,List.getElem?_eq_getElem hi,hpi,hs,hs3,bV,reduceCtorEq,Nat.reduceEqDiff,Nat.reduceAdd,Nat.reduceLT,Nat.reduceLeDiff,Nat.beq]
  rw [ih _ (by simp only [hi1];rw [← ru _ hi];rfl)]
 ·intro rb
  simp only [Ew,Int.lt_irrefl,ES,reduceCtorEq,Nat.reduceEqDiff,Nat.reduceAdd,Nat.reduceLT,Nat.reduceLeDiff,Nat.beq]
  rw [List.take_length]
  rfl
theorem aiY {α:Type} {enc:α→PV} {l:List α} {g:α→Int} {gf:Nat} {caps:List PV} (hp:∀ x∈l,cal env gf (enc x :: caps)=some [(eI (g x),false)]) (hs:∀ x,part (enc x).cells 0 none=some (enc x)) (hs3:∀ x,(enc x).cells.length=1) (hl:l.length≤lim) :
  cal env 112 [.list 1 (l.map enc),.func gf caps]=some [(.list 1 (l.map fun x=>eI (g x)),true)]:=by
 rw [ah aiG rfl];simp only [O6];simp only [start,aQ,aV,aO,aU,aH,aJ,aP,aS,Nat.reduceAdd,Nat.reduceSub]
 have F1:((l.length:Int)≤(lim:Int))=True:=eq_true (by omega)
 have F2:((0:Int)≤(l.length:Int))=True:=eq_true (by omega)
 simp only [F1,F2,Int.le_refl,bV,reduceCtorEq,Nat.reduceEqDiff,Nat.reduceAdd,Nat.reduceLT,Nat.reduceLeDiff,Nat.beq]
 rw [afK hp hs hs3 hl]
 rotate_left
 ·rfl
 ·simp only [bV,reduceCtorEq,Nat.reduceEqDiff,Nat.reduceAdd,Nat.reduceLT,Nat.reduceLeDiff,Nat.beq]
theorem aiZ {x:Int}:cal env 102 [eI x]=some [(.bool (decide (x<1) || decide (x > 4096)),false)]:=by
 unfold eI
 rw [ah aiy rfl];simp only [OV];simp only [start,aQ,aV,aO,aU,aH,aJ,aP,aS,Nat.reduceAdd,Nat.reduceSub]
 simp only [bV,reduceCtorEq,Nat.reduceEqDiff,Nat.reduceAdd,Nat.reduceLT,Nat.reduceLeDiff,Nat.beq]
 (try simp only [fB,gu,fC]);refine dU (fun hb=>?_) (fun hb=>?_)<;>try simp only [hb,bV,reduceCtorEq,Nat.reduceEqDiff,Nat.reduceAdd,Nat.reduceLT,Nat.reduceLeDiff,Nat.beq]
theorem ahm {l:List Int} (hl:l.length≤lim):cal env 68 [.list 1 (l.map eI)]=some [(.int .i64 (aN l),false)]:=by
 have e1:=abW (l:=l) (enc:=eI) (fun x _=>aiZ (x:=x)) (fun x=>rfl) hl
 rw [ah alB rfl];simp only [aby];simp only [start,aQ,aV,aO,aU,aH,aJ,aP,aS,Nat.reduceAdd,Nat.reduceSub]
 simp only [e1,bV,reduceCtorEq,Nat.reduceEqDiff,Nat.reduceAdd,Nat.reduceLT,Nat.reduceLeDiff,Nat.beq]
 repeat' ((try simp only [fB,gu,fC]);refine dU (fun hb=>?_) (fun hb=>?_)<;>try simp only [hb,e1,bV,reduceCtorEq,Nat.reduceEqDiff,Nat.reduceAdd,Nat.reduceLT,Nat.reduceLeDiff,Nat.beq])
 all_goals grind [aN]
theorem ai0 {v:List fV}:cal env 113 [bf v]=some [(eI v.length,false)]:=by
 unfold bf eI
 rw [ah aiH rfl];simp only [O7];simp only [start,aQ,aV,aO,aU,aH,aJ,aP,aS,Nat.reduceAdd,Nat.reduceSub]
 simp only [bV,reduceCtorEq,Nat.reduceEqDiff,Nat.reduceAdd,Nat.reduceLT,Nat.reduceLeDiff,Nat.beq]
theorem alQ {im:ig} (hl:im.length≤lim):cal env 94 [.list 1 (im.map bf)]=some [(.list 1 ((aA im).map eI),true)]:=by
 have e1:=aiY (enc:=bf) (l:=im) (fun x _=>ai0 (v:=x)) (fun x=>rfl) (fun x=>rfl) hl
 rw [ah alK rfl];simp only [abG];simp only [start,aQ,aV,aO,aU,aH,aJ,aP,aS,Nat.reduceAdd,Nat.reduceSub]
 simp only [e1,bV,reduceCtorEq,Nat.reduceEqDiff,Nat.reduceAdd,Nat.reduceLT,Nat.reduceLeDiff,Nat.beq]
 simp [aA]
theorem abX {im:ig} (hl:im.length≤lim):cal env 53 [.list 1 (im.map bf)]=some [(.int .i64 (dH im),false)]:=by
 have h2:(aA im).length≤lim:=by simpa [aA] using hl
 have e1:=alQ hl
 have e2:=ahm h2
 rw [ah alr rfl];simp only [abp];simp only [start,aQ,aV,aO,aU,aH,aJ,aP,aS,Nat.reduceAdd,Nat.reduceSub]
 simp only [e1,e2,bV,reduceCtorEq,Nat.reduceEqDiff,Nat.reduceAdd,Nat.reduceLT,Nat.reduceLeDiff,Nat.beq]
 rfl
theorem alR {n:Int} (h0:0≤n) (h1:n≤4096):cal env 70 [eI n]=some [(bf (List.replicate n.toNat xC),true)]:=by
 unfold eI bf
 rw [ah alD rfl];simp only [abA];simp only [start,aQ,aV,aO,aU,aH,aJ,aP,aS,Nat.reduceAdd,Nat.reduceSub]
 have F1:(n≤(lim:Int))=True:=eq_true (by simp [lim];omega)
 simp only [F1,h0,← Ud,oW,bV,reduceCtorEq,Nat.reduceEqDiff,Nat.reduceAdd,Nat.reduceLT,Nat.reduceLeDiff,Nat.beq]
 simp only [List.map_replicate]
 rfl
theorem VD {l:List Int} (hl:l.length≤lim):cal env 38 [.list 1 (l.map eI)]=some [(.list 1 ((if aN l=0 then aC l else []).map bf),true),(.int .i64 (aN l),false)]:=by
 have e0:=ahm hl
 by_cases h:aN l=0
 ·have hs:∀ x∈l,1≤x∧x≤4096:=by
   intro x hx
   unfold aN at h
   split at h
   ·omega
   ·split at h
    ·omega
    ·rename_i h2
     simp only [List.any_eq_true,not_exists,not_and,Bool.not_eq_true] at h2
     have:=h2 x hx
     simp at this
     omega
  have e1:=alP (enc:=eI) (g:=fun n=>List.replicate n.toNat xC) (l:=l) (fun x hx=>alR (n:=x) (by have:=hs x hx;omega) (by have:=hs x hx;omega)) (fun x=>rfl) (fun x=>rfl) hl
  rw [ah ahe rfl];simp only [Ym];simp only [start,aQ,aV,aO,aU,aH,aJ,aP,aS,Nat.reduceAdd,Nat.reduceSub]
  simp only [e0,e1,bV,reduceCtorEq,Nat.reduceEqDiff,Nat.reduceAdd,Nat.reduceLT,Nat.reduceLeDiff,Nat.beq]
  (try simp only [fB,gu,fC]);refine dU (fun hb=>?_) (fun hb=>?_)<;>try simp only [hb,e0,e1,bV,reduceCtorEq,Nat.reduceEqDiff,Nat.reduceAdd,Nat.reduceLT,Nat.reduceLeDiff,Nat.beq]
  ·simp [aC,h]
  ·simp at hb;omega
 ·have e1:=e0
  rw [ah ahe rfl];simp only [Ym];simp only [start,aQ,aV,aO,aU,aH,aJ,aP,aS,Nat.reduceAdd,Nat.reduceSub]
  simp only [e0,e1,bV,reduceCtorEq,Nat.reduceEqDiff,Nat.reduceAdd,Nat.reduceLT,Nat.reduceLeDiff,Nat.beq]
  (try simp only [fB,gu,fC]);refine dU (fun hb=>?_) (fun hb=>?_)<;>try simp only [hb,e0,e1,bV,reduceCtorEq,Nat.reduceEqDiff,Nat.reduceAdd,Nat.reduceLT,Nat.reduceLeDiff,Nat.beq]
  ·simp at hb;omega
  ·simp [h]
end Go.Proofs.YtpcncggjmabnaaaGreatDoor.V

namespace Go.Proofs.YtpcncggjmabnaaaGreatDoor.V
theorem ai1 {l:List Int} (hl:l.length≤lim) {st:St} (h:st.head [0,3] st.boxes.length=some ⟨[.pv (.list 1 (l.map eI)),.any,.any,.pv (.int .i64 (0:Nat)),.any,.any,.any,.any,.any,.any,.any,.any,.any,.any,.any,.any,.any,.any,.any,.any,.any,.any,.any,.any,.any,.any,.any,.any,.any,.any],[],[],none⟩) :
  den env Kv st=if l.any (fun n=>decide (n<1) || decide (n > 4096)) then some (.ret,⟨[.any,.any,.pv (.int .i64 2),.any,.any,.any,.any,.any,.any,.any,.any,.any,.any,.any,.any,.any,.any,.any,.any,.any,.any,.any,.any,.any,.any,.any,.any,.any,.any,.any],[],[],none⟩) else some (.normal,⟨[.any,.any,.any,.any,.any,.any,.any,.any,.any,.any,.any,.any,.any,.any,.any,.any,.any,.any,.any,.any,.any,.any,.any,.any,.any,.any,.any,.any,.any,.any],[],[],none⟩):=by
 unfold Kv
 rw [ bC (env:=env) (l.length) (fun i=>⟨[.pv (.list 1 (l.map eI)),.any,.any,.pv (.int .i64 i),.any,.any,.any,.any,.any,.any,.any,.any,.any,.any,.any,.any,.any,.any,.any,.any,.any,.any,.any,.any,.any,.any,.any,.any,.any,.any],[],[],none⟩) (fun i=>if (l.drop i).any (fun n=>decide (n<1) || decide (n > 4096)) then some (.ret,⟨[.any,.any,.pv (.int .i64 2),.any,.any,.any,.any,.any,.any,.any,.any,.any,.any,.any,.any,.any,.any,.any,.any,.any,.any,.any,.any,.any,.any,.any,.any,.any,.any,.any],[],[],none⟩) else some (.normal,⟨[.any,.any,.any,.any,.any,.any,.any,.any,.any,.any,.any,.any,.any,.any,.any,.any,.any,.any,.any,.any,.any,.any,.any,.any,.any,.any,.any,.any,.any,.any],[],[],none⟩)) h (fun _=>rfl) (fun _=>rfl) ?_ ?_]
 ·first|rfl|simp only [List.drop_zero,List.take_zero,List.map_nil,Nat.zero_add,List.nil_append,List.foldl_nil]
 ·intro i rb hi ih
  have hi1:=bG hi hl;have F1:((i:Int)<(l.length:Int))=True:=eq_true (by omega)
  simp only [Ku,eI,F1,aj hi,List.getElem?_map,List.getElem?_eq_getElem hi,bV,reduceCtorEq,Nat.reduceEqDiff,Nat.reduceAdd,Nat.reduceLT,Nat.reduceLeDiff,Nat.beq]
  rw [List.drop_eq_getElem_cons hi]
  repeat' ((try simp only [fB,gu,fC]);refine dU (fun hb=>?_) (fun hb=>?_)<;>try simp only [hb,eI,aj hi,List.getElem?_map,List.getElem?_eq_getElem hi,bV,reduceCtorEq,Nat.reduceEqDiff,Nat.reduceAdd,Nat.reduceLT,Nat.reduceLeDiff,Nat.beq])
  ·rfl
  ·rfl
  ·rw [ih _ (by simp only [hi1];rfl)]
 ·intro rb
  simp only [Ku,Int.lt_irrefl,eI,bV,reduceCtorEq,Nat.reduceEqDiff,Nat.reduceAdd,Nat.reduceLT,Nat.reduceLeDiff,Nat.beq]
  rw [List.drop_length]
  rfl
theorem ahn {l:List Int} (hl:l.length≤lim):cal env 62 [.list 1 (l.map eI)]=some [(.int .i64 (aN l),false)]:=by
 rw [ah alx rfl];simp only [abu];simp only [start,aQ,aV,aO,aU,aH,aJ,aP,aS,Nat.reduceAdd,Nat.reduceSub]
 simp only [eI,bV,reduceCtorEq,Nat.reduceEqDiff,Nat.reduceAdd,Nat.reduceLT,Nat.reduceLeDiff,Nat.beq]
 repeat' ((try simp only [fB,gu,fC]);refine dU (fun hb=>?_) (fun hb=>?_)<;>try simp only [hb,eI,bV,reduceCtorEq,Nat.reduceEqDiff,Nat.reduceAdd,Nat.reduceLT,Nat.reduceLeDiff,Nat.beq])
 ·grind [aN]
 ·grind [aN]
 ·rw [ai1 hl]
  rotate_left
  ·rfl
  ·by_cases h:l.any (fun n=>decide (n<1) || decide (n > 4096))=true
   ·simp only [h,ES,reduceCtorEq,Nat.reduceEqDiff,Nat.reduceAdd,Nat.reduceLT,Nat.reduceLeDiff,Nat.beq]
    grind [aN]
   ·simp only [h,ES,reduceCtorEq,Nat.reduceEqDiff,Nat.reduceAdd,Nat.reduceLT,Nat.reduceLeDiff,Nat.beq]
    grind [aN]
theorem ai2 {im:ig} (hl:im.length≤lim) {st:St} (h:st.head [0,3,4,18] st.boxes.length=some ⟨[.pv (.list 1 (im.map bf)),.any,.any,.row 1 ((im.take (0:Nat)).map fun v=>eI (v.length:Int)),.pv (.int .i64 (0:Nat)),.any,.any,.any,.any,.any,.any,.any,.any,.any,.any,.any,.any,.any,.any,.any],[],[],none⟩) :
  den env KF st=some (.normal,⟨[.any,.any,.any,.row 1 (im.map fun v=>eI (v.length:Int)),.any,.any,.any,.any,.any,.any,.any,.any,.any,.any,.any,.any,.any,.any,.any,.any],[],[],none⟩):=by
 unfold KF
 refine bC (env:=env) (im.length) (fun i=>⟨[.pv (.list 1 (im.map bf)),.any,.any,.row 1 ((im.take i).map fun v=>eI (v.length:Int)),.pv (.int .i64 i),.any,.any,.any,.any,.any,.any,.any,.any,.any,.any,.any,.any,.any,.any,.any],[],[],none⟩) (fun i=>some (.normal,⟨[.any,.any,.any,.row 1 (im.map fun v=>eI (v.length:Int)),.any,.any,.any,.any,.any,.any,.any,.any,.any,.any,.any,.any,.any,.any,.any,.any],[],[],none⟩)) h (fun _=>rfl) (fun _=>rfl) ?_ ?_
 ·intro i rb hi ih
  have hi1:=bG hi hl
  have F1:((i:Int)<(im.length:Int))=True:=eq_true (by omega)
  have F2:((im.take i).length+1≤lim)=True:=eq_true (by rw [List.length_take];omega)
  simp only [KE,F1,F2,bf,aj hi,List.getElem?_map,List.getElem?_eq_getElem hi,bV,reduceCtorEq,Nat.reduceEqDiff,Nat.reduceAdd,Nat.reduceLT,Nat.reduceLeDiff,Nat.beq]
  rw [ih _ (by simp only [hi1];rw [← ru _ hi];rfl)]
 ·intro rb
  simp only [KE,Int.lt_irrefl,bV,reduceCtorEq,Nat.reduceEqDiff,Nat.reduceAdd,Nat.reduceLT,Nat.reduceLeDiff,Nat.beq]
  try rw [List.take_length]
  rfl
theorem aho {im:ig} (hl:im.length≤lim):cal env 66 [.list 1 (im.map bf)]=some [(.list 1 ((aA im).map eI),true)]:=by
 rw [ah alA rfl];simp only [abx];simp only [start,aQ,aV,aO,aU,aH,aJ,aP,aS,Nat.reduceAdd,Nat.reduceSub]
 simp only [bV,reduceCtorEq,Nat.reduceEqDiff,Nat.reduceAdd,Nat.reduceLT,Nat.reduceLeDiff,Nat.beq]
 rw [ai2 hl]
 rotate_left
 ·rfl
 ·simp only [bV,reduceCtorEq,Nat.reduceEqDiff,Nat.reduceAdd,Nat.reduceLT,Nat.reduceLeDiff,Nat.beq]
  simp [aA]
theorem alS {im:ig} (hl:im.length≤lim):cal env 57 [.list 1 (im.map bf)]=some [(.int .i64 (dH im),false)]:=by
 have h2:(aA im).length≤lim:=by simpa [aA] using hl
 have e1:=aho hl
 have e2:=ahn h2
 rw [ah alv rfl];simp only [abt];simp only [start,aQ,aV,aO,aU,aH,aJ,aP,aS,Nat.reduceAdd,Nat.reduceSub]
 simp only [e1,e2,bV,reduceCtorEq,Nat.reduceEqDiff,Nat.reduceAdd,Nat.reduceLT,Nat.reduceLeDiff,Nat.beq]
 rfl
theorem getD_get {α:Type} {l:List α} {i:Nat} {d:α} (h:i<l.length):l.getD i d=l[i]:=by simp [List.getD_eq_getElem?_getD,List.getElem?_eq_getElem h]
theorem ai3 {im:ig} {w:bK} (hl:im.length≤lim) (hr:∀ v∈im,v.length≤lim) (hd:w.data.length≤lim):cal env 118 [.list 1 (im.map bf),dQ w]=some [(.int .i64 (aT im w),false)]:=by
 obtain ⟨v,s,d⟩:=w
 simp only [dQ] at *
 by_cases h0:0≤v∧v<im.length
 ·have h1:=Iq (k:=.i64) h0.1 h0.2
  have h2:v.toNat<im.length:=by omega
  have h3:=List.getElem?_eq_getElem h2
  have h4:im[v.toNat].length≤lim:=hr _ (List.getElem_mem h2)
  have h5:IntKind.i64.wrap ((im[v.toNat].length:Int) - d.length)=im[v.toNat].length - d.length:=bn (by unfold lim at *;omega)
  rw [ah abS rfl];simp only [Iu];simp only [start,aQ,aV,aO,aU,aH,aJ,aP,aS,Nat.reduceAdd,Nat.reduceSub]
  simp only [h1,h3,h5,bf,List.getElem?_map,bV,reduceCtorEq,Nat.reduceEqDiff,Nat.reduceAdd,Nat.reduceLT,Nat.reduceLeDiff,Nat.beq]
  repeat' ((try simp only [fB,gu,fC]);refine dU (fun hb=>?_) (fun hb=>?_)<;>try simp only [hb,h1,h3,h5,bf,List.getElem?_map,bV,reduceCtorEq,Nat.reduceEqDiff,Nat.reduceAdd,Nat.reduceLT,Nat.reduceLeDiff,Nat.beq])
  all_goals clear h1 h3 h5
  all_goals simp only [aT,getD_get h2,decide_eq_true_eq,decide_eq_false_iff_not,beq_iff_eq,beq_eq_false_iff_ne,ne_eq,ge_iff_le,gt_iff_lt,Bool.and_eq_true,Bool.or_eq_true,Bool.not_eq_true',Bool.not_eq_false'] at *
  all_goals ((repeat' split)<;>first|rfl|(exfalso;omega))
 ·rw [ah abS rfl];simp only [Iu];simp only [start,aQ,aV,aO,aU,aH,aJ,aP,aS,Nat.reduceAdd,Nat.reduceSub]
  simp only [bf,List.getElem?_map,CV,bV,reduceCtorEq,Nat.reduceEqDiff,Nat.reduceAdd,Nat.reduceLT,Nat.reduceLeDiff,Nat.beq]
  repeat' ((try simp only [fB,gu,fC]);refine dU (fun hb=>?_) (fun hb=>?_)<;>try simp only [hb,bf,List.getElem?_map,CV,bV,reduceCtorEq,Nat.reduceEqDiff,Nat.reduceAdd,Nat.reduceLT,Nat.reduceLeDiff,Nat.beq])
  all_goals simp only [aT,decide_eq_true_eq,decide_eq_false_iff_not,beq_iff_eq,beq_eq_false_iff_ne,ne_eq,ge_iff_le,gt_iff_lt,Bool.and_eq_true,Bool.or_eq_true,Bool.not_eq_true',Bool.not_eq_false'] at *
  all_goals ((repeat' split)<;>first|rfl|(exfalso;omega))
theorem ahp {im:ig} {w:bK} (hl:im.length≤lim) (hr:∀ v∈im,v.length≤lim) (hd:w.data.length≤lim):cal env 65 [.list 1 ((aA im).map eI),dQ w]=some [(.int .i64 (aT im w),false)]:=by
 obtain ⟨v,s,d⟩:=w
 simp only [dQ,aA,List.map_map] at *
 by_cases h0:0≤v∧v<im.length
 ·have h1:=Iq (k:=.i64) h0.1 h0.2
  have h2:v.toNat<im.length:=by omega
  have h3:=List.getElem?_eq_getElem h2
  have h4:im[v.toNat].length≤lim:=hr _ (List.getElem_mem h2)
  by_cases h6:0≤s∧s<im[v.toNat].length
  ·have h5:IntKind.i64.wrap ((im[v.toNat].length:Int) - s)=im[v.toNat].length - s:=bn (by unfold lim at *;omega)
   rw [ah abP rfl];simp only [TY];simp only [start,aQ,aV,aO,aU,aH,aJ,aP,aS,Nat.reduceAdd,Nat.reduceSub]
   simp only [h1,h3,h5,eI,List.getElem?_map,Function.comp_apply,bV,reduceCtorEq,Nat.reduceEqDiff,Nat.reduceAdd,Nat.reduceLT,Nat.reduceLeDiff,Nat.beq]
   repeat' ((try simp only [fB,gu,fC]);refine dU (fun hb=>?_) (fun hb=>?_)<;>try simp only [hb,h1,h3,h5,eI,List.getElem?_map,Function.comp_apply,bV,reduceCtorEq,Nat.reduceEqDiff,Nat.reduceAdd,Nat.reduceLT,Nat.reduceLeDiff,Nat.beq])
   all_goals clear h1 h3 h5
   all_goals simp only [aT,getD_get h2,decide_eq_true_eq,decide_eq_false_iff_not,beq_iff_eq,beq_eq_false_iff_ne,ne_eq,ge_iff_le,gt_iff_lt,Bool.and_eq_true,Bool.or_eq_true,Bool.not_eq_true',Bool.not_eq_false'] at *
   all_goals ((repeat' split)<;>first|rfl|(exfalso;omega))
  ·--
   rw [ah abP rfl];simp only [TY];simp only [start,aQ,aV,aO,aU,aH,aJ,aP,aS,Nat.reduceAdd,Nat.reduceSub]
   simp only [h1,h3,eI,List.getElem?_map,Function.comp_apply,bV,reduceCtorEq,Nat.reduceEqDiff,Nat.reduceAdd,Nat.reduceLT,Nat.reduceLeDiff,Nat.beq]
   repeat' ((try simp only [fB,gu,fC]);refine dU (fun hb=>?_) (fun hb=>?_)<;>try simp only [hb,h1,h3,eI,List.getElem?_map,Function.comp_apply,bV,reduceCtorEq,Nat.reduceEqDiff,Nat.reduceAdd,Nat.reduceLT,Nat.reduceLeDiff,Nat.beq])
   all_goals clear h1 h3
   all_goals simp only [aT,getD_get h2,decide_eq_true_eq,decide_eq_false_iff_not,beq_iff_eq,beq_eq_false_iff_ne,ne_eq,ge_iff_le,gt_iff_lt,Bool.and_eq_true,Bool.or_eq_true,Bool.not_eq_true',Bool.not_eq_false'] at *
   all_goals first|(exfalso;omega)|((repeat' split)<;>first|rfl|(exfalso;omega))
 ·rw [ah abP rfl];simp only [TY];simp only [start,aQ,aV,aO,aU,aH,aJ,aP,aS,Nat.reduceAdd,Nat.reduceSub]
  simp only [eI,List.getElem?_map,CV,Function.comp_apply,bV,reduceCtorEq,Nat.reduceEqDiff,Nat.reduceAdd,Nat.reduceLT,Nat.reduceLeDiff,Nat.beq]
  repeat' ((try simp only [fB,gu,fC]);refine dU (fun hb=>?_) (fun hb=>?_)<;>try simp only [hb,eI,List.getElem?_map,CV,Function.comp_apply,bV,reduceCtorEq,Nat.reduceEqDiff,Nat.reduceAdd,Nat.reduceLT,Nat.reduceLeDiff,Nat.beq])
  all_goals simp only [aT,decide_eq_true_eq,decide_eq_false_iff_not,beq_iff_eq,beq_eq_false_iff_ne,ne_eq,ge_iff_le,gt_iff_lt,Bool.and_eq_true,Bool.or_eq_true,Bool.not_eq_true',Bool.not_eq_false'] at *
  all_goals first|(exfalso;omega)|((repeat' split)<;>first|rfl|(exfalso;omega))
theorem ai4 {im:ig} {w:bK} (hl:im.length≤lim) (hr:∀ v∈im,v.length≤lim) (hd:w.data.length≤lim):cal env 106 [.list 1 (im.map bf),dQ w]=some [(.int .i64 (nS im w),false)]:=by
 have e1:=abX hl
 have e2:=ai3 (w:=w) hl hr hd
 simp only [dQ] at *
 rw [ah aiC rfl];simp only [OZ];simp only [start,aQ,aV,aO,aU,aH,aJ,aP,aS,Nat.reduceAdd,Nat.reduceSub]
 simp only [e1,e2,bV,reduceCtorEq,Nat.reduceEqDiff,Nat.reduceAdd,Nat.reduceLT,Nat.reduceLeDiff,Nat.beq]
 repeat' ((try simp only [fB,gu,fC]);refine dU (fun hb=>?_) (fun hb=>?_)<;>try simp only [hb,e1,e2,bV,reduceCtorEq,Nat.reduceEqDiff,Nat.reduceAdd,Nat.reduceLT,Nat.reduceLeDiff,Nat.beq])
 all_goals simp only [nS,decide_eq_true_eq,decide_eq_false_iff_not,beq_iff_eq,beq_eq_false_iff_ne,ne_eq,ge_iff_le,gt_iff_lt,Bool.and_eq_true,Bool.or_eq_true,Bool.not_eq_true',Bool.not_eq_false'] at *
 all_goals ((repeat' split)<;>first|rfl|(exfalso;omega))
theorem abY {im:ig} {w:bK} (hl:im.length≤lim) (hr:∀ v∈im,v.length≤lim) (hd:w.data.length≤lim):cal env 33 [.list 1 (im.map bf),dQ w]=some [(.int .i64 (nS im w),false)]:=by
 have e0:=aho hl
 have e1:=alS hl
 have e2:=ahp (w:=w) hl hr hd
 simp only [dQ] at *
 rw [ah alj rfl];simp only [abj];simp only [start,aQ,aV,aO,aU,aH,aJ,aP,aS,Nat.reduceAdd,Nat.reduceSub]
 simp only [e0,e1,e2,bV,reduceCtorEq,Nat.reduceEqDiff,Nat.reduceAdd,Nat.reduceLT,Nat.reduceLeDiff,Nat.beq]
 repeat' ((try simp only [fB,gu,fC]);refine dU (fun hb=>?_) (fun hb=>?_)<;>try simp only [hb,e0,e1,e2,bV,reduceCtorEq,Nat.reduceEqDiff,Nat.reduceAdd,Nat.reduceLT,Nat.reduceLeDiff,Nat.beq])
 all_goals simp only [nS,decide_eq_true_eq,decide_eq_false_iff_not,beq_iff_eq,beq_eq_false_iff_ne,ne_eq,ge_iff_le,gt_iff_lt,Bool.and_eq_true,Bool.or_eq_true,Bool.not_eq_true',Bool.not_eq_false'] at *
 all_goals ((repeat' split)<;>first|rfl|(exfalso;omega))
end Go.Proofs.YtpcncggjmabnaaaGreatDoor.V

namespace Go.Proofs.YtpcncggjmabnaaaGreatDoor
noncomputable def iter (env:Env) (f:Nat) (caps:List PV) (stop:Option Nat):Option (List (List PV)):=jM (den env) env f caps stop
def Ue (n:Nat) (caps:List PV) (stop:Option Nat):St:=⟨.rF :: (caps.map .pv++List.replicate (n - (caps.length+1)) .any),[],[],some stop⟩
def ai5:Ex × St→Option (List (List PV))
 |(.exit _,_)=>none
 |(.oQ _ _,_)=>none
 |(_,st)=>some st.ys
section
variable {env:Env}
theorem PN (st:St):ai5 (.normal,st)=some st.ys:=(rfl)
theorem abZ (st:St):ai5 (.ret,st)=some st.ys:=(rfl)
theorem Iz {f:Nat} {fn:gy} {caps:List PV} {stop:Option Nat} (h:env f=some (.code fn)) (hl:caps.length+1=fn.nargs) (hr:fn.results.isEmpty=true):iter env f caps stop=(den env fn.body (Ue fn.ntmps caps stop)).bind ai5:=by
 unfold iter jM
 rw [h]
 simp only [if_pos (And.intro hl hr)]
 show (den env fn.body _).bind _=_
 congr 1
 funext ⟨e,st⟩
 cases e<;>rfl
noncomputable def EU (env:Env) (slots:List AV) (ps:List Nat) (assign body:ay) (nb:Nat) (x:List PV) (st:St):Option (Ex × St) :=
 (fK slots ps x).bind fun sl=>(den env assign { st with slots:=sl }).bind fun p=>match p with
  |(.normal,st)=>(den env body st).bind fun p=>match p with
   |(.normal,st)=>if nb≤st.boxes.length then some (.normal,{ st with boxes:=st.boxes.take nb }) else none
   |(.oQ _ _,_)=>none
   |p=>some p
  |_=>none
theorem PO {slots:List AV} {ps:List Nat} {assign body:ay} {nb k:Nat} {x:List PV} {xs:List (List PV)} {st:St} :
  rounds (den env) slots ps assign body nb k (x :: xs) st=(EU env slots ps assign body nb x st).bind fun p=>match p with
   |(.normal,st)=>rounds (den env) slots ps assign body nb (k+1) xs st
   |(e,st)=>some (some (e,k+1),st):=by
 conv=>lhs;unfold rounds
 unfold EU
 show (fK slots ps x).bind _=_
 cases fK slots ps x with
 |none=>rfl
 |some sl =>
  simp only [Option.bind_some]
  show (den env assign _).bind _=_
  cases den env assign { st with slots:=sl } with
  |none=>rfl
  |some p =>
   obtain ⟨e,s⟩:=p
   simp only [Option.bind_some]
   cases e with
   |normal =>
    simp only
    show (den env body _).bind _=_
    cases den env body s with
    |none=>rfl
    |some p =>
     obtain ⟨e,s⟩:=p
     simp only [Option.bind_some]
     cases e with
     |normal =>
      simp only
      split<;>rfl
     |exit i=>rfl
     |ret=>rfl
     |oQ t n=>rfl
   |exit i=>rfl
   |ret=>rfl
   |oQ t n=>rfl
theorem afL {g:bP} {ps:List Nat} {assign body:ay} {st st1:St} {f:Nat} {caps:List PV} {xs:List (List PV)} (hg:st.cZ g=some (.func f caps)) (hi:iter env f caps none=some xs)
  (hr:rounds (den env) (st.slots.map AV.froze) ps assign body st.boxes.length 0 xs { st with slots:=st.slots.map AV.froze }=some (none,st1)):den env (.rng g ps assign body) st=some (.normal,{ st1 with slots:=st.slots.map AV.froze }):=by
 rw [mJ]
 show ranged (den env) env g ps assign body st=_
 unfold ranged
 rw [hg]
 unfold iter at hi
 simp only [Ij,Option.bind_some,hi,hr]
theorem VE (B:Nat→List Box) {g:bP} {ps:List Nat} {assign body:ay} {st:St} {f:Nat} {caps:List PV} {xs:List (List PV)} (hg:st.cZ g=some (.func f caps)) (hi:iter env f caps none=some xs) (hB:st.boxes=B 0)
  (h:∀ j x,xs[j]?=some x→∀ sl0,∃ sl1,EU env (st.slots.map AV.froze) ps assign body st.boxes.length x ⟨sl0,B j,st.ys,st.stop⟩=some (.normal,⟨sl1,B (j+1),st.ys,st.stop⟩)) :
  den env (.rng g ps assign body) st=some (.normal,⟨st.slots.map AV.froze,B xs.length,st.ys,st.stop⟩):=by
 have key:∀ (l:List (List PV)) (j:Nat),xs.drop j=l→∀ (k:Nat) (sl0:List AV),∃ sl1,rounds (den env) (st.slots.map AV.froze) ps assign body st.boxes.length k l ⟨sl0,B j,st.ys,st.stop⟩=some (none,⟨sl1,B (j+l.length),st.ys,st.stop⟩):=by
  intro l
  induction l with
  |nil=>intro j _ k sl0;exact ⟨sl0,rfl⟩
  |cons x l ih =>
   intro j hj k sl0
   have hx:xs[j]?=some x:=by rw [← List.head?_drop,hj];rfl
   have hd:xs.drop (j+1)=l:=by rw [← List.drop_drop,hj];rfl
   obtain ⟨sl1,q⟩:=h j x hx sl0
   obtain ⟨sl2,q2⟩:=ih (j+1) hd (k+1) sl1
   refine ⟨sl2,?_⟩
   rw [PO,q]
   simp only [Option.bind_some,q2,List.length_cons]
   rw [show j+1+l.length=j+(l.length+1) by omega]
 obtain ⟨sl1,q⟩:=key xs 0 (by simp) 0 (st.slots.map AV.froze)
 rw [← hB,Nat.zero_add] at q
 have r:=afL hg hi q
 exact r
theorem Yv {keep post:List Nat} {id nb:Nat} {b:ay} (n:Nat) (P:Nat→Prop) (S:Nat→St) (R:Nat→Option (Ex × St)) {st:St} (h:st.head keep st.boxes.length=some (S 0)) (hP:P 0) (hS:∀ i,(S i).boxes.length=nb) (hh:∀ i,(S i).head keep nb=some (S i))
  (step:∀ i rb,i<n→P i→(P (i+1)→∀ s,s.head keep nb=some (S (i+1))→kJ env id post nb (den env rb s)=R (i+1))→kJ env id post nb ((den env b (S i)).bind (next env rb))=R i)
  (last:∀ rb,P n→kJ env id post nb ((den env b (S n)).bind (next env rb))=R n) :
  den env (.clean keep post (.block id (.loop keep b))) st=R 0:=by
 refine Ag S R (fun i=>i≤n∧P i) (fun i=>n - i) 0 h ⟨Nat.zero_le _,hP⟩ hS hh fun i rb hi ih=>?_
 by_cases hn:i=n
 ·subst hn;exact last rb hi.2
 ·exact step i rb (by omega) hi.2 fun hp s hs=>ih (i+1) (by omega) ⟨by omega,hp⟩ s hs
noncomputable def VF (env:Env) (body:ay) (nb:Nat):Ex × St→Option (Ex × St)
 |(.normal,st)=>(den env body st).bind fun p=>match p with
  |(.normal,st)=>if nb≤st.boxes.length then some (.normal,{ st with boxes:=st.boxes.take nb }) else none
  |(.oQ _ _,_)=>none
  |p=>some p
 |_=>none
def rend (nb:Nat):Ex × St→Option (Ex × St)
 |(.normal,st)=>if nb≤st.boxes.length then some (.normal,{ st with boxes:=st.boxes.take nb }) else none
 |(.oQ _ _,_)=>none
 |p=>some p
theorem Yw (slots:List AV) (ps:List Nat) (assign body:ay) (nb:Nat) (x:List PV) (st:St):EU env slots ps assign body nb x st=(fK slots ps x).bind fun sl=>(den env assign { st with slots:=sl }).bind (VF env body nb):=by
 unfold EU
 rfl
theorem EW (body:ay) (nb:Nat) (st:St):VF env body nb (.normal,st)=(den env body st).bind (rend nb):=by
 rfl
theorem PS (nb:Nat) (st:St):rend nb (.normal,st)=if nb≤st.boxes.length then some (.normal,{ st with boxes:=st.boxes.take nb }) else none:=(rfl)
theorem Yx (nb i:Nat) (st:St):rend nb (.exit i,st)=some (.exit i,st):=(rfl)
theorem ab1 (nb:Nat) (st:St):rend nb (.ret,st)=some (.ret,st):=(rfl)
theorem ab2 (slots:List AV):fK slots [] []=some slots:=(rfl)
theorem Yy (slots:List AV) (p:Nat) (ps:List Nat) (v:PV) (vs:List PV):fK slots (p :: ps) (v :: vs)=fK (slots.set p (.pv v)) ps vs:=(rfl)
theorem ab3 (v:PV):AV.froze (.pv v)=.pv v:=(rfl)
theorem Yz (sz:Nat) (es:List PV):AV.froze (.row sz es)=.pv (.list sz es):=(rfl)
theorem YA:AV.froze .any=.any:=(rfl)
theorem YB (k:Bool) (l:List AV):AV.froze (.kE k l)=.any:=(rfl)
theorem YC (r:Root) (i j:Nat):AV.froze (.ref r i j)=.any:=(rfl)
theorem YD (r:Root) (i j:Nat):AV.froze (.oK r i j)=.any:=(rfl)
theorem Uf (i j:Nat):AV.froze (.aF i j)=.aF i j:=(rfl)
theorem ab4 (f:Nat) (l:List AV):AV.froze (.fn f l)=.fn f l:=(rfl)
theorem YE:AV.froze .rF=.rF:=(rfl)
end
def PU:=And.intro @Yw (And.intro @EW (And.intro @PS (And.intro @Yx (And.intro @ab1 (And.intro @ab2 (And.intro @Yy (And.intro @ab3 (And.intro @Yz (And.intro @YA (And.intro @YB (And.intro @YC (And.intro @YD (And.intro @Uf (And.intro @ab4 (And.intro @YE (And.intro @PN @abZ))))))))))))))))
end Go.Proofs.YtpcncggjmabnaaaGreatDoor

namespace Go.Proofs.YtpcncggjmabnaaaGreatDoor.V
def rW (out:List fG) (i:Nat):List fG:=match out.getLast? with
 |some x=>if x.start+x.count=(i:Int) then out.dropLast++[⟨x.start,x.count+1⟩] else out++[⟨i,1⟩]
 |none=>[⟨i,1⟩]
def exts (l:List Nat):List fG:=l.foldl rW []
theorem fO (pre:List fG) (x:fG) (i:Nat):rW (pre++[x]) i=if x.start+x.count=(i:Int) then pre++[⟨x.start,x.count+1⟩] else pre++[x]++[⟨i,1⟩]:=by
 simp [rW]
theorem nT (l:List Nat) (i:Nat):exts (l++[i])=rW (exts l) i:=by simp [exts]
theorem iF {α:Type} (l:List α):l=[]∨∃ p x,l=p++[x]:=by
 rcases List.eq_nil_or_concat l with h|⟨p,x,h⟩
 ·exact .inl h
 ·exact .inr ⟨p,x,by rw [h];simp⟩
theorem wS:∀ (n:Nat) (l:List Nat),l.length=n→∀ i:Nat,∃ pre x,exts (l++[i])=pre++[x]∧x.start+x.count=(i:Int)+1∧0≤x.start∧1≤x.count∧pre.length≤l.length:=by
 intro n
 induction n with
 |zero =>
  intro l hl i
  have:=List.eq_nil_of_length_eq_zero hl
  subst this
  exact ⟨[],⟨i,1⟩,rfl,rfl,by simp,by simp,by simp⟩
 |succ n ih =>
  intro l hl i
  rcases iF l with rfl|⟨p,j,rfl⟩
  ·simp at hl
  ·obtain ⟨pre,x,e,h1,h2,h3,h4⟩:=ih p (by simpa using hl) j
   rw [nT,e,fO]
   split
   ·rename_i hx
    exact ⟨pre,_,rfl,by simp;omega,h2,by simp;omega,by simp;omega⟩
   ·exact ⟨pre++[x],_,rfl,by simp,by simp,by simp,by simp;omega⟩
theorem IB {n:Nat} (h:n≤lim):IntKind.i64.wrap (((n+1:Nat):Int) - 1)=(n:Int):=by
 rw [bn (by unfold lim at h;omega)];omega
def yI (l:List Nat):List (List PV):=l.map fun (i:Nat)=>[PV.int .i64 (i:Int)]
end Go.Proofs.YtpcncggjmabnaaaGreatDoor.V

namespace Go.Proofs.YtpcncggjmabnaaaGreatDoor.V
def ext (p:Nat→Bool) (n:Nat):List fG:=exts ((List.range n).filter p)
theorem PW (p:Nat→Bool):ext p 0=[]:=rfl
theorem oH (p:Nat→Bool) (n:Nat):ext p (n+1)=if p n then rW (ext p n) n else ext p n:=by
 unfold ext
 rw [List.range_succ,List.filter_append]
 cases h:p n
 ·simp [h]
 ·rw [List.filter_cons_of_pos h,List.filter_nil,nT];rfl
theorem afM {p:Nat→Bool} {n:Nat} (h:n=0∨p (n - 1)=false):rW (ext p n) n=ext p n++[⟨(n:Int),1⟩]:=by
 unfold ext
 rcases iF ((List.range n).filter p) with h0|⟨l,j,h0⟩
 ·rw [h0];rfl
 ·obtain ⟨pre,⟨s,c⟩,e0,h1,h2,h3,h4⟩:=wS _ l rfl j
  have hmem:j∈(List.range n).filter p:=by rw [h0];simp
  obtain ⟨q1,q2⟩:=List.mem_filter.1 hmem
  have hj:=List.mem_range.1 q1
  simp only at h1
  rw [h0,e0,fO,if_neg]
  intro hh
  simp only at hh
  have:j=n - 1:=by omega
  rcases h with h|h
  ·omega
  ·rw [← this,q2] at h;cases h
theorem pR {p:Nat→Bool} {a:Nat}:∀ k,(∀ s,a≤s→s<a+k→p s=false)→ext p (a+k)=ext p a
 |0,_=>rfl
 |k+1,h=>by
  rw [← Nat.add_assoc,oH,h (a+k) (by omega) (by omega),if_neg (by simp)]
  exact pR k fun s h1 h2=>h s h1 (by omega)
theorem EX {p:Nat→Bool} {a:Nat} {pre:List fG} {s0:Int} (h0:ext p a=pre++[⟨s0,a - s0⟩]):∀ k,(∀ s,a≤s→s<a+k→p s=true)→ext p (a+k)=pre++[⟨s0,((a+k:Nat):Int) - s0⟩]
 |0,_=>h0
 |k+1,h=>by
  rw [← Nat.add_assoc,oH,h (a+k) (by omega) (by omega),if_pos rfl,EX h0 k fun s h1 h2=>h s h1 (by omega),fO,if_pos (by simp only;omega)]
  congr 2
  simp only [fG.mk.injEq,true_and]
  omega
theorem YF {p:Nat→Bool} {a k:Nat} (hn:a=0∨p (a - 1)=false) (h:∀ s,a≤s→s<a+(k+1)→p s=true):ext p (a+(k+1))=ext p a++[⟨(a:Int),((a+(k+1):Nat):Int) - a⟩]:=by
 have h1:ext p (a+1)=ext p a++[⟨(a:Int),((a+1:Nat):Int) - a⟩]:=by
  rw [oH,h a (Nat.le_refl _) (by omega),if_pos rfl,afM hn]
  congr 2
  simp only [fG.mk.injEq,true_and]
  omega
 have:=EX (a:=a+1) h1 k fun s h2 h3=>h s (by omega) (by omega)
 rw [show a+(k+1)=a+1+k by omega]
 exact this
theorem YG {p q:Nat→Bool} {n:Nat} (h:∀ s,s<n→p s=q s):ext p n=ext q n:=by
 unfold ext
 rw [List.filter_congr fun s hs=>h s (List.mem_range.1 hs)]
def dep (i:Nat) (s:Nat):List End→Int
 |[]=>0
 |x :: l=>(if x.list=i∧x.pos≤s then x.step else 0)+dep i s l
def tot (i:Nat):List End→Int
 |[]=>0
 |x :: l=>(if x.list=i then x.step else 0)+tot i l
theorem wU (i s:Nat):∀ l m:List End,dep i s (l++m)=dep i s l+dep i s m
 |[],m=>by simp [dep]
 |x :: l,m=>by simp only [List.cons_append,dep,wU i s l m];omega
theorem VG {i s:Nat}:∀ {l:List End},(∀ x∈l,x.pos≤s)→dep i s l=tot i l
 |[],_=>rfl
 |x :: l,h=>by
  have h1:=h x (by simp)
  have ih:=VG (i:=i) (s:=s) (l:=l) fun y hy=>h y (by simp [hy])
  simp only [dep,tot,ih,h1,and_true]
theorem zx {i s:Nat}:∀ {l:List End},(∀ x∈l,s<x.pos)→dep i s l=0
 |[],_=>rfl
 |x :: l,h=>by
  have h1:=h x (by simp)
  have ih:=zx (i:=i) (s:=s) (l:=l) fun y hy=>h y (by simp [hy])
  simp only [dep,ih]
  rw [if_neg (by omega)];rfl
theorem zy (i:Nat):∀ l m:List End,tot i (l++m)=tot i l+tot i m
 |[],m=>by simp [tot]
 |x :: l,m=>by simp only [List.cons_append,tot,zy i l m];omega
def kK (keep:Bool→Bool→Bool) (l:List End) (s:Nat):Bool:=keep (decide (dep 0 s l > 0)) (decide (dep 1 s l > 0))
def jG (x:End):List End→Bool
 |[]=>false
 |y :: _=>decide (y.pos=x.pos)
def Aj (keep:Bool→Bool→Bool):List End→Int→Int→Int→Bool→List fG
 |[],_,_,_,_=>[]
 |x :: l,d0,d1,st,ins =>
  if jG x l then Aj keep l (if x.list=0 then d0+x.step else d0) (if x.list=1 then d1+x.step else d1) st ins
  else
   (if !keep (decide ((if x.list=0 then d0+x.step else d0) > 0)) (decide ((if x.list=1 then d1+x.step else d1) > 0))&&ins then [⟨st,x.pos - st⟩] else []) ++
   Aj keep l (if x.list=0 then d0+x.step else d0) (if x.list=1 then d1+x.step else d1)
    (if keep (decide ((if x.list=0 then d0+x.step else d0) > 0)) (decide ((if x.list=1 then d1+x.step else d1) > 0))&&!ins then x.pos else st)
    (keep (decide ((if x.list=0 then d0+x.step else d0) > 0)) (decide ((if x.list=1 then d1+x.step else d1) > 0)))
def Asc:List End→Prop
 |[]=>True
 |[_]=>True
 |x :: y :: l=>x.pos≤y.pos∧Asc (y :: l)
theorem Asc.tail {x:End} {l:List End} (h:Asc (x :: l)):Asc l:=by
 cases l with
 |nil=>trivial
 |cons y l=>exact h.2
theorem Asc.le {x:End}:∀ {l:List End},Asc (x :: l)→∀ y∈l,x.pos≤y.pos
 |[],_,y,hy=>by cases hy
 |z :: l,h,y,hy=>by
  rcases List.mem_cons.1 hy with rfl|hy
  ·exact h.1
  ·exact Nat.le_trans h.1 (Asc.le h.2 y hy)
def atStart (N:Nat):List End→Nat→Prop
 |[],a=>a=N
 |x :: _,a=>a=x.pos
theorem wV {keep:Bool→Bool→Bool} (hk:keep false false=false) {L:List End} {N:Nat} (hN:∀ x∈L,x.pos≤N) (h0:tot 0 L=0) (h1:tot 1 L=0) :
  ∀ (R P:List End) (out:List fG) (st:Int) (ins:Bool) (a:Nat),L=P++R→Asc R→(∀ x∈P,∀ y∈R,x.pos≤y.pos)→(∀ x∈P,x.pos≤a) →
   atStart N R a→ext (kK keep L) a=out++(if ins then [⟨st,a - st⟩] else [])→(a=0∨ins=true∨kK keep L (a - 1)=false)→(R=[]→ins=false)→(a=0→ins=false) →
   ext (kK keep L) N=out++Aj keep R (tot 0 P) (tot 1 P) st ins
 |[],P,out,st,ins,a,hL,_,_,_,ha,he,hi,hr,_=>by
  have ha:a=N:=ha
  rw [hr rfl] at he
  rw [ha] at he
  simpa [Aj] using he
 |x :: l,P,out,st,ins,a,hL,hs,hP,hPa,ha,he,hi,_,hz=>by
  have ha:a=x.pos:=ha
  subst ha
  have hL2:L=(P++[x])++l:=by rw [hL];simp
  have t0:tot 0 (P++[x])=(if x.list=0 then tot 0 P+x.step else tot 0 P):=by
   rw [zy];simp only [tot];split<;>omega
  have t1:tot 1 (P++[x])=(if x.list=1 then tot 1 P+x.step else tot 1 P):=by
   rw [zy];simp only [tot];split<;>omega
  have hP2:∀ z∈P++[x],∀ y∈l,z.pos≤y.pos:=by
   intro z hz y hy
   rcases List.mem_append.1 hz with hz|hz
   ·exact hP z hz y (by simp [hy])
   ·simp only [List.mem_singleton] at hz;rw [hz];exact hs.le y hy
  have hPx:∀ z∈P++[x],z.pos≤x.pos:=by
   intro z hz
   rcases List.mem_append.1 hz with hz|hz
   ·exact hP z hz x (by simp)
   ·simp only [List.mem_singleton] at hz;rw [hz];exact Nat.le_refl _
  unfold Aj
  rw [← t0,← t1]
  by_cases hn:jG x l=true
  ·rw [if_pos hn]
   cases l with
   |nil=>simp [jG] at hn
   |cons y l =>
    have hy:y.pos=x.pos:=by simpa [jG] using hn
    exact wV hk hN h0 h1 (y :: l) (P++[x]) out st ins x.pos hL2 hs.tail hP2 hPx hy.symm he hi (fun e=>by cases e) hz
  ·rw [if_neg hn]
   -- the next place
   obtain ⟨b,hb,hbl,hbx,hbm⟩:∃ b,x.pos≤b∧(∀ y∈l,b≤y.pos)∧(l≠[]→x.pos<b)∧atStart N l b:=by
    cases l with
    |nil=>exact ⟨N,hN x (by rw [hL];simp),fun y hy=>(by cases hy),fun h=>absurd rfl h,rfl⟩
    |cons y l =>
     have hy:y.pos≠x.pos:=by simpa [jG] using hn
     have:=hs.1
     exact ⟨y.pos,hs.1,fun z hz=>by
      rcases List.mem_cons.1 hz with rfl|hz
      ·exact Nat.le_refl _
      ·exact hs.tail.le z hz,fun _=>by omega,rfl⟩
   have hconst:∀ s,x.pos≤s→s<b→kK keep L s=keep (decide (tot 0 (P++[x]) > 0)) (decide (tot 1 (P++[x]) > 0)):=by
    intro s hs1 hs2
    unfold kK
    have e:∀ i,dep i s L=tot i (P++[x]):=by
     intro i
     rw [hL2,wU,VG (fun z hz=>by have:=hPx z hz;omega),zx (fun z hz=>by have:=hbl z hz;omega)]
     omega
    rw [e 0,e 1]
   have hlast:l=[]→keep (decide (tot 0 (P++[x]) > 0)) (decide (tot 1 (P++[x]) > 0))=false:=by
    intro hl
    have e0:tot 0 (P++[x])=0:=by rw [← h0,hL2,hl,List.append_nil]
    have e1:tot 1 (P++[x])=0:=by rw [← h1,hL2,hl,List.append_nil]
    rw [e0,e1]
    exact hk
   have hPb:∀ z∈P++[x],z.pos≤b:=fun z hz=>Nat.le_trans (hPx z hz) hb
   obtain ⟨k,rfl⟩:∃ k,b=x.pos+k:=⟨b - x.pos,by omega⟩
   generalize keep (decide (tot 0 (P++[x]) > 0)) (decide (tot 1 (P++[x]) > 0))=now at *
   have ahq:k≠0→kK keep L (x.pos+k - 1)=now:=fun hk0=>hconst _ (by omega) (by omega)
   cases now with
   |false =>
    have hf:=pR (p:=kK keep L) (a:=x.pos) k fun s q1 q2=>hconst s q1 q2
    cases ins with
    |false =>
     simp only [Bool.not_false,Bool.and_false,Bool.false_eq_true,if_false,List.nil_append,Bool.and_true,Bool.false_and,List.append_nil,if_true] at he ⊢
     refine wV hk hN h0 h1 l (P++[x]) out _ false (x.pos+k) hL2 hs.tail hP2 hPb hbm ?_ ?_ (fun _=>rfl) (fun _=>rfl)
     ·rw [hf,he];simp
     ·by_cases hk0:k=0
      ·subst hk0
       rcases hi with hi|hi|hi
       ·exact .inl hi
       ·cases hi
       ·exact .inr (.inr hi)
      ·exact .inr (.inr (ahq hk0))
    |true =>
     simp only [Bool.not_false,Bool.and_self,if_true,Bool.not_true,Bool.and_false,Bool.false_and,Bool.false_eq_true,if_false] at he ⊢
     rw [← List.append_assoc]
     by_cases hk0:k=0
     ·subst hk0
      have hl:l=[]:=by
       cases l with
       |nil=>rfl
       |cons y l=>have:=hbx (by simp);omega
      subst hl
      have hb2:x.pos+0=N:=hbm
      simp only [Aj,List.append_nil]
      rw [← hb2]
      exact he
     ·refine wV hk hN h0 h1 l (P++[x]) _ _ false (x.pos+k) hL2 hs.tail hP2 hPb hbm ?_ (.inr (.inr (ahq hk0))) (fun _=>rfl) (fun _=>rfl)
      rw [hf,he];simp
   |true =>
    have hl:l≠[]:=fun e=>by have:=hlast e;cases this
    have hk1:=hbx hl
    obtain ⟨j,rfl⟩:∃ j,k=j+1:=⟨k - 1,by omega⟩
    cases ins with
    |false =>
     simp only [Bool.not_true,Bool.false_and,Bool.false_eq_true,if_false,List.nil_append,Bool.not_false,Bool.and_self,if_true,List.append_nil] at he ⊢
     refine wV hk hN h0 h1 l (P++[x]) out _ true (x.pos+(j+1)) hL2 hs.tail hP2 hPb hbm ?_ (.inr (.inl rfl)) (fun e=>absurd e hl) (fun e=>by omega)
     have hi2:x.pos=0∨kK keep L (x.pos - 1)=false:=by
      rcases hi with hi|hi|hi
      ·exact .inl hi
      ·cases hi
      ·exact .inr hi
     rw [YF hi2 fun s q1 q2=>hconst s q1 q2,he]
     simp
    |true =>
     simp only [Bool.not_true,Bool.false_and,Bool.false_eq_true,if_false,List.nil_append,Bool.and_false,if_true] at he ⊢
     refine wV hk hN h0 h1 l (P++[x]) out st true (x.pos+(j+1)) hL2 hs.tail hP2 hPb hbm ?_ (.inr (.inl rfl)) (fun e=>absurd e hl) (fun e=>by omega)
     rw [EX he (j+1) fun s q1 q2=>hconst s q1 q2]
     simp
theorem ab5 {keep:Bool→Bool→Bool} (hk:keep false false=false) {L:List End} {N:Nat} (hs:Asc L) (hN:∀ x∈L,x.pos≤N) (h0:tot 0 L=0) (h1:tot 1 L=0) :
  Aj keep L 0 0 0 false=ext (kK keep L) N:=by
 cases L with
 |nil =>
  have:ext (kK keep ([]:List End)) (0+N)=ext (kK keep []) 0:=pR N fun s _ _=>hk
  rw [Nat.zero_add] at this
  rw [this];rfl
 |cons x l =>
  have hb:ext (kK keep (x :: l)) (0+x.pos)=ext (kK keep (x :: l)) 0:=pR x.pos fun s _ h2=>by
   unfold kK
   have e:∀ i,dep i s (x :: l)=0:=fun i=>zx fun y hy=>by
    rcases List.mem_cons.1 hy with rfl|hy
    ·omega
    ·have:=hs.le y hy;omega
   rw [e 0,e 1]
   exact hk
  rw [Nat.zero_add] at hb
  have:=wV hk hN h0 h1 (x :: l) [] [] 0 false x.pos rfl hs (fun z hz=>by cases hz) (fun z hz=>by cases hz) rfl (by rw [hb];rfl) (by
   by_cases h:x.pos=0
   ·exact .inl h
   ·refine .inr (.inr ?_)
    unfold kK
    have e:∀ i,dep i (x.pos - 1) (x :: l)=0:=fun i=>zx fun y hy=>by
     rcases List.mem_cons.1 hy with rfl|hy
     ·omega
     ·have:=hs.le y hy;omega
    rw [e 0,e 1]
    exact hk) (fun e=>by cases e) (fun _=>rfl)
  rw [this];rfl
end Go.Proofs.YtpcncggjmabnaaaGreatDoor.V

namespace Go.Proofs.YtpcncggjmabnaaaGreatDoor.V
abbrev Wd:=BitVec 64
structure Bm where
 size:Int
 ws:List Wd
 deriving DecidableEq
def eW (w:Wd):PV:=.int .u64 (w.toNat:Int)
def jg (b:Bm):PV:=.agg [.int .i64 b.size,.list 1 (b.ws.map eW)]
def bit (ws:List Wd) (i:Nat):Bool:=(ws.getD (i / 64) 0).getLsbD (i % 64)
theorem Ug {ws:List Wd} {k:Nat} (h:k<ws.length) {j:Nat} (hj:j<64):bit ws (64 * k+j)=ws[k].getLsbD j:=by
 unfold bit
 have e1:(64 * k+j) / 64=k:=by omega
 have e2:(64 * k+j) % 64=j:=by omega
 rw [e1,e2];simp [h]
theorem ab6 {ws:List Wd} {i:Nat} (h:i / 64<ws.length):bit ws i=ws[i / 64].getLsbD (i % 64):=by
 unfold bit;simp [h]
theorem Ll {ws:List Wd} {i:Nat} (h:64 * ws.length≤i):bit ws i=false:=by
 unfold bit
 have:ws.length≤i / 64:=by omega
 rw [List.getD_eq_getElem?_getD,List.getElem?_eq_none this];simp
theorem afN (w:Wd):BitVec.ofInt 64 (w.toNat:Int)=w:=by
 apply BitVec.eq_of_toNat_eq
 have:=w.isLt
 rw [BitVec.toNat_ofInt]
 omega
theorem ab7 (n:Int):IntKind.u64.wrap n=n % 2 ^ 64:=by
 simp only [IntKind.wrap,IntKind.bits,IntKind.signed,Bool.false_and,Bool.false_eq_true,if_false]
theorem ab8 (w:Wd):IntKind.u64.wrap (w.toNat:Int)=(w.toNat:Int):=by
 have:=w.isLt
 simp only [IntKind.wrap,IntKind.bits,IntKind.signed,Bool.false_and,Bool.false_eq_true,if_false]
 omega
theorem aoB (a b:Wd):IntKind.u64.wrap ((BitVec.ofInt IntKind.u64.bits (a.toNat:Int) ||| BitVec.ofInt IntKind.u64.bits (b.toNat:Int)).toNat:Int)=((a ||| b).toNat:Int):=by
 show IntKind.u64.wrap ((BitVec.ofInt 64 (a.toNat:Int) ||| BitVec.ofInt 64 (b.toNat:Int)).toNat:Int)=_
 rw [afN,afN,ab8]
theorem ahr (a b:Wd):IntKind.u64.wrap ((BitVec.ofInt IntKind.u64.bits (a.toNat:Int) &&& BitVec.ofInt IntKind.u64.bits (b.toNat:Int)).toNat:Int)=((a &&& b).toNat:Int):=by
 show IntKind.u64.wrap ((BitVec.ofInt 64 (a.toNat:Int) &&& BitVec.ofInt 64 (b.toNat:Int)).toNat:Int)=_
 rw [afN,afN,ab8]
theorem ahs (w:Wd) {s:Int} {n:Nat} (hs:s=(n:Int)):(w.toNat:Int).fdiv (2 ^ (min s.toNat IntKind.u64.bits))=((w >>> n).toNat:Int):=by
 subst hs
 rw [BitVec.toNat_ushiftRight,Nat.shiftRight_eq_div_pow,Int.toNat_natCast]
 have hw:=w.isLt
 show (w.toNat:Int).fdiv (2 ^ (min n 64))=_
 by_cases h:n≤64
 ·have h2:(0:Int)≤2 ^ n:=by have:=Int.natCast_nonneg (2 ^ n);push_cast at this;exact this
  rw [Nat.min_eq_left h,Int.fdiv_eq_ediv_of_nonneg _ h2]
  push_cast
  rfl
 ·rw [Nat.min_eq_right (by omega),Int.fdiv_eq_ediv_of_nonneg _ (by decide)]
  have h1:w.toNat / 2 ^ n=0:=Nat.div_eq_of_lt (Nat.lt_of_lt_of_le hw (Nat.pow_le_pow_right (by decide) (by omega)))
  rw [h1]
  omega
theorem alT (w:Wd) {s:Int} {n:Nat} (hs:s=(n:Int)):IntKind.u64.wrap ((w.toNat:Int) * 2 ^ (min s.toNat IntKind.u64.bits))=((w <<< n).toNat:Int):=by
 subst hs
 rw [BitVec.toNat_shiftLeft,Nat.shiftLeft_eq,Int.toNat_natCast]
 have hw:=w.isLt
 rw [ab7]
 show ((w.toNat:Int) * 2 ^ (min n 64)) % 2 ^ 64=_
 by_cases h:n≤64
 ·have e2:((2 ^ n:Nat):Int)=2 ^ n:=by push_cast;rfl
  have e3:((2 ^ 64:Nat):Int)=2 ^ 64:=by decide
  rw [Nat.min_eq_left h,Int.natCast_emod,Int.natCast_mul,e2,e3]
 ·rw [Nat.min_eq_right (by omega)]
  have e:2 ^ n=2 ^ 64 * 2 ^ (n - 64):=by rw [← Nat.pow_add];congr 1;omega
  have:w.toNat * 2 ^ n % 2 ^ 64=0:=by
   rw [e,Nat.mul_left_comm];exact Nat.mul_mod_right _ _
  rw [this]
  exact Int.mul_emod_left _ _
theorem alU (a b:Wd):IntKind.u64.wrap ((a.toNat:Int) - (b.toNat:Int))=((a - b).toNat:Int):=by
 have h1:=a.isLt
 have h2:=b.isLt
 simp only [IntKind.wrap,IntKind.bits,IntKind.signed,Bool.false_and,Bool.false_eq_true,if_false]
 rw [BitVec.toNat_sub]
 omega
theorem aht (a b:Wd):((a.toNat:Int)==(b.toNat:Int))=decide (a=b):=by
 by_cases h:a=b
 ·subst h;simp
 ·have:a.toNat≠b.toNat:=fun e=>h (BitVec.eq_of_toNat_eq e)
  simp [h];omega
def vO (k:Nat) (a b:Int):Wd :=
 if max (a - 64 * (k:Int)) 0 ≥ min (b - 64 * (k:Int)) 64 then 0
 else (BitVec.allOnes 64 >>> (64 - (min (b - 64 * (k:Int)) 64 - max (a - 64 * (k:Int)) 0)).toNat) <<< (max (a - 64 * (k:Int)) 0).toNat
theorem PX (k:Nat) (a b:Int) {j:Nat} (hj:j<64):(vO k a b).getLsbD j=decide (a≤64 * (k:Int)+j∧64 * (k:Int)+j<b):=by
 unfold vO
 split
 ·rename_i h
  rw [show (0:Wd).getLsbD j=false by simp]
  symm
  apply decide_eq_false
  omega
 ·rename_i h
  rw [BitVec.getLsbD_shiftLeft,BitVec.getLsbD_ushiftRight,BitVec.getLsbD_allOnes]
  rw [Bool.eq_iff_iff]
  simp only [Bool.and_eq_true,decide_eq_true_eq,Bool.not_eq_true',decide_eq_false_iff_not]
  omega
def bitsOf (w:Wd):List Nat:=(List.range 64).filter fun j=>w.getLsbD j
theorem YH:bitsOf 0=[]:=by
 unfold bitsOf
 rw [List.filter_eq_nil_iff]
 intro j _
 simp
theorem VH {w:Wd} (h:w≠0):Lib.ctz 64 w.toNat<64∧(∀ j,j<Lib.ctz 64 w.toNat→w.getLsbD j=false)∧w.getLsbD (Lib.ctz 64 w.toNat)=true∧∀ j,j<64→(w &&& (w - 1)).getLsbD j=(w.getLsbD j&&decide (j≠Lib.ctz 64 w.toNat)):=by
 have h0:0<w.toNat:=by
  rcases Nat.eq_zero_or_pos w.toNat with e|e
  ·exact absurd (BitVec.eq_of_toNat_eq (by simpa using e)) h
  ·exact e
 have hl:Lib.ctz 64 w.toNat=Lib.ctzFrom 64 w.toNat:=by unfold Lib.ctz;rw [if_neg (by omega)]
 rw [hl]
 obtain ⟨m,h1,h2⟩:=Lib.ctzFrom_spec 64 w.toNat h0 w.isLt
 generalize Lib.ctzFrom 64 w.toNat=c at h1 h2
 have hbit:∀ j,w.getLsbD j=if j<c then false else (2 * m+1).testBit (j - c):=fun j=>by
  rw [← BitVec.testBit_toNat,h1,Nat.testBit_two_pow_mul]
  by_cases hc:j<c
  ·rw [if_pos hc,decide_eq_false (by omega),Bool.false_and]
  ·rw [if_neg hc,decide_eq_true (by omega),Bool.true_and]
 have hsub:(w - 1).toNat=2 ^ c * (2 * m)+(2 ^ c - 1):=by
  have hp:0<2 ^ c:=Nat.pow_pos (by decide)
  rw [BitVec.toNat_sub]
  have:=w.isLt
  have e1:(1:Wd).toNat=1:=rfl
  rw [e1,show 2 ^ 64 - 1+w.toNat=(w.toNat - 1)+2 ^ 64 by omega,Nat.add_mod_right,Nat.mod_eq_of_lt (by omega),h1,Nat.mul_add,Nat.mul_one]
  omega
 have alV:∀ j,(w - 1).getLsbD j=if j<c then true else (2 * m).testBit (j - c):=fun j=>by
  rw [← BitVec.testBit_toNat,hsub]
  have hp:2 ^ c - 1<2 ^ c:=by have:0<2 ^ c:=Nat.pow_pos (by decide);omega
  by_cases hc:j<c
  ·rw [if_pos hc,Nat.testBit_two_pow_mul_add _ hp,if_pos hc,Nat.testBit_two_pow_sub_one]
   simp [hc]
  ·rw [if_neg hc,Nat.testBit_two_pow_mul_add _ hp,if_neg hc]
 refine ⟨h2,fun j hj=>by rw [hbit,if_pos hj],by rw [hbit,if_neg (Nat.lt_irrefl _),Nat.sub_self];simp,fun j hj=>?_⟩
 rw [BitVec.getLsbD_and,hbit,alV]
 by_cases hc:j<c
 ·simp [hc]
 ·rw [if_neg hc,if_neg hc]
  by_cases he:j=c
  ·subst he;simp
  ·obtain ⟨d,hd⟩:∃ d,j - c=d+1:=⟨j - c - 1,by omega⟩
   rw [hd,Nat.testBit_succ,Nat.testBit_succ,show (2 * m+1) / 2=m by omega,show 2 * m / 2=m by omega]
   simp [he]
theorem Lm {p q:Nat→Bool} {c n:Nat} (hc:c<n) (hlow:∀ j,j<c→p j=false) (hp:p c=true) (hq:∀ j,j<n→q j=(p j&&decide (j≠c))):(List.range n).filter p=c :: (List.range n).filter q:=by
 have e:List.range n=List.range c++(c :: (List.range (n - c - 1)).map (c+1+·)):=by
  apply List.ext_getElem
  ·simp;omega
  ·intro i h1 h2
   simp only [List.length_range] at h1
   rw [List.getElem_range,List.getElem_append]
   split
   ·simp
   ·rename_i h
    simp only [List.length_range] at h ⊢
    obtain ⟨d,hd⟩:∃ d,i=c+d:=⟨i - c,by omega⟩
    subst hd
    cases d with
    |zero=>simp
    |succ d=>simp [show c+(d+1) - c=d+1 by omega];omega
 have hq':∀ j,j∈List.range n→q j=(p j&&decide (j≠c)):=fun j hj=>hq j (List.mem_range.1 hj)
 rw [List.filter_congr hq',e,List.filter_append,List.filter_append]
 have h1:(List.range c).filter p=[]:=by
  rw [List.filter_eq_nil_iff];intro j hj;rw [hlow j (List.mem_range.1 hj)];simp
 have h2:(List.range c).filter (fun j=>p j&&decide (j≠c))=[]:=by
  rw [List.filter_eq_nil_iff];intro j hj;rw [hlow j (List.mem_range.1 hj)];simp
 rw [h1,h2,List.nil_append,List.nil_append,List.filter_cons_of_pos hp,List.filter_cons_of_neg (by simp)]
 congr 1
 apply List.filter_congr
 intro j hj
 obtain ⟨d,_,rfl⟩:=List.mem_map.1 hj
 simp;omega
theorem YI {w:Wd} (h:w≠0):bitsOf w=Lib.ctz 64 w.toNat :: bitsOf (w &&& (w - 1)):=by
 obtain ⟨h1,h2,h3,h4⟩:=VH h
 exact Lm h1 h2 h3 h4
def vP (ws:List Wd) (a b:Int):List Nat:=(List.range (64 * ws.length)).filter fun (i:Nat)=>bit ws i&&decide (a≤(i:Int)∧(i:Int)<b)
theorem range_add (n m:Nat):List.range (n+m)=List.range n++(List.range m).map (n+·):=List.range_add
theorem Uh {ws:List Wd} {k:Nat} (h:k<ws.length) (a b:Int):(List.range (64 * (k+1))).filter (fun (i:Nat)=>bit ws i&&decide (a≤(i:Int)∧(i:Int)<b))
  = (List.range (64 * k)).filter (fun (i:Nat)=>bit ws i&&decide (a≤(i:Int)∧(i:Int)<b))++(bitsOf (ws[k] &&& vO k a b)).map (64 * k+·):=by
 rw [show 64 * (k+1)=64 * k+64 by omega,List.range_add,List.filter_append,List.filter_map]
 congr 2
 unfold bitsOf
 apply List.filter_congr
 intro j hj
 have hj:=List.mem_range.1 hj
 rw [BitVec.getLsbD_and,PX k a b hj]
 show (bit ws (64 * k+j)&&_)=_
 rw [Ug h hj]
 push_cast
 rfl
def setW (ws:List Wd) (a b:Int):List Wd:=ws.mapIdx fun k w=>w ||| vO k a b
theorem VI {ws:List Wd} {a b:Int} {i:Nat} (h:i<64 * ws.length):bit (setW ws a b) i=(bit ws i || decide (a≤(i:Int)∧(i:Int)<b)):=by
 have hk:i / 64<ws.length:=by omega
 have hk2:i / 64<(setW ws a b).length:=by simp [setW,hk]
 rw [ab6 hk,ab6 hk2]
 simp only [setW,List.getElem_mapIdx,BitVec.getLsbD_or]
 rw [PX _ _ _ (Nat.mod_lt _ (by decide))]
 congr 2
 have:(64 * ((i / 64:Nat):Int))+((i % 64:Nat):Int)=(i:Int):=by omega
 rw [this]
def lN (n:Int):Int:=(n+63) / 64
def okB (b:Bm):Bool:=decide (0≤b.size∧b.size≤4096∧(b.ws.length:Int)=lN b.size)&&(List.range (64 * b.ws.length)).all fun (i:Nat)=>decide ((i:Int)<b.size) || !bit b.ws i
theorem qN {b:Bm}:okB b=true ↔ (0≤b.size∧b.size≤4096∧(b.ws.length:Int)=lN b.size)∧∀ i:Nat,b.size≤(i:Int)→bit b.ws i=false:=by
 unfold okB
 simp only [Bool.and_eq_true,decide_eq_true_eq,List.all_eq_true,List.mem_range,Bool.or_eq_true,Bool.not_eq_true']
 refine and_congr Iff.rfl ⟨fun h i hi=>?_,fun h i hi=>?_⟩
 ·by_cases c:i<64 * b.ws.length
  ·exact (h i c).resolve_left (by omega)
  ·exact Ll (by omega)
 ·by_cases c:(i:Int)<b.size
  ·exact .inl c
  ·exact .inr (h i (by omega))
theorem jr {b:Bm} (h:okB b=true):0≤b.size∧b.size≤4096∧b.ws.length≤64∧b.size≤64 * (b.ws.length:Int)∧64 * (b.ws.length:Int)<b.size+64:=by
 have:=(qN.1 h).1
 unfold lN at this
 omega
theorem ab9 {b:Bm} (h:okB b=true) {i:Nat} (hb:bit b.ws i=true):(i:Int)<b.size:=by
 rcases Int.lt_or_le (i:Int) b.size with c|c
 ·exact c
 ·rw [(qN.1 h).2 i c] at hb;cases hb
theorem acd {b:Bm} (h:0≤b.size∧b.size≤4096∧(b.ws.length:Int)=lN b.size):okB b=true ↔ (b.size % 64=0∨∀ (hw:b.ws.length - 1<b.ws.length),b.ws[b.ws.length - 1] >>> (b.size % 64).toNat=0):=by
 rw [qN]
 unfold lN at h ⊢
 constructor
 ·rintro ⟨_,h2⟩
  by_cases c:b.size % 64=0
  ·exact .inl c
  ·refine .inr fun hw=>?_
   apply BitVec.eq_of_getLsbD_eq
   intro j hj
   rw [BitVec.getLsbD_ushiftRight]
   by_cases cj:(b.size % 64).toNat+j<64
   ·rw [← Ug hw cj,h2 _ (by omega)];simp
   ·rw [BitVec.getLsbD_of_ge _ _ (by omega)];simp
 ·intro hr
  refine ⟨by omega,fun i hi=>?_⟩
  by_cases c:i<64 * b.ws.length
  ·have hw:b.ws.length - 1<b.ws.length:=by omega
   have hk:i / 64=b.ws.length - 1:=by omega
   rcases hr with hr|hr
   ·omega
   ·have:=congrArg (fun w:Wd=>w.getLsbD (i % 64 - (b.size % 64).toNat)) (hr hw)
    simp only [BitVec.getLsbD_ushiftRight,BitVec.getLsbD_zero] at this
    rw [show (b.size % 64).toNat+(i % 64 - (b.size % 64).toNat)=i % 64 by omega] at this
    rw [show i=64 * (b.ws.length - 1)+i % 64 by omega,Ug hw (Nat.mod_lt _ (by decide))]
    simpa using this
  ·exact Ll (by omega)
def xR (b:Bm):List fG:=ext (bit b.ws) b.size.toNat
def Ui (b:Bm):Int:=if okB b then 0 else 3
theorem ace {b:Bm} (h:okB b=true) (a:Int) (ha:a≤0):vP b.ws a b.size=(List.range b.size.toNat).filter (bit b.ws):=by
 unfold vP
 obtain ⟨h1,h2,h3,h4,h5⟩:=jr h
 rw [show 64 * b.ws.length=b.size.toNat+(64 * b.ws.length - b.size.toNat) by omega,List.range_add,List.filter_append]
 have e:(((List.range (64 * b.ws.length - b.size.toNat)).map (b.size.toNat+·)).filter fun (i:Nat)=>bit b.ws i&&decide (a≤(i:Int)∧(i:Int)<b.size))=[]:=by
  rw [List.filter_eq_nil_iff]
  intro i hi
  obtain ⟨d,_,rfl⟩:=List.mem_map.1 hi
  rw [decide_eq_false (by omega)];simp
 rw [e,List.append_nil]
 apply List.filter_congr
 intro i hi
 have hi:=List.mem_range.1 hi
 rw [decide_eq_true (by omega),Bool.and_true]
end Go.Proofs.YtpcncggjmabnaaaGreatDoor.V

namespace Go.Proofs.YtpcncggjmabnaaaGreatDoor.V
theorem EY {b:Bm} (h:okB b=true):Ui b=0:=by unfold Ui;rw [if_pos h]
theorem xU {b:Bm} (h:okB b=false):Ui b=3:=by unfold Ui;rw [if_neg (by rw [h];exact Bool.false_ne_true)]
theorem q64 {n:Int} (h:0≤n):(n+64 - 1).tdiv 64=lN n:=by
 unfold lN;rw [Int.tdiv_eq_ediv_of_nonneg (by omega)];congr 1;omega
theorem z64:((64:Int)=0)=False:=eq_false (by decide)
theorem acf {n:Int} (h:0≤n∧n≤4096):cal env 109 [.int .i64 n]=some [(.int .i64 (lN n),false)]:=by
 have W1:IntKind.i64.wrap (n+64)=n+64:=bn (by omega)
 have W2:IntKind.i64.wrap (n+64 - 1)=n+64 - 1:=bn (by omega)
 have W3:IntKind.i64.wrap (lN n)=lN n:=bn (by unfold lN;omega)
 rw [ah aiF rfl];simp only [O5];simp only [start,aQ,aV,aO,aU,aH,aJ,aP,aS,Nat.reduceAdd,Nat.reduceSub]
 simp only [W1,W2,q64 h.1,W3,z64,bV,reduceCtorEq,Nat.reduceEqDiff,Nat.reduceAdd,Nat.reduceLT,Nat.reduceLeDiff,Nat.beq]
theorem acg {b:Bm}:cal env 91 [jg b]=some [(.int .i64 (Ui b),false)]:=by
 unfold jg
 have P:∀ x y:PV,part [x,y] 0 (some 2)=some (.agg [x,y]):=fun _ _=>rfl
 by_cases c0:b.size<0
 ·have hE:Ui b=3:=xU (by rw [Bool.eq_false_iff];intro h;have:=jr h;omega)
  rw [hE]
  rw [ah Iy rfl];simp only [GK];simp only [start,aQ,aV,aO,aU,aH,aJ,aP,aS,Nat.reduceAdd,Nat.reduceSub]
  simp only [c0,P,bV,reduceCtorEq,Nat.reduceEqDiff,Nat.reduceAdd,Nat.reduceLT,Nat.reduceLeDiff,Nat.beq]
 ·by_cases c1:b.size > 4096
  ·have hE:Ui b=3:=xU (by rw [Bool.eq_false_iff];intro h;have:=jr h;omega)
   rw [hE]
   have F1:(b.size > 4096)=True:=eq_true c1
   rw [ah Iy rfl];simp only [GK];simp only [start,aQ,aV,aO,aU,aH,aJ,aP,aS,Nat.reduceAdd,Nat.reduceSub]
   simp only [c0,F1,P,bV,reduceCtorEq,Nat.reduceEqDiff,Nat.reduceAdd,Nat.reduceLT,Nat.reduceLeDiff,Nat.beq]
  ·have F1:(b.size > 4096)=False:=eq_false c1
   have e1:=acf (n:=b.size) (by omega)
   by_cases c2:(b.ws.length:Int)=lN b.size
   ·have F2:((b.ws.length:Int) != lN b.size)=false:=by simp [c2]
    have hr:=acd (b:=b) ⟨by omega,by omega,c2⟩
    have hw:=c2
    unfold lN at hw
    have M:b.size.tmod 64=b.size % 64:=Int.tmod_eq_emod_of_nonneg (by omega)
    by_cases c3:b.size % 64=0
    ·have hE:Ui b=0:=EY (hr.2 (.inl c3))
     rw [hE]
     have F3:(b.size % 64 > 0)=False:=eq_false (by omega)
     rw [ah Iy rfl];simp only [GK];simp only [start,aQ,aV,aO,aU,aH,aJ,aP,aS,Nat.reduceAdd,Nat.reduceSub]
     simp only [c0,F1,F2,F3,M,e1,z64,P,bV,reduceCtorEq,Nat.reduceEqDiff,Nat.reduceAdd,Nat.reduceLT,Nat.reduceLeDiff,Nat.beq]
    ·have F3:(b.size % 64 > 0)=True:=eq_true (by omega)
     have hi:b.ws.length - 1<b.ws.length:=by omega
     have W:IntKind.i64.wrap ((b.ws.length:Int) - 1)=((b.ws.length - 1:Nat):Int):=by rw [bn (by omega)];omega
     have S0:(b.size % 64<0)=False:=eq_false (by omega)
     have S:=ahs b.ws[b.ws.length - 1] (s:=b.size % 64) (n:=(b.size % 64).toNat) (by omega)
     have B:=aht (b.ws[b.ws.length - 1] >>> (b.size % 64).toNat) 0
     have B0:((0:Wd).toNat:Int)=0:=rfl
     rw [B0] at B
     have B':(((b.ws[b.ws.length - 1] >>> (b.size % 64).toNat).toNat:Int) != 0)=!decide (b.ws[b.ws.length - 1] >>> (b.size % 64).toNat=0):=by unfold bne;rw [B]
     by_cases c4:b.ws[b.ws.length - 1] >>> (b.size % 64).toNat=0
     ·have hE:Ui b=0:=EY (hr.2 (.inr fun _=>c4))
      rw [hE]
      rw [decide_eq_true c4] at B'
      rw [ah Iy rfl];simp only [GK];simp only [start,aQ,aV,aO,aU,aH,aJ,aP,aS,Nat.reduceAdd,Nat.reduceSub]
      simp only [c0,F1,F2,F3,M,e1,z64,P,W,S0,S,B',aj hi,eW,List.getElem?_map,List.getElem?_eq_getElem hi,bV,reduceCtorEq,Nat.reduceEqDiff,Nat.reduceAdd,Nat.reduceLT,Nat.reduceLeDiff,Nat.beq]
     ·have hE:Ui b=3:=xU (by
       rw [Bool.eq_false_iff];intro h
       rcases hr.1 h with h|h
       ·exact c3 h
       ·exact c4 (h hi))
      rw [hE]
      rw [decide_eq_false c4] at B'
      rw [ah Iy rfl];simp only [GK];simp only [start,aQ,aV,aO,aU,aH,aJ,aP,aS,Nat.reduceAdd,Nat.reduceSub]
      simp only [c0,F1,F2,F3,M,e1,z64,P,W,S0,S,B',aj hi,eW,List.getElem?_map,List.getElem?_eq_getElem hi,bV,reduceCtorEq,Nat.reduceEqDiff,Nat.reduceAdd,Nat.reduceLT,Nat.reduceLeDiff,Nat.beq]
   ·have F2:((b.ws.length:Int) != lN b.size)=true:=by simp [c2]
    have hE:Ui b=3:=xU (by rw [Bool.eq_false_iff];intro h;exact c2 (qN.1 h).1.2.2)
    rw [hE]
    rw [ah Iy rfl];simp only [GK];simp only [start,aQ,aV,aO,aU,aH,aJ,aP,aS,Nat.reduceAdd,Nat.reduceSub]
    simp only [c0,F1,F2,e1,P,bV,reduceCtorEq,Nat.reduceEqDiff,Nat.reduceAdd,Nat.reduceLT,Nat.reduceLeDiff,Nat.beq]
theorem ach {k:Nat} {a b:Int} (hk:k≤100000) (ha:-1000000≤a∧a≤1000000) (hb':-1000000≤b∧b≤1000000):cal env 125 [.int .i64 (k:Nat),.int .i64 a,.int .i64 b]=some [(eW (vO k a b),false)]:=by
 have W0:IntKind.i64.wrap ((k:Int) * 64)=64 * (k:Int):=by rw [bn (by omega)];omega
 have W1:IntKind.i64.wrap (a - 64 * (k:Int))=a - 64 * (k:Int):=bn (by omega)
 have W2:IntKind.i64.wrap (b - 64 * (k:Int))=b - 64 * (k:Int):=bn (by omega)
 have X1:(if a - 64 * (k:Int)<0 then 0 else a - 64 * (k:Int))=max (a - 64 * (k:Int)) 0:=by split<;>omega
 have X2:(if 64<b - 64 * (k:Int) then 64 else b - 64 * (k:Int))=min (b - 64 * (k:Int)) 64:=by split<;>omega
 unfold vO eW
 generalize hf:max (a - 64 * (k:Int)) 0=f at X1 ⊢
 generalize ht:min (b - 64 * (k:Int)) 64=t at X2 ⊢
 by_cases c:f ≥ t
 ·have F1:(f ≥ t)=True:=eq_true c
  rw [if_pos c]
  have B0:((0:Wd).toNat:Int)=0:=rfl
  rw [B0]
  rw [ah abT rfl];simp only [Iw];simp only [start,aQ,aV,aO,aU,aH,aJ,aP,aS,Nat.reduceAdd,Nat.reduceSub]
  simp only [W0,W1,W2,X1,X2,F1,bV,reduceCtorEq,Nat.reduceEqDiff,Nat.reduceAdd,Nat.reduceLT,Nat.reduceLeDiff,Nat.beq]
 ·have F1:(f ≥ t)=False:=eq_false c
  rw [if_neg c]
  have W3:IntKind.i64.wrap (t - f)=t - f:=bn (by omega)
  have W4:IntKind.i64.wrap (64 - (t - f))=64 - (t - f):=bn (by omega)
  have A:(18446744073709551615:Int)=((BitVec.allOnes 64).toNat:Int):=rfl
  have S0:(64 - (t - f)<0)=False:=eq_false (by omega)
  have S1:(f<0)=False:=eq_false (by omega)
  have S2:=ahs (BitVec.allOnes 64) (s:=64 - (t - f)) (n:=(64 - (t - f)).toNat) (by omega)
  have S3:=alT (BitVec.allOnes 64 >>> (64 - (t - f)).toNat) (s:=f) (n:=f.toNat) (by omega)
  rw [← A] at S2
  rw [ah abT rfl];simp only [Iw];simp only [start,aQ,aV,aO,aU,aH,aJ,aP,aS,Nat.reduceAdd,Nat.reduceSub]
  simp only [W0,W1,W2,W3,W4,X1,X2,F1,S0,S1,S2,S3,bV,reduceCtorEq,Nat.reduceEqDiff,Nat.reduceAdd,Nat.reduceLT,Nat.reduceLeDiff,Nat.beq]
end Go.Proofs.YtpcncggjmabnaaaGreatDoor.V

namespace Go.Proofs.YtpcncggjmabnaaaGreatDoor.V
def Zl (b:Bm):List PV:=[.int .i64 b.size,.list 1 (b.ws.map eW)]
def tz (w:Wd):Nat:=Lib.ctz 64 w.toNat
theorem ai6 {w:Wd}:cal env 126 [.int .u64 (w.toNat:Int)]=some [(.int .i64 (tz w:Nat),false)]:=by
 rw [wQ aiP]
 have:=w.isLt
 have e:tzX [.int .u64 (w.toNat:Int)]=if (0:Int)≤(w.toNat:Int)∧(w.toNat:Int)<18446744073709551616 then some [(.int .i64 (Lib.ctz 64 (w.toNat:Int).toNat:Nat),false)] else none:=rfl
 rw [e,if_pos (by omega),Int.toNat_natCast]
 rfl
theorem afO {b:Bm} {a:Int} {k:Nat} {w0:Wd} {ys0:List (List PV)} (hk:k≤100000)
  {st:St} (h:st.head [0,1,2,4,5,10,11,12] st.boxes.length=some ⟨[.rF,.pv (.dN (Zl b) 0),.pv (.dN [.int .i64 a] 0),.any,.pv (.int .i64 (k:Nat)),.pv (eW w0),.any,.any,.any,.any,.pv (.list 1 (b.ws.map eW)),.pv (.int .i64 b.ws.length),.pv (.int .i64 (k:Nat)),.any,.any,.any,.any,.any,.any,.any,.any,.any,.any,.any,.any,.any,.any,.any,.any,.any,.any,.any,.any,.any,.any,.any,.any,.any,.any],[],ys0,some none⟩) :
  den env EJ st=some (.normal,⟨[.rF,.pv (.dN (Zl b) 0),.pv (.dN [.int .i64 a] 0),.any,.any,.any,.any,.any,.any,.any,.pv (.list 1 (b.ws.map eW)),.pv (.int .i64 b.ws.length),.pv (.int .i64 (k:Nat)),.any,.any,.any,.any,.any,.any,.any,.any,.any,.any,.any,.any,.any,.any,.any,.any,.any,.any,.any,.any,.any,.any,.any,.any,.any,.any],[],ys0++yI ((bitsOf w0).map (64 * k+·)),some none⟩):=by
 unfold EJ
 refine Ag (env:=env) (fun p:Wd × List (List PV)=>⟨[.rF,.pv (.dN (Zl b) 0),.pv (.dN [.int .i64 a] 0),.any,.pv (.int .i64 (k:Nat)),.pv (eW p.1),.any,.any,.any,.any,.pv (.list 1 (b.ws.map eW)),.pv (.int .i64 b.ws.length),.pv (.int .i64 (k:Nat)),.any,.any,.any,.any,.any,.any,.any,.any,.any,.any,.any,.any,.any,.any,.any,.any,.any,.any,.any,.any,.any,.any,.any,.any,.any,.any],[],p.2,some none⟩)
  (fun p=>some (.normal,⟨[.rF,.pv (.dN (Zl b) 0),.pv (.dN [.int .i64 a] 0),.any,.any,.any,.any,.any,.any,.any,.pv (.list 1 (b.ws.map eW)),.pv (.int .i64 b.ws.length),.pv (.int .i64 (k:Nat)),.any,.any,.any,.any,.any,.any,.any,.any,.any,.any,.any,.any,.any,.any,.any,.any,.any,.any,.any,.any,.any,.any,.any,.any,.any,.any],[],p.2++yI ((bitsOf p.1).map (64 * k+·)),some none⟩)) (fun _=>True) (fun p=>(bitsOf p.1).length) (w0,ys0) h trivial (fun _=>rfl) (fun _=>rfl) ?_
 rintro ⟨w,ys⟩ rb _ ih
 simp only [eW] at ih ⊢
 have B:=aht w 0
 have B0:((0:Wd).toNat:Int)=0:=rfl
 rw [B0] at B
 have B':((w.toNat:Int) != 0)=!decide (w=0):=by unfold bne;rw [B]
 by_cases c:w=0
 ·rw [decide_eq_true c] at B'
  subst c
  simp only [EI,B',YH,List.map_nil,bV,reduceCtorEq,Nat.reduceEqDiff,Nat.reduceAdd,Nat.reduceLT,Nat.reduceLeDiff,Nat.beq]
  simp only [yI,List.map_nil,List.append_nil]
  rfl
 ·rw [decide_eq_false c] at B'
  have e1:=ai6 (w:=w)
  have ht:=(VH c).1
  have W0:IntKind.i64.wrap ((k:Int) * 64)=64 * (k:Int):=by rw [bn (by omega)];omega
  have W1:IntKind.i64.wrap (64 * (k:Int)+((tz w:Nat):Int))=((64 * k+tz w:Nat):Int):=by unfold tz;rw [bn (by omega)];omega
  have W2:=alU w 1
  have W3:=ahr w (w - 1)
  have B1:((1:Wd).toNat:Int)=1:=rfl
  rw [B1] at W2
  have hc:=YI c
  simp only [EI,B',e1,W0,W1,W2,W3,bV,reduceCtorEq,Nat.reduceEqDiff,Nat.reduceAdd,Nat.reduceLT,Nat.reduceLeDiff,Nat.beq]
  rw [ih (w &&& (w - 1),ys++[[.int .i64 ((64 * k+tz w:Nat):Int)]]) (by simp only;rw [hc,List.length_cons];omega) trivial _ rfl]
  rw [hc]
  simp only [yI,List.map_cons,List.append_assoc,List.cons_append,List.nil_append]
  rfl
theorem aci {b:Bm} {a:Int} (hb:b.ws.length≤64) (hs:0≤b.size∧b.size≤4096) (ha:-1000000≤a∧a≤1000000)
  {st:St} (h:st.head [0,1,2,10,11,12] st.boxes.length=some ⟨[.rF,.pv (.dN (Zl b) 0),.pv (.dN [.int .i64 a] 0),.any,.any,.any,.any,.any,.any,.any,.pv (.list 1 (b.ws.map eW)),.pv (.int .i64 b.ws.length),.pv (.int .i64 (0:Nat)),.any,.any,.any,.any,.any,.any,.any,.any,.any,.any,.any,.any,.any,.any,.any,.any,.any,.any,.any,.any,.any,.any,.any,.any,.any,.any],[],[],some none⟩) :
  den env EL st=some (.normal,⟨[.any,.any,.any,.any,.any,.any,.any,.any,.any,.any,.any,.any,.any,.any,.any,.any,.any,.any,.any,.any,.any,.any,.any,.any,.any,.any,.any,.any,.any,.any,.any,.any,.any,.any,.any,.any,.any,.any,.any],[],yI (vP b.ws a b.size),some none⟩):=by
 unfold EL
 refine bC (env:=env) b.ws.length (fun k=>⟨[.rF,.pv (.dN (Zl b) 0),.pv (.dN [.int .i64 a] 0),.any,.any,.any,.any,.any,.any,.any,.pv (.list 1 (b.ws.map eW)),.pv (.int .i64 b.ws.length),.pv (.int .i64 k),.any,.any,.any,.any,.any,.any,.any,.any,.any,.any,.any,.any,.any,.any,.any,.any,.any,.any,.any,.any,.any,.any,.any,.any,.any,.any],[],yI ((List.range (64 * k)).filter fun (i:Nat)=>bit b.ws i&&decide (a≤(i:Int)∧(i:Int)<b.size)),some none⟩)
  (fun _=>some (.normal,⟨[.any,.any,.any,.any,.any,.any,.any,.any,.any,.any,.any,.any,.any,.any,.any,.any,.any,.any,.any,.any,.any,.any,.any,.any,.any,.any,.any,.any,.any,.any,.any,.any,.any,.any,.any,.any,.any,.any,.any],[],yI (vP b.ws a b.size),some none⟩)) h (fun _=>rfl) (fun _=>rfl) ?_ ?_
 ·intro k rb hi ih
  have hi1:=bG hi (by unfold lim;omega)
  have F1:((k:Int)<(b.ws.length:Int))=True:=eq_true (by omega)
  have e1:=ach (k:=k) (a:=a) (b:=b.size) (by omega) ha (by omega)
  have W3:=ahr b.ws[k] (vO k a b.size)
  rw [Uh hi] at ih
  unfold eW at e1
  simp only [EK,F1,e1,W3,Zl,eW,aj hi,List.getElem?_map,List.getElem?_eq_getElem hi,bV,reduceCtorEq,Nat.reduceEqDiff,Nat.reduceAdd,Nat.reduceLT,Nat.reduceLeDiff,Nat.beq]
  rw [afO (b:=b) (a:=a) (k:=k) (w0:=b.ws[k] &&& vO k a b.size) (ys0:=yI ((List.range (64 * k)).filter fun (i:Nat)=>bit b.ws i&&decide (a≤(i:Int)∧(i:Int)<b.size))) (by omega)]
  rotate_left
  ·rfl
  simp only [bV,reduceCtorEq,Nat.reduceEqDiff,Nat.reduceAdd,Nat.reduceLT,Nat.reduceLeDiff,Nat.beq]
  rw [ih _ (by simp only [hi1];simp only [yI,List.map_append];rfl)]
 ·intro rb
  simp only [EK,Int.lt_irrefl,bV,reduceCtorEq,Nat.reduceEqDiff,Nat.reduceAdd,Nat.reduceLT,Nat.reduceLeDiff,Nat.beq]
  rfl
theorem afP {b:Bm} {a:Int} (ha:-1000000≤a∧a≤1000000):iter env 124 [.dN (Zl b) 0,.dN [.int .i64 a] 0] none=some (yI (if okB b then vP b.ws a b.size else [])):=by
 have P:part (Zl b) 0 (some 2)=some (jg b):=rfl
 have e1:=acg (b:=b)
 rw [Iz aiO rfl rfl]
 simp only [Pm,Ue,aQ,aV,aO,aU,aH,aJ,aP,aS,Nat.reduceAdd,Nat.reduceSub]
 cases c:okB b with
 |false =>
  rw [xU c] at e1
  have Z:((3:Int) != 0)=true:=rfl
  simp only [P,e1,Z,PU,bV,reduceCtorEq,Nat.reduceEqDiff,Nat.reduceAdd,Nat.reduceLT,Nat.reduceLeDiff,Nat.beq]
  rfl
 |true =>
  rw [EY c] at e1
  have Z:((0:Int) != 0)=false:=rfl
  obtain ⟨h1,h2,h3,_⟩:=jr c
  have P2:part (Zl b) 1 none=some (.list 1 (b.ws.map eW)):=rfl
  simp only [P,P2,e1,Z,List.length_map,PU,bV,reduceCtorEq,Nat.reduceEqDiff,Nat.reduceAdd,Nat.reduceLT,Nat.reduceLeDiff,Nat.beq]
  rw [aci (a:=a) h3 ⟨h1,h2⟩ ha]
  rotate_left
  ·rfl
  ·rfl
theorem ai7 {b:Bm} {a:Int}:cal env 114 [jg b,.int .i64 a]=some [(.func 124 [.dN (Zl b) 0,.dN [.int .i64 a] 0],false)]:=by
 unfold jg Zl
 rw [ah aiI rfl];simp only [O8];simp only [start,aQ,aV,aO,aU,aH,aJ,aP,aS,Nat.reduceAdd,Nat.reduceSub]
 simp only [bV,reduceCtorEq,Nat.reduceEqDiff,Nat.reduceAdd,Nat.reduceLT,Nat.reduceLeDiff,Nat.beq]
end Go.Proofs.YtpcncggjmabnaaaGreatDoor.V

namespace Go.Proofs.YtpcncggjmabnaaaGreatDoor
def look:List (Nat × AV)→Nat→AV
 |[],_=>.any
 |(j,v) :: l,i=>dR (Nat.beq i j) v (look l i)
def sl (n:Nat) (l:List (Nat × AV)):List AV:=(List.range n).map (look l)
def mapA (f:AV→AV):List (Nat × AV)→List (Nat × AV)
 |[]=>[]
 |(j,v) :: l=>(j,f v) :: mapA f l
def keepA (l:List (Nat × AV)):List Nat→List (Nat × AV)
 |[]=>[]
 |k :: ks=>(k,look l k) :: keepA l ks
def BM:Nat→List PV→List (Nat × AV)
 |_,[]=>[]
 |k,v :: l=>(k,.pv v) :: BM (k+1) l
def PY (nb:Nat):List (Nat × AV)→Bool
 |[]=>true
 |(_,v) :: l=>AV.low nb v&&PY nb l
def Uj (n:Nat):List Nat→Bool
 |[]=>true
 |k :: ks=>decide (k<n)&&Uj n ks
theorem acj (i:Nat) (v:AV) (l:List (Nat × AV)):look ((i,v) :: l) i=v:=by
 show dR (Nat.beq i i) v _=v
 rw [Nat.beq_refl];rfl
theorem look_nil (i:Nat):look [] i=.any:=(rfl)
theorem ai8 {n i:Nat} {l:List (Nat × AV)} (h':i<n):(sl n l).getD i .any=look l i:=by
 simp [sl,List.getD_eq_getElem?_getD,h']
theorem afQ {n i:Nat} {l:List (Nat × AV)} (h':i<n):(sl n l)[i]?=some (look l i):=by
 simp [sl,h']
theorem nU (l:List (Nat × AV)) (i j:Nat) (v:AV):look ((j,v) :: l) i=if i=j then v else look l i:=by
 show dR (Nat.beq i j) v _=_
 by_cases h:i=j
 ·subst h;rw [Nat.beq_refl,if_pos rfl];rfl
 ·rw [if_neg h]
  have:Nat.beq i j=false:=by
   cases e:Nat.beq i j with
   |false=>rfl
   |true=>exact absurd (Nat.eq_of_beq_eq_true e) h
  rw [this];rfl
theorem ai9 (n i:Nat) (v:AV) (l:List (Nat × AV)):(sl n l).set i v=sl n ((i,v) :: l):=by
 apply List.ext_getElem (by simp [sl])
 intro k h1 h2
 have hk:k<n:=by simpa [sl] using h2
 simp only [sl,List.getElem_set,List.getElem_map,List.getElem_range,nU]
 by_cases h:i=k
 ·subst h;simp
 ·rw [if_neg h,if_neg (fun e=>h e.symm)]
theorem YJ {i j:Nat} {v:AV} {l:List (Nat × AV)} (h:(i==j)=false):look ((j,v) :: l) i=look l i:=by
 rw [nU,if_neg (by simpa using h)]
theorem IC (f:AV→AV) (hf:f .any=.any):∀ (l:List (Nat × AV)) (i:Nat),look (mapA f l) i=f (look l i)
 |[],i=>hf.symm
 |(j,v) :: l,i=>by
  show look ((j,f v) :: mapA f l) i=_
  rw [nU,nU,IC f hf l i]
  split<;>rfl
theorem Lp {f:AV→AV} (hf:f .any=.any) (n:Nat) (l:List (Nat × AV)):(sl n l).map f=sl n (mapA f l):=by
 unfold sl
 rw [List.map_map]
 apply List.map_congr_left
 intro i _
 exact (IC f hf l i).symm
theorem afR (n d:Nat) (l:List (Nat × AV)):(sl n l).map (AV.kill d)=sl n (mapA (AV.kill d) l):=Lp rfl n l
theorem acn (n d:Nat) (l:List (Nat × AV)):(sl n l).map (AV.dB d)=sl n (mapA (AV.dB d) l):=Lp rfl n l
theorem aco (n d y:Nat) (l:List (Nat × AV)):(sl n l).map (AV.iI d y)=sl n (mapA (AV.iI d y) l):=Lp rfl n l
theorem acp (n:Nat) (l:List (Nat × AV)):(sl n l).map AV.froze=sl n (mapA AV.froze l):=Lp rfl n l
theorem acr (f:AV→AV):mapA f []=[]:=(rfl)
theorem YK (f:AV→AV) (j:Nat) (v:AV) (l:List (Nat × AV)):mapA f ((j,v) :: l)=(j,f v) :: mapA f l:=(rfl)
theorem YL (l:List (Nat × AV)):keepA l []=[]:=(rfl)
theorem xW (l:List (Nat × AV)) (k:Nat) (ks:List Nat):keepA l (k :: ks)=(k,look l k) :: keepA l ks:=(rfl)
theorem acs (nb:Nat):PY nb []=true:=(rfl)
theorem IE (nb k:Nat) (v:AV) (l:List (Nat × AV)):PY nb ((k,v) :: l)=(AV.low nb v&&PY nb l):=(rfl)
theorem acu (n:Nat):Uj n []=true:=(rfl)
theorem IG (n k:Nat) (l:List Nat):Uj n (k :: l)=(decide (k<n)&&Uj n l):=(rfl)
theorem YM (k:Nat):BM k []=[]:=(rfl)
theorem EZ (k:Nat) (v:PV) (l:List PV):BM k (v :: l)=(k,.pv v) :: BM (k+1) l:=(rfl)
theorem xX (l:List (Nat × AV)):∀ (ks:List Nat) (i:Nat),look (keepA l ks) i=if ks.contains i then look l i else .any
 |[],i=>rfl
 |k :: ks,i=>by
  rw [xW,nU,xX l ks i,List.contains_cons]
  by_cases h:i=k
  ·subst h;simp
  ·have:(i==k)=false:=by simpa using h
   rw [if_neg h,this,Bool.false_or]
theorem PZ (nb n:Nat) (l:List (Nat × AV)):∀ ks:List Nat,Uj n ks=true→(PY nb (keepA l ks)=true ↔ ∀ k∈ks,(look l k).low nb=true)
 |[],_=>by simp [keepA,PY]
 |k :: ks,h=>by
  rw [IG,Bool.and_eq_true] at h
  rw [xW,IE,Bool.and_eq_true,PZ nb n l ks h.2]
  simp
theorem VJ {n nb:Nat} {l:List (Nat × AV)} {keep:List Nat} {bx:List Box} {ys:List (List PV)} {sp:Option (Option Nat)} (h:Uj n keep=true) (hb:nb≤bx.length) (hl:PY nb (keepA l keep)=true) :
  St.head ⟨sl n l,bx,ys,sp⟩ keep nb=some ⟨sl n (keepA l keep),bx.take nb,ys,sp⟩:=by
 have e:((sl n l).zipIdx.map fun (v,i)=>if keep.contains i then v else AV.any)=sl n (keepA l keep):=by
  apply List.ext_getElem (by simp [sl])
  intro i h1 h2
  simp only [sl,List.getElem_map,List.getElem_zipIdx,List.getElem_range,xX,Nat.zero_add]
 unfold St.head
 simp only
 rw [e,if_pos]
 rw [Bool.and_eq_true,decide_eq_true_eq]
 refine ⟨?_,hb⟩
 rw [List.all_eq_true]
 intro v hv
 unfold sl at hv
 obtain ⟨i,hi,rfl⟩:=List.mem_map.1 hv
 rw [xX]
 split
 ·rename_i hc
  exact (PZ nb n l keep h).1 hl i (by simpa using hc)
 ·rfl
theorem acv {n nb:Nat} {e:Ex} {l:List (Nat × AV)} {keep:List Nat} {bx:List Box} {ys:List (List PV)} {sp:Option (Option Nat)} (h:Uj n keep=true) (hb:nb≤bx.length) (hl:PY nb (keepA l keep)=true) :
  mM keep nb (e,⟨sl n l,bx,ys,sp⟩)=some (e,⟨sl n (keepA l keep),bx.take nb,ys,sp⟩):=by
 unfold mM
 simp only
 rw [VJ h hb hl]
 rfl
theorem E5:∀ (l:List PV) (k i:Nat),look (BM k l) i=if k≤i then ((l[i - k]?).map AV.pv).getD .any else .any:=by
 intro l
 induction l with
 |nil=>intro k i;simp [BM,look]
 |cons v l ih =>
  intro k i
  rw [EZ,nU,ih]
  by_cases h1:i=k
  ·subst h1;simp
  ·rw [if_neg h1]
   by_cases h2:k≤i
   ·rw [if_pos (by omega),if_pos h2,show i - k=(i - (k+1))+1 by omega,List.getElem?_cons_succ]
   ·rw [if_neg (by omega),if_neg h2]
theorem YN {n:Nat} {x:kM} {args:List PV} (hn:args.length+1≤n):Sj n x args=⟨sl n ((0,x.av) :: BM 1 args),x.boxes,[],none⟩:=by
 unfold Sj
 congr 1
 apply List.ext_getElem (by simp [sl];omega)
 intro i h1 h2
 simp only [sl,List.getElem_map,List.getElem_range,nU,E5]
 cases i with
 |zero=>simp
 |succ i =>
  rw [List.getElem_cons_succ,if_neg (by omega),if_pos (by omega),show i+1 - 1=i by omega]
  by_cases hi:i<args.length
  ·rw [List.getElem_append_left (by simpa using hi)]
   simp [hi]
  ·rw [List.getElem_append_right (by simp;omega)]
   simp [hi]
theorem acw {n:Nat} {args:List PV} (hn:args.length≤n):start n args=⟨sl n (BM 0 args),[],[],none⟩:=by
 have key:=E5
 unfold start
 congr 1
 apply List.ext_getElem (by simp [sl];omega)
 intro i h1 h2
 simp only [sl,List.getElem_map,List.getElem_range,key,Nat.zero_le,if_true,Nat.sub_zero]
 by_cases hi:i<args.length
 ·rw [List.getElem_append_left (by simpa using hi)]
  simp [hi]
 ·rw [List.getElem_append_right (by simp;omega)]
  simp [hi]
theorem aja (nb:Nat) (v:PV):AV.low nb (.pv v)=true:=(rfl)
theorem afS (nb:Nat):AV.low nb .any=true:=(rfl)
theorem afT (nb:Nat):AV.low nb .rF=true:=(rfl)
theorem afU (nb sz:Nat) (es:List PV):AV.low nb (.row sz es)=true:=(rfl)
theorem acy (nb o j:Nat):AV.low nb (.aF o j)=decide (o<nb):=(rfl)
theorem acz (nb t off len:Nat):AV.low nb (.ref (.slot t) off len)=true:=(rfl)
theorem acA (nb o j off len:Nat):AV.low nb (.ref (.cell o j) off len)=decide (o<nb):=(rfl)
theorem acB (nb t i j:Nat):AV.low nb (.oK (.slot t) i j)=true:=(rfl)
theorem acC (nb o q i j:Nat):AV.low nb (.oK (.cell o q) i j)=decide (o<nb):=(rfl)
theorem ajb (nb f:Nat) (caps:List AV):AV.low nb (.fn f caps)=caps.all fun c=>match c with
  |.pv _=>true
  |.aF o _=>o<nb
  |_=>false:=(rfl)
def aB:=And.intro @acj (And.intro @YJ (And.intro @look_nil (And.intro @ai8 (And.intro @afQ (And.intro @ai9 (And.intro @afR (And.intro (And.intro @acn @aco) (And.intro @acp (And.intro @acr (And.intro @YK (And.intro @YL (And.intro @xW (And.intro @acs (And.intro @IE (And.intro @acu (And.intro @IG (And.intro @YM (And.intro @EZ (And.intro @VJ (And.intro @acv (And.intro @acw (And.intro @YN (And.intro @aja (And.intro @afS (And.intro @afT (And.intro @afU (And.intro @acy (And.intro @acz (And.intro @acA (And.intro @acB (And.intro @acC (@ajb))))))))))))))))))))))))))))))))
def au:=And.intro @aB (And.intro @bg (And.intro @abV @ES))
end Go.Proofs.YtpcncggjmabnaaaGreatDoor

namespace Go.Proofs.YtpcncggjmabnaaaGreatDoor.V
theorem P5:jg ⟨0,[]⟩=.agg [.int .i64 0,.list 1 []]:=rfl
def orW (x y:Wd):Wd:=x ||| y
end Go.Proofs.YtpcncggjmabnaaaGreatDoor.V

namespace Go.Proofs.YtpcncggjmabnaaaGreatDoor.V
theorem sorted_at {l:List Nat} (hs:l.Pairwise (·<·)) {j i:Nat} (h:l[j]?=some i):j≤i∧∀ k∈l.take j,k<i:=by
 obtain ⟨hj,rfl⟩:=List.getElem?_eq_some_iff.1 h
 have hp:=List.pairwise_iff_getElem.1 hs
 refine ⟨?_,fun k hk=>?_⟩
 ·clear h
  induction j with
  |zero=>exact Nat.zero_le _
  |succ j ih =>
   have h1:=ih (by omega)
   have h2:=hp j (j+1) (by omega) hj (by omega)
   omega
 ·obtain ⟨m,hm,rfl⟩:=List.mem_iff_getElem.1 hk
  rw [List.getElem_take]
  simp only [List.length_take] at hm
  exact hp m j (by omega) hj (by omega)
def E8 (b:Bm):List Nat:=if okB b then vP b.ws 0 b.size else []
theorem afV {b:Bm} {j i:Nat} (h:(E8 b)[j]?=some i):i<4096∧j≤i∧∀ k∈(E8 b).take j,k<i:=by
 unfold E8 at h ⊢
 split at h
 ·rename_i c
  rw [if_pos c]
  have hs:(vP b.ws 0 b.size).Pairwise (·<·):=List.pairwise_lt_range.filter _
  have hm:=List.mem_of_getElem? h
  simp only [vP,List.mem_filter,List.mem_range,Bool.and_eq_true,decide_eq_true_eq] at hm
  have:=jr c
  exact ⟨by omega,sorted_at hs h⟩
 ·simp at h
def qj (b:Bm):List fG:=if okB b then xR b else []
theorem ajc (b:Bm):exts (E8 b)=qj b:=by
 unfold E8 qj xR ext
 split
 ·rename_i c;rw [ace c 0 (by omega)]
 ·rfl
theorem alW {b:Bm}:cal env 95 [jg b]=some [(.list 2 ((qj b).map dw),true)]:=by
 have e1:=ai7 (b:=b) (a:=0)
 have eA:∀ a:Bm,jg a=.agg [.int .i64 a.size,.list 1 (a.ws.map eW)]:=fun _=>rfl
 rw [eA] at e1 ⊢
 rw [ah alL rfl];simp only [abH];simp only [start,aQ,aV,aO,aU,aH,aJ,aP,aS,Nat.reduceAdd,Nat.reduceSub]
 simp only [e1,bV,reduceCtorEq,Nat.reduceEqDiff,Nat.reduceAdd,Nat.reduceLT,Nat.reduceLeDiff,Nat.beq]
 rw [VE (env:=env) (fun j=>[⟨false,[.pv (.int .i64 b.size),.pv (.list 1 (b.ws.map eW))]⟩,⟨false,[.row 2 ((exts ((E8 b).take j)).map dw)]⟩]) (xs:=yI (E8 b)) rfl (by have:=afP (b:=b) (a:=0) (by omega);exact this) rfl ?_]
 ·simp only [yI,List.length_map,List.take_length,PU,bV,reduceCtorEq,Nat.reduceEqDiff,Nat.reduceAdd,Nat.reduceLT,Nat.reduceLeDiff,Nat.beq]
  rw [ajc]
 ·intro j x hx sl0
  simp only [yI,List.getElem?_map,Option.map_eq_some_iff] at hx
  obtain ⟨i,hi,rfl⟩:=hx
  obtain ⟨k1,k2,k3⟩:=afV hi
  have hlim:lim=1073741824:=rfl
  have hj:=(List.getElem?_eq_some_iff.1 hi).1
  have ht:(E8 b).take (j+1)=(E8 b).take j++[i]:=by rw [List.take_add_one,hi];rfl
  have hlen:((E8 b).take j).length=j:=by simp;omega
  rw [ht]
  rcases iF ((E8 b).take j) with h0|⟨p,q,h0⟩
  ·have F2:(((0:Nat):Int) > 0)=False:=eq_false (by omega)
   have F3:(0+1≤lim)=True:=eq_true (by omega)
   have e0:exts ([]:List Nat)=[]:=rfl
   have e2:exts [i]=[⟨i,1⟩]:=rfl
   refine ⟨?_,?_⟩
   rotate_left
   ·simp only [h0,List.nil_append,C9,Dc,F2,F3,e0,e2,dw,List.map_nil,List.map_cons,PU,bV,reduceCtorEq,Nat.reduceEqDiff,Nat.reduceAdd,Nat.reduceLT,Nat.reduceLeDiff,Nat.beq]
    rfl
  ·obtain ⟨pre,⟨s,c⟩,e0,h1,h2,h3,h4⟩:=wS _ p rfl q
   have hqi:q<i:=k3 q (by rw [h0];simp)
   simp only at h1 h2 h3
   have hpl:p.length+1=j:=by rw [h0] at hlen;simpa using hlen
   have F2:(((pre.length+1:Nat):Int) > 0)=True:=eq_true (by omega)
   have F3:=IB (n:=pre.length) (by omega)
   have F4:IntKind.i64.wrap (s+c)=s+c:=bn (by omega)
   have F5:IntKind.i64.wrap (c+1)=c+1:=bn (by omega)
   have F6:(pre.length+1+1≤lim)=True:=eq_true (by omega)
   have F7:index (.int .i64 (pre.length:Int)) (pre.length+1)=some pre.length:=aj (by omega)
   by_cases hc:s+c=(i:Int)
   ·have F8:(s+c==(i:Int))=true:=by simpa using hc
    have e2:exts (p++[q]++[i])=pre++[⟨s,c+1⟩]:=by rw [nT,e0,fO,if_pos hc]
    refine ⟨?_,?_⟩
    rotate_left
    ·simp only [h0,C9,Dc,e0,e2,F2,F3,F4,F5,F6,F7,F8,dw,List.map_append,List.map_cons,List.map_nil,PU,bV,reduceCtorEq,Nat.reduceEqDiff,Nat.reduceAdd,Nat.reduceLT,Nat.reduceLeDiff,Nat.beq]
     rfl
   ·have F8:(s+c==(i:Int))=false:=by simpa using hc
    have e2:exts (p++[q]++[i])=pre++[⟨s,c⟩]++[⟨i,1⟩]:=by rw [nT,e0,fO,if_neg hc]
    refine ⟨?_,?_⟩
    rotate_left
    ·simp only [h0,C9,Dc,e0,e2,F2,F3,F4,F5,F6,F7,F8,dw,List.map_append,List.map_cons,List.map_nil,PU,bV,reduceCtorEq,Nat.reduceEqDiff,Nat.reduceAdd,Nat.reduceLT,Nat.reduceLeDiff,Nat.beq]
     rfl
end Go.Proofs.YtpcncggjmabnaaaGreatDoor.V

namespace Go.Proofs.YtpcncggjmabnaaaGreatDoor.V
end Go.Proofs.YtpcncggjmabnaaaGreatDoor.V

namespace Go.Proofs.YtpcncggjmabnaaaGreatDoor.V
end Go.Proofs.YtpcncggjmabnaaaGreatDoor.V

namespace Go.Proofs.YtpcncggjmabnaaaGreatDoor.V
theorem acE {n a b:Int}:cal env 72 [.int .i64 n,.int .i64 a,.int .i64 b]=some [(.bool (decide (a≤n)&&decide (n≤b)),false)]:=by
 by_cases h:a≤n
 ·have F1:(a≤n)=True:=eq_true h
  rw [ah ahh rfl];simp only [Yp,aB,Nat.reduceBEq,Nat.reduceLeDiff,Nat.reduceAdd,List.length_cons,List.length_nil]
  simp only [F1,au,Nat.reduceMul,Nat.reduceBEq,Nat.reduceLT,Nat.reduceLeDiff,reduceCtorEq,Nat.reduceEqDiff,Nat.reduceAdd,Nat.beq]
 ·have F1:(a≤n)=False:=eq_false h
  rw [ah ahh rfl];simp only [Yp,aB,Nat.reduceBEq,Nat.reduceLeDiff,Nat.reduceAdd,List.length_cons,List.length_nil]
  simp only [F1,au,Nat.reduceMul,Nat.reduceBEq,Nat.reduceLT,Nat.reduceLeDiff,reduceCtorEq,Nat.reduceEqDiff,Nat.reduceAdd,Nat.beq]
def afW (n:Int):Bool:=!(decide (0≤n)&&decide (n≤1073741824))
def acF (l:List Int):Int:=if 8<l.length then 6 else if l.any afW then 2 else 0
theorem ajd {n:Int}:cal env 103 [eI n]=some [(.bool (afW n),false)]:=by
 have e1:=acE (n:=n) (a:=0) (b:=1073741824)
 unfold eI
 rw [ah aiz rfl];simp only [OW,aB,Nat.reduceBEq,Nat.reduceLeDiff,Nat.reduceAdd,List.length_cons,List.length_nil]
 simp only [e1,afW,au,Nat.reduceMul,Nat.reduceBEq,Nat.reduceLT,Nat.reduceLeDiff,reduceCtorEq,Nat.reduceEqDiff,Nat.reduceAdd,Nat.beq]
theorem alX {l:List Int} (hl:l.length≤20):cal env 73 [.list 1 (l.map eI),.int .i64 0]=some [(.int .i64 (acF l),false)]:=by
 have e1:=acE (n:=(l.length:Int)) (a:=0) (b:=8)
 have e2:=abW (l:=l) (enc:=eI) (caps:=[]) (fun x _=>ajd (n:=x)) (fun x=>rfl) (Nat.le_trans hl (by decide))
 unfold acF
 by_cases h:8<l.length
 ·have G:(decide ((0:Int)≤l.length)&&decide ((l.length:Int)≤8))=false:=by simp;omega
  rw [G] at e1
  rw [if_pos h]
  rw [ah abQ rfl];simp only [Ua,aB,Nat.reduceBEq,Nat.reduceLeDiff,Nat.reduceAdd,List.length_cons,List.length_nil]
  simp only [e1,List.length_map,au,Nat.reduceMul,Nat.reduceBEq,Nat.reduceLT,Nat.reduceLeDiff,reduceCtorEq,Nat.reduceEqDiff,Nat.reduceAdd,Nat.beq]
 ·have G:(decide ((0:Int)≤l.length)&&decide ((l.length:Int)≤8))=true:=by simp;omega
  rw [G] at e1
  rw [if_neg h]
  cases hb:l.any afW with
  |true =>
   rw [hb] at e2
   rw [ah abQ rfl];simp only [Ua,aB,Nat.reduceBEq,Nat.reduceLeDiff,Nat.reduceAdd,List.length_cons,List.length_nil]
   simp only [e1,e2,List.length_map,au,Nat.reduceMul,Nat.reduceBEq,Nat.reduceLT,Nat.reduceLeDiff,reduceCtorEq,Nat.reduceEqDiff,Nat.reduceAdd,Nat.beq]
  |false =>
   rw [hb] at e2
   rw [ah abQ rfl];simp only [Ua,aB,Nat.reduceBEq,Nat.reduceLeDiff,Nat.reduceAdd,List.length_cons,List.length_nil]
   simp only [e1,e2,List.length_map,au,Nat.reduceMul,Nat.reduceBEq,Nat.reduceLT,Nat.reduceLeDiff,reduceCtorEq,Nat.reduceEqDiff,Nat.reduceAdd,Nat.beq]
def YO (b n t:Int) (p:List Int) (w:List bK):PV:=.agg [.int .i64 b,.int .i64 n,.int .i64 t,.list 1 (p.map eI),.list 3 (w.map dQ)]
def Lr (b n t:Int) (p:List Int):Int:=if b<0∨n≤b∨n > 1073741824 then 2 else if t<0∨t > 1073741824 then 24 else acF p
end Go.Proofs.YtpcncggjmabnaaaGreatDoor.V

namespace Go.Proofs.YtpcncggjmabnaaaGreatDoor.V
structure kX where
 base:Int
 num:Int
 time:Int
 pos:List Int
 ws:List bK
def gU (c:kX):PV:=.agg [.int .i64 c.base,.int .i64 c.num,.int .i64 c.time,.list 1 (c.pos.map eI),.list 3 (c.ws.map dQ)]
theorem mO (c:kX):gU c=.agg [.int .i64 c.base,.int .i64 c.num,.int .i64 c.time,.list 1 (c.pos.map eI),.list 3 (c.ws.map dQ)]:=rfl
theorem Ls {l:List kX} {i:Nat} (h:i<l.length):(l.map gU)[i]?=some (.agg [.int .i64 l[i].base,.int .i64 l[i].num,.int .i64 l[i].time,.list 1 (l[i].pos.map eI),.list 3 (l[i].ws.map dQ)]):=by rw [List.getElem?_map,List.getElem?_eq_getElem h];rfl
theorem rC {l:List bK} {i:Nat} (h:i<l.length):(l.map dQ)[i]?=some (.agg [.int .i64 l[i].volume,.int .i64 l[i].start,.list 8 (l[i].data.map iJ)]):=by rw [List.getElem?_map,List.getElem?_eq_getElem h];rfl
end Go.Proofs.YtpcncggjmabnaaaGreatDoor.V

namespace Go.Proofs.YtpcncggjmabnaaaGreatDoor.V
def uo (x w:bK):Bool:=decide (w.volume<x.volume) || (decide (w.volume=x.volume)&&decide (w.start≤x.start+(x.data.length:Int)))
def xY (im:ig):Option bK→List bK→Int
 |_,[]=>0
 |p,w :: l=>if aT im w≠0 then aT im w else if (match p with|none=>false|some x=>uo x w) then 3 else xY im (some w) l
theorem vS (im:ig) (p:Option bK) (w:bK) (l:List bK):xY im p (w :: l)=if aT im w≠0 then aT im w else if (match p with|none=>false|some x=>uo x w) then 3 else xY im (some w) l:=by cases p<;>rfl
def vT (l:List bK):Nat→Option bK
 |0=>none
 |i+1=>l[i]?
def wcI (im:ig) (l:List bK) (i:Nat):Prop:=xY im none l=xY im (vT l i) (l.drop i)∧∀ x,vT l i=some x→aT im x=0
theorem aoC (im:ig) (l:List bK):wcI im l 0:=⟨rfl,fun x h=>by cases h⟩
theorem acG {im:ig} {l:List bK} {i:Nat} (hp:wcI im l i) (h:i<l.length):xY im none l=if aT im l[i]≠0 then aT im l[i] else if (match vT l i with|none=>false|some x=>uo x l[i]) then 3 else xY im (vT l (i+1)) (l.drop (i+1)):=by
 rw [hp.1,List.drop_eq_getElem_cons h,vS,show vT l (i+1)=some l[i] from List.getElem?_eq_getElem h]
theorem Fa {im:ig} {l:List bK} {i:Nat} (hp:wcI im l i) (h:i<l.length) (h1:aT im l[i]=0) (h2:(match vT l i with|none=>false|some x=>uo x l[i])=false):wcI im l (i+1):=by
 refine ⟨?_,?_⟩
 ·rw [acG hp h,if_neg (by simpa using h1),if_neg (by rw [h2];exact Bool.false_ne_true)]
 ·intro x hx
  simp only [vT,List.getElem?_eq_getElem h,Option.some.injEq] at hx
  rw [← hx];exact h1
def resE (n d:Nat) (e:Int):Option (Ex × St):=if e=0 then some (.normal,⟨sl n [(d,.any)],[],[],none⟩) else some (.ret,⟨sl n [(d,.pv (.int .i64 e))],[],[],none⟩)
theorem Lu {n d:Nat} {e:Int} (h:e≠0):resE n d e=some (.ret,⟨sl n [(d,.pv (.int .i64 e))],[],[],none⟩):=if_neg h
theorem afX {n d:Nat}:resE n d 0=some (.normal,⟨sl n [(d,.any)],[],[],none⟩):=if_pos rfl
theorem kY {im:ig} {w:bK} (h:aT im w=0):0≤w.volume∧w.volume<im.length∧0≤w.start∧w.start+w.data.length≤((im.getD w.volume.toNat []).length:Int):=by
 unfold aT at h
 split at h
 ·omega
 ·split at h
  ·omega
  ·split at h
   ·omega
   ·omega
theorem YP {im:ig} {n:Nat} (hr:∀ v∈im,v.length≤n) (v:Nat):(im.getD v []).length≤n:=by
 by_cases h:v<im.length
 ·have e:im.getD v []=im[v]:=by simp [h]
  rw [e];exact hr _ (List.getElem_mem h)
 ·have e:im.getD v []=[]:=by simp [List.getD_eq_getElem?_getD,List.getElem?_eq_none (Nat.le_of_not_lt h)]
  rw [e];simp
theorem rX (x:bK):part [PV.int .i64 x.volume,.int .i64 x.start,.list 8 (x.data.map iJ)] 0 (some 3)=some (.agg [.int .i64 x.volume,.int .i64 x.start,.list 8 (x.data.map iJ)]):=rfl
theorem afY {im:ig} {l:List bK} {gf:Nat} {caps:List PV} (hcall:∀ w∈l,cal env gf (dQ w :: caps)=some [(.int .i64 (aT im w),false)]) (hr:∀ v∈im,v.length≤1000000) (hl:l.length≤lim) (hI0:wcI im l 0) {st:St} (h:st.head [0,1,9,10,11] st.boxes.length=some ⟨sl 53 [(0,.pv (.list 3 (l.map dQ))),(1,.pv (.func gf caps)),(9,.pv (.list 3 (l.map dQ))),(10,.pv (.int .i64 l.length)),(11,.pv (.int .i64 (0:Nat)))],[],[],none⟩) :
  den env Et st=resE 53 4 (xY im none l):=by
 unfold Et
 refine Yv (env:=env) (l.length) (fun i=>wcI im l (i)) (fun i=>⟨sl 53 [(0,.pv (.list 3 (l.map dQ))),(1,.pv (.func gf caps)),(9,.pv (.list 3 (l.map dQ))),(10,.pv (.int .i64 l.length)),(11,.pv (.int .i64 i))],[],[],none⟩) (fun i=>resE 53 4 (xY im none l)) h hI0 (fun _=>rfl) (fun _=>by simp only [aB,bg,Nat.reduceMul,Nat.reduceBEq,Nat.reduceLT,Nat.reduceLeDiff,Nat.reduceAdd,decide_true,Bool.and_self,Bool.true_and]) ?_ ?_
 ·intro i rb hi hp ih
  have hi1:=bG hi hl
  have F1:((i:Int)<(l.length:Int))=True:=eq_true (by omega)
  have e1:=hcall _ (List.getElem_mem hi)
  have hA:=acG hp hi
  have hx:=rC hi
  unfold dQ at e1
  by_cases c1:aT im l[i]=0
  ·have G1:((0:Int) != 0)=false:=rfl
   rw [c1] at e1
   rw [if_neg (by simpa using c1)] at hA
   cases i with
   |zero =>
    have Z0:(((0:Nat):Int)==0)=true:=rfl
    simp only [oD,F1,rX,Z0,G1,e1,hx,aj hi,au,Nat.reduceMul,Nat.reduceBEq,Nat.reduceLT,Nat.reduceLeDiff,reduceCtorEq,Nat.reduceEqDiff,Nat.reduceAdd,Nat.beq]
    rw [ih (Fa hp hi c1 rfl) _ (by simp only [hi1,au,Nat.reduceMul,Nat.reduceBEq,Nat.reduceLT,Nat.reduceLeDiff,reduceCtorEq,Nat.reduceEqDiff,Nat.reduceAdd,Nat.beq]<;>rfl)]
   |succ j =>
    have hj:j<l.length:=by omega
    have hy:=rC hj
    have hpv:vT l (j+1)=some l[j]:=by simp only [vT,List.getElem?_eq_getElem hj]
    have Z:(((j+1:Nat):Int)==0)=false:=by simp;omega
    have W:IntKind.i64.wrap (((j+1:Nat):Int) - 1)=(j:Int):=by rw [show ((j+1:Nat):Int) - 1=(j:Int) by omega];exact bn (by unfold lim at hl;omega)
    have q0:=hp.2 _ hpv
    obtain ⟨q1,q2,q3,q4⟩:=kY q0
    have q5:=YP hr l[j].volume.toNat
    have W2:IntKind.i64.wrap (l[j].start+(l[j].data.length:Int))=l[j].start+(l[j].data.length:Int):=bn (by omega)
    by_cases c2:l[j+1].volume<l[j].volume
    ·have hb:uo l[j] l[j+1]=true:=by simp [uo,c2]
     have D1:(l[j+1].volume<l[j].volume)=True:=eq_true c2
     rw [hpv] at hA
     rw [if_pos hb] at hA
     rw [hA,Lu (by decide)]
     simp only [oD,F1,rX,Z,W,W2,D1,G1,e1,hx,hy,aj hi,aj hj,List.length_map,au,Nat.reduceMul,Nat.reduceBEq,Nat.reduceLT,Nat.reduceLeDiff,reduceCtorEq,Nat.reduceEqDiff,Nat.reduceAdd,Nat.beq]
    ·have D1:(l[j+1].volume<l[j].volume)=False:=eq_false c2
     by_cases c3:l[j+1].volume=l[j].volume
     ·have D2:(l[j+1].volume==l[j].volume)=true:=by simp [c3]
      by_cases c4:l[j+1].start≤l[j].start+(l[j].data.length:Int)
      ·have D3:(l[j+1].start≤l[j].start+(l[j].data.length:Int))=True:=eq_true c4
       have hb:uo l[j] l[j+1]=true:=by simp [uo,c3,c4]
       rw [hpv] at hA
       rw [if_pos hb] at hA
       rw [hA,Lu (by decide)]
       simp only [oD,F1,rX,Z,W,W2,D1,D2,D3,G1,e1,hx,hy,aj hi,aj hj,List.length_map,au,Nat.reduceMul,Nat.reduceBEq,Nat.reduceLT,Nat.reduceLeDiff,reduceCtorEq,Nat.reduceEqDiff,Nat.reduceAdd,Nat.beq]
      ·have D3:(l[j+1].start≤l[j].start+(l[j].data.length:Int))=False:=eq_false c4
       have hb:uo l[j] l[j+1]=false:=by simp [uo,c3];omega
       simp only [oD,F1,rX,Z,W,W2,D1,D2,D3,G1,e1,hx,hy,aj hi,aj hj,List.length_map,au,Nat.reduceMul,Nat.reduceBEq,Nat.reduceLT,Nat.reduceLeDiff,reduceCtorEq,Nat.reduceEqDiff,Nat.reduceAdd,Nat.beq]
       rw [ih (Fa hp hi c1 (by rw [hpv];exact hb)) _ (by simp only [hi1,au,Nat.reduceMul,Nat.reduceBEq,Nat.reduceLT,Nat.reduceLeDiff,reduceCtorEq,Nat.reduceEqDiff,Nat.reduceAdd,Nat.beq]<;>rfl)]
     ·have D2:(l[j+1].volume==l[j].volume)=false:=by simp [c3]
      have hb:uo l[j] l[j+1]=false:=by simp [uo,c3];omega
      simp only [oD,F1,rX,Z,W,W2,D1,D2,G1,e1,hx,hy,aj hi,aj hj,List.length_map,au,Nat.reduceMul,Nat.reduceBEq,Nat.reduceLT,Nat.reduceLeDiff,reduceCtorEq,Nat.reduceEqDiff,Nat.reduceAdd,Nat.beq]
      rw [ih (Fa hp hi c1 (by rw [hpv];exact hb)) _ (by simp only [hi1,au,Nat.reduceMul,Nat.reduceBEq,Nat.reduceLT,Nat.reduceLeDiff,reduceCtorEq,Nat.reduceEqDiff,Nat.reduceAdd,Nat.beq]<;>rfl)]
  ·have G1:(aT im l[i] != 0)=true:=by simp [c1]
   rw [if_pos c1] at hA
   rw [hA,Lu c1]
   simp only [oD,F1,rX,G1,e1,hx,aj hi,au,Nat.reduceMul,Nat.reduceBEq,Nat.reduceLT,Nat.reduceLeDiff,reduceCtorEq,Nat.reduceEqDiff,Nat.reduceAdd,Nat.beq]
 ·intro rb hp
  have hA:=hp.1
  rw [List.drop_length] at hA
  rw [hA,show xY im (vT l l.length) []=0 by cases vT l l.length<;>rfl]
  rw [afX]
  simp only [oD,Int.lt_irrefl,au,Nat.reduceMul,Nat.reduceBEq,Nat.reduceLT,Nat.reduceLeDiff,reduceCtorEq,Nat.reduceEqDiff,Nat.reduceAdd,Nat.beq]
theorem aje {im:ig} {l:List bK} {gf:Nat} {caps:List PV} (hcall:∀ w∈l,cal env gf (dQ w :: caps)=some [(.int .i64 (aT im w),false)]) (hr:∀ v∈im,v.length≤1000000) (hl:l.length≤lim) :
  cal env 104 [.list 3 (l.map dQ),.func gf caps]=some [(.int .i64 (xY im none l),false)]:=by
 rw [ah aiA rfl];simp only [OX,aB,Nat.reduceBEq,Nat.reduceLeDiff,Nat.reduceAdd,List.length_cons,List.length_nil]
 simp only [List.length_map,au,Nat.reduceMul,Nat.reduceBEq,Nat.reduceLT,Nat.reduceLeDiff,reduceCtorEq,Nat.reduceEqDiff,Nat.reduceAdd,Nat.beq]
 rw [afY hcall hr hl (aoC im l)]
 rotate_left
 ·simp only [aB,bg,Nat.reduceMul,Nat.reduceBEq,Nat.reduceLT,Nat.reduceLeDiff,Nat.reduceAdd,decide_true,Bool.and_self,Bool.true_and]<;>rfl
 ·unfold resE
  split
  ·rename_i c
   rw [c]
   simp only [au,Nat.reduceMul,Nat.reduceBEq,Nat.reduceLT,Nat.reduceLeDiff,reduceCtorEq,Nat.reduceEqDiff,Nat.reduceAdd,Nat.beq]
  ·simp only [au,Nat.reduceMul,Nat.reduceBEq,Nat.reduceLT,Nat.reduceLeDiff,reduceCtorEq,Nat.reduceEqDiff,Nat.reduceAdd,Nat.beq]
theorem jA {z:List Int} (h:aN z=0):aA (aC z)=z:=by
 unfold aA aC
 rw [List.map_map]
 conv=>rhs;rw [← List.map_id z]
 refine List.map_congr_left fun x hx=>?_
 unfold aN at h
 split at h
 ·omega
 ·split at h
  ·omega
  ·rename_i h2
   simp only [List.any_eq_true,not_exists,not_and,Bool.not_eq_true] at h2
   have:=h2 x hx
   simp at this
   simp;omega
theorem iR (z:List Int):(aC z).length=z.length:=by unfold aC;simp
theorem II {z:List Int} (h:aN z=0):∀ v∈aC z,v.length≤4096:=fun v hv=>by
 unfold aC at hv
 obtain ⟨x,hx,rfl⟩:=List.mem_map.1 hv
 unfold aN at h
 split at h
 ·omega
 ·split at h
  ·omega
  ·rename_i h2
   simp only [List.any_eq_true,not_exists,not_and,Bool.not_eq_true] at h2
   have:=h2 x hx
   simp at this
   simp;omega
theorem Uk {z:List Int} (h:aN z=0):dH (aC z)=0:=by
 show aN (aA (aC z))=0
 rw [jA h];exact h
theorem Ul {z:List Int} (h:aN z=0) (w:bK):nS (aC z) w=aT (aC z) w:=by
 unfold nS
 rw [if_neg (by rw [Uk h];simp)]
def wkE (z:List Int) (l:List bK):Int:=if aN z=0 then xY (aC z) none l else aN z
theorem afZ {im:ig} {w:bK} (hl:im.length≤lim) (hr:∀ v∈im,v.length≤lim) (hd:w.data.length≤lim):cal env 105 [dQ w,.dN [.list 1 (im.map bf)] 0]=some [(.int .i64 (nS im w),false)]:=by
 have e1:=ai4 hl hr hd
 unfold dQ at *
 rw [ah aiB rfl];simp only [OY];simp only [start,aQ,aV,aO,aU,aH,aJ,aP,aS,Nat.reduceAdd,Nat.reduceSub]
 simp only [e1,bV,reduceCtorEq,Nat.reduceEqDiff,Nat.reduceAdd,Nat.reduceLT,Nat.reduceLeDiff,Nat.beq]
theorem ajf {z:List Int} {l:List bK} (hz:z.length≤lim) (hl:l.length≤lim) (hd:∀ w∈l,w.data.length≤lim) :
  cal env 74 [.list 3 (l.map dQ),.list 1 (z.map eI)]=some [(.int .i64 (wkE z l),false)]:=by
 have e1:=VD hz
 unfold wkE
 by_cases c:aN z=0
 ·rw [if_pos c]
  have hr:=II c
  have e2:=aje (im:=aC z) (l:=l) (gf:=105) (caps:=[.dN [.list 1 ((aC z).map bf)] 0]) (fun w hw=>by
   have:=afZ (im:=aC z) (w:=w) (by rw [iR];exact hz) (fun v hv=>by have:=hr v hv;unfold lim;omega) (hd w hw)
   rw [Ul c] at this
   exact this) (fun v hv=>by have:=hr v hv;omega) hl
  rw [c,if_pos rfl] at e1
  have Z:((0:Int) != 0)=false:=rfl
  rw [ah ahi rfl];simp only [Yq];simp only [start,aQ,aV,aO,aU,aH,aJ,aP,aS,Nat.reduceAdd,Nat.reduceSub]
  simp only [e1,e2,Z,bV,reduceCtorEq,Nat.reduceEqDiff,Nat.reduceAdd,Nat.reduceLT,Nat.reduceLeDiff,Nat.beq]
 ·rw [if_neg c] at e1
  rw [if_neg c]
  have Z:(aN z != 0)=true:=by simp [c]
  rw [ah ahi rfl];simp only [Yq];simp only [start,aQ,aV,aO,aU,aH,aJ,aP,aS,Nat.reduceAdd,Nat.reduceSub]
  simp only [e1,Z,bV,reduceCtorEq,Nat.reduceEqDiff,Nat.reduceAdd,Nat.reduceLT,Nat.reduceLeDiff,Nat.beq]
end Go.Proofs.YtpcncggjmabnaaaGreatDoor.V

namespace Go.Proofs.YtpcncggjmabnaaaGreatDoor.V
def ckC (z:List Int) (b n t:Int) (p:List Int) (w:List bK):Int:=if aN z=0 then (if Lr b n t p=0 then xY (aC z) none w else Lr b n t p) else aN z
theorem Um {z:List Int} {b n t:Int} {p:List Int} {w:List bK} (hz:z.length≤lim) (hl:w.length≤lim) (hd:∀ x∈w,x.data.length≤lim) (hp:p.length≤20) :
  cal env 42 [YO b n t p w,.list 1 (z.map eI)]=some [(.int .i64 (ckC z b n t p w),false)]:=by
 have e1:=VD hz
 by_cases cz:aN z=0
 rotate_left
 ·rw [if_neg cz] at e1
  have Z:(aN z != 0)=true:=by simp [cz]
  unfold YO ckC
  rw [if_neg cz]
  rw [ah PG rfl];simp only [JZ];simp only [start,aQ,aV,aO,aU,aH,aJ,aP,aS,Nat.reduceAdd,Nat.reduceSub]
  simp only [e1,Z,bV,reduceCtorEq,Nat.reduceEqDiff,Nat.reduceAdd,Nat.reduceLT,Nat.reduceLeDiff,Nat.beq]
 rw [cz,if_pos rfl] at e1
 have e4:=ajf hz hl hd
 rw [wkE,if_pos cz] at e4
 have hk:ckC z b n t p w=if Lr b n t p=0 then xY (aC z) none w else Lr b n t p:=if_pos cz
 rw [hk]
 clear hk
 generalize xY (aC z) none w=E at *
 have e2:=acE (n:=t) (a:=0) (b:=1073741824)
 have e3:=alX hp
 have Z:((0:Int) != 0)=false:=rfl
 unfold YO Lr
 by_cases c1:b<0∨n≤b∨n > 1073741824
 ·rw [if_pos c1,if_neg (by decide)]
  rw [ah PG rfl];simp only [JZ];simp only [start,aQ,aV,aO,aU,aH,aJ,aP,aS,Nat.reduceAdd,Nat.reduceSub]
  simp only [e1,Z,bV,reduceCtorEq,Nat.reduceEqDiff,Nat.reduceAdd,Nat.reduceLT,Nat.reduceLeDiff,Nat.beq]
  by_cases d1:b<0
  ·simp only [eq_true d1,bV,reduceCtorEq,Nat.reduceEqDiff,Nat.reduceAdd,Nat.reduceLT,Nat.reduceLeDiff,Nat.beq]
  ·have d1:=eq_false d1
   by_cases d2:n≤b
   ·simp only [d1,eq_true d2,bV,reduceCtorEq,Nat.reduceEqDiff,Nat.reduceAdd,Nat.reduceLT,Nat.reduceLeDiff,Nat.beq]
   ·have d3:n > 1073741824:=by simp only [d1,false_or] at c1;omega
    simp only [d1,eq_false d2,eq_true d3,bV,reduceCtorEq,Nat.reduceEqDiff,Nat.reduceAdd,Nat.reduceLT,Nat.reduceLeDiff,Nat.beq]
 ·rw [if_neg c1]
  have G1:(b<0)=False:=eq_false (by omega)
  have G2:(n≤b)=False:=eq_false (by omega)
  have G3:(n > 1073741824)=False:=eq_false (by omega)
  by_cases c2:t<0∨t > 1073741824
  ·rw [if_pos c2,if_neg (by decide)]
   have G4:(decide ((0:Int)≤t)&&decide (t≤1073741824))=false:=by simp;omega
   rw [G4] at e2
   rw [ah PG rfl];simp only [JZ];simp only [start,aQ,aV,aO,aU,aH,aJ,aP,aS,Nat.reduceAdd,Nat.reduceSub]
   simp only [e1,e2,G1,G2,G3,Z,bV,reduceCtorEq,Nat.reduceEqDiff,Nat.reduceAdd,Nat.reduceLT,Nat.reduceLeDiff,Nat.beq]
  ·rw [if_neg c2]
   have G4:(decide ((0:Int)≤t)&&decide (t≤1073741824))=true:=by simp;omega
   rw [G4] at e2
   by_cases c3:acF p=0
   ·rw [c3] at e3
    rw [c3,if_pos rfl]
    rw [ah PG rfl];simp only [JZ];simp only [start,aQ,aV,aO,aU,aH,aJ,aP,aS,Nat.reduceAdd,Nat.reduceSub]
    simp only [e1,e2,e3,e4,G1,G2,G3,Z,bV,reduceCtorEq,Nat.reduceEqDiff,Nat.reduceAdd,Nat.reduceLT,Nat.reduceLeDiff,Nat.beq]
   ·have G5:(acF p != 0)=true:=by simp [c3]
    rw [if_neg c3]
    rw [ah PG rfl];simp only [JZ];simp only [start,aQ,aV,aO,aU,aH,aJ,aP,aS,Nat.reduceAdd,Nat.reduceSub]
    simp only [e1,e2,e3,G1,G2,G3,G5,Z,bV,reduceCtorEq,Nat.reduceEqDiff,Nat.reduceAdd,Nat.reduceLT,Nat.reduceLeDiff,Nat.beq]
end Go.Proofs.YtpcncggjmabnaaaGreatDoor.V

namespace Go.Proofs.YtpcncggjmabnaaaGreatDoor.V
end Go.Proofs.YtpcncggjmabnaaaGreatDoor.V

namespace Go.Proofs.YtpcncggjmabnaaaGreatDoor.V
end Go.Proofs.YtpcncggjmabnaaaGreatDoor.V

namespace Go.Proofs.YtpcncggjmabnaaaGreatDoor.V
end Go.Proofs.YtpcncggjmabnaaaGreatDoor.V

namespace Go.Proofs.YtpcncggjmabnaaaGreatDoor.V
structure og where
 lm:Int
 sz:List Int
 cy:List kX
 ov:Bool
 fs:Int
 ls:Int
 dt:List Bm
def oI (s:og):PV:=.agg [.int .i64 s.lm,.list 1 (s.sz.map eI),.list 5 (s.cy.map gU),.bool s.ov,.int .i64 s.fs,.int .i64 s.ls,.list 2 (s.dt.map jg)]
theorem eP (s:og):oI s=.agg [.int .i64 s.lm,.list 1 (s.sz.map eI),.list 5 (s.cy.map gU),.bool s.ov,.int .i64 s.fs,.int .i64 s.ls,.list 2 (s.dt.map jg)]:=rfl
def YQ:og:=⟨0,[],[],false,0,0,[]⟩
theorem oP:oI YQ=.agg [.int .i64 0,.list 1 [],.list 5 [],.bool false,.int .i64 0,.int .i64 0,.list 2 []]:=rfl
theorem acH (n:Int) (z:List Int):oI ⟨n,z,[],false,0,0,[]⟩=.agg [.int .i64 n,.list 1 (z.map eI),.list 5 [],.bool false,.int .i64 0,.int .i64 0,.list 2 []]:=rfl
theorem fP (a b c d e f g:PV):part [a,b,c,d,e,f,g] 0 (some 7)=some (.agg [a,b,c,d,e,f,g]):=rfl
theorem jB (a b c d e:PV):part [a,b,c,d,e] 0 (some 5)=some (.agg [a,b,c,d,e]):=rfl
theorem rY (a b:PV):part [a,b] 0 (some 2)=some (.agg [a,b]):=rfl
theorem Un {es:List PV} (hl:es.length≤lim):cal env 39 [.list 1 es]=some [(.list 1 es,true)]:=(wQ alm).trans (if_pos ⟨rfl,hl⟩)
def IJ (z:List Int) (n:Int):Int:=if aN z=0 then (if n<1∨n > 1024 then 2 else 0) else aN z
def af2 (z:List Int) (n:Int):og:=if IJ z n=0 then ⟨n,z,[],false,0,0,[]⟩ else YQ
theorem alY {z:List Int} {n:Int} (hz:z.length≤lim):cal env 11 [.list 1 (z.map eI),.int .i64 n]=some [(oI (af2 z n),false),(.int .i64 (IJ z n),false)]:=by
 have e1:=VD hz
 have e2:=Un (es:=z.map eI) (by rw [List.length_map];exact hz)
 unfold af2 IJ
 by_cases c:aN z=0
 ·rw [c,if_pos rfl] at e1
  rw [if_pos c]
  have Z:((0:Int) != 0)=false:=rfl
  by_cases c1:n<1
  ·have F1:=eq_true c1
   rw [if_pos (Or.inl c1:n<1∨n > 1024),if_neg (by decide),oP]
   rw [ah VA rfl];simp only [OQ,aB,Nat.reduceBEq,Nat.reduceLeDiff,Nat.reduceAdd,List.length_cons,List.length_nil]
   simp only [e1,Z,F1,fP,au,Nat.reduceMul,Nat.reduceBEq,Nat.reduceLT,Nat.reduceLeDiff,reduceCtorEq,Nat.reduceEqDiff,Nat.reduceAdd,Nat.beq]
  ·have F1:=eq_false c1
   by_cases c2:n > 1024
   ·have F2:=eq_true c2
    rw [if_pos (Or.inr c2:n<1∨n > 1024),if_neg (by decide),oP]
    rw [ah VA rfl];simp only [OQ,aB,Nat.reduceBEq,Nat.reduceLeDiff,Nat.reduceAdd,List.length_cons,List.length_nil]
    simp only [e1,Z,F1,F2,fP,au,Nat.reduceMul,Nat.reduceBEq,Nat.reduceLT,Nat.reduceLeDiff,reduceCtorEq,Nat.reduceEqDiff,Nat.reduceAdd,Nat.beq]
   ·have F2:=eq_false c2
    rw [if_neg (show ¬ (n<1∨n > 1024) by omega),if_pos rfl,acH]
    rw [ah VA rfl];simp only [OQ,aB,Nat.reduceBEq,Nat.reduceLeDiff,Nat.reduceAdd,List.length_cons,List.length_nil]
    simp only [e1,e2,Z,F1,F2,fP,au,Nat.reduceMul,Nat.reduceBEq,Nat.reduceLT,Nat.reduceLeDiff,reduceCtorEq,Nat.reduceEqDiff,Nat.reduceAdd,Nat.beq]
 ·rw [if_neg c] at e1
  rw [if_neg c,if_neg c,oP]
  have Z:(aN z != 0)=true:=by simp [c]
  rw [ah VA rfl];simp only [OQ,aB,Nat.reduceBEq,Nat.reduceLeDiff,Nat.reduceAdd,List.length_cons,List.length_nil]
  simp only [e1,Z,fP,au,Nat.reduceMul,Nat.reduceBEq,Nat.reduceLT,Nat.reduceLeDiff,reduceCtorEq,Nat.reduceEqDiff,Nat.reduceAdd,Nat.beq]
theorem ajg {z:List Int} (hz:z.length≤1000) (hs:∀ x∈z,1≤x∧x≤4096) {st:St} (h:st.head [0,5,6,25] st.boxes.length=some ⟨sl 27 [(0,.pv (.list 1 (z.map eI))),(5,.row 1 ((aC (z.take ((0:Nat)))).map bf)),(6,.pv (.int .i64 (0:Nat))),(25,.any)],[],[],none⟩) :
  den env JW st=some (.normal,⟨sl 27 [(2,.any),(3,.any),(5,.row 1 ((aC z).map bf))],[],[],none⟩):=by
 unfold JW
 refine bC (env:=env) (z.length) (fun i=>⟨sl 27 [(0,.pv (.list 1 (z.map eI))),(5,.row 1 ((aC (z.take (i))).map bf)),(6,.pv (.int .i64 i)),(25,.any)],[],[],none⟩) (fun i=>some (.normal,⟨sl 27 [(2,.any),(3,.any),(5,.row 1 ((aC z).map bf))],[],[],none⟩)) h (fun _=>rfl) (fun _=>by simp only [aB,bg,Nat.reduceMul,Nat.reduceBEq,Nat.reduceLT,Nat.reduceLeDiff,Nat.reduceAdd,decide_true,Bool.and_self,Bool.true_and]) ?_ ?_
 ·intro i rb hi ih
  have hi1:=bG hi (by unfold lim;omega)
  have F1:((i:Int)<(z.length:Int))=True:=eq_true (by omega)
  have q:=hs _ (List.getElem_mem hi)
  have F2:(0≤z[i])=True:=eq_true (by omega)
  have F3:(z[i]≤z[i])=True:=eq_true (Int.le_refl _)
  have F4:(z[i]≤(lim:Int))=True:=eq_true (by unfold lim;omega)
  have hx:(z.map eI)[i]?=some (.int .i64 z[i]):=by rw [List.getElem?_map,List.getElem?_eq_getElem hi];rfl
  have F5:(((aC (z.take i)).map bf).length+1≤lim)=True:=eq_true (by rw [List.length_map,iR,List.length_take];unfold lim;omega)
  have hs2:(aC (z.take (i+1))).map bf=(aC (z.take i)).map bf++[.list 8 (List.replicate z[i].toNat (.agg [.int .u8 0,.int .u8 0,.int .u8 0,.int .u8 0,.int .u8 0,.int .u8 0,.int .u8 0,.int .u8 0]))]:=by
   rw [List.take_succ_eq_append_getElem hi]
   unfold aC
   rw [List.map_append,List.map_append]
   congr 1
   simp only [List.map_cons,List.map_nil,bf,List.map_replicate]
   rfl
  rw [hs2] at ih
  simp only [JV,F1,F2,F3,F4,F5,hx,aj hi,List.length_map,au,Nat.reduceMul,Nat.reduceBEq,Nat.reduceLT,Nat.reduceLeDiff,reduceCtorEq,Nat.reduceEqDiff,Nat.reduceAdd,Nat.beq] at *
  simp only [F5,au,Nat.reduceMul,Nat.reduceBEq,Nat.reduceLT,Nat.reduceLeDiff,reduceCtorEq,Nat.reduceEqDiff,Nat.reduceAdd,Nat.beq]
  rw [ih _ (by simp only [hi1,au,Nat.reduceMul,Nat.reduceBEq,Nat.reduceLT,Nat.reduceLeDiff,reduceCtorEq,Nat.reduceEqDiff,Nat.reduceAdd,Nat.beq]<;>rfl)]
 ·intro rb
  rw [List.take_length]
  simp only [JV,Int.lt_irrefl,List.length_map,au,Nat.reduceMul,Nat.reduceBEq,Nat.reduceLT,Nat.reduceLeDiff,reduceCtorEq,Nat.reduceEqDiff,Nat.reduceAdd,Nat.beq]
theorem alZ {z:List Int} (hz:z.length≤1000):cal env 31 [.list 1 (z.map eI)]=some [(.list 1 ((if aN z=0 then aC z else []).map bf),true),(.int .i64 (aN z),false)]:=by
 have e1:=ahn (l:=z) (by unfold lim;omega)
 by_cases c:aN z=0
 ·have hs:∀ x∈z,1≤x∧x≤4096:=by
   intro x hx
   have h:=c
   unfold aN at h
   split at h
   ·omega
   ·split at h
    ·omega
    ·rename_i h2
     simp only [List.any_eq_true,not_exists,not_and,Bool.not_eq_true] at h2
     have:=h2 x hx
     simp at this
     omega
  rw [c] at e1
  rw [if_pos c,c]
  have Z:((0:Int) != 0)=false:=rfl
  rw [ah ahc rfl];simp only [Yk,aB,Nat.reduceBEq,Nat.reduceLeDiff,Nat.reduceAdd,List.length_cons,List.length_nil]
  simp only [e1,Z,au,Nat.reduceMul,Nat.reduceBEq,Nat.reduceLT,Nat.reduceLeDiff,reduceCtorEq,Nat.reduceEqDiff,Nat.reduceAdd,Nat.beq]
  rw [ajg hz hs (by simp only [aB,bg,Nat.reduceMul,Nat.reduceBEq,Nat.reduceLT,Nat.reduceLeDiff,Nat.reduceAdd,decide_true,Bool.and_self,Bool.true_and]<;>rfl)]
  simp only [e1,Z,au,Nat.reduceMul,Nat.reduceBEq,Nat.reduceLT,Nat.reduceLeDiff,reduceCtorEq,Nat.reduceEqDiff,Nat.reduceAdd,Nat.beq]
 ·rw [if_neg c]
  have Z:(aN z != 0)=true:=by simp [c]
  rw [ah ahc rfl];simp only [Yk,aB,Nat.reduceBEq,Nat.reduceLeDiff,Nat.reduceAdd,List.length_cons,List.length_nil]
  simp only [e1,Z,au,Nat.reduceMul,Nat.reduceBEq,Nat.reduceLT,Nat.reduceLeDiff,reduceCtorEq,Nat.reduceEqDiff,Nat.reduceAdd,Nat.beq]
end Go.Proofs.YtpcncggjmabnaaaGreatDoor.V
