/-
  Part 4 of the texts that the statement stands on.
-/
import Derived.Test.YtpcncggjmabnaaaGreatDoorZ3
import Derived.Lib.TrailingZeros
set_option linter.all false
namespace Go.Proofs.YtpcncggjmabnaaaGreatDoor
def fn6:eX:=⟨3,54,[.tmp 6],(.seq (.ops [.box 3 (.t 0),.aH 6 (.c (.bool false))]) (.seq (.seq (.ops [.load 13 (some 7) (.t 3),.call 14 14 [(.t 13)],.un 15 .not (.t 14),.aj 16 (.t 15),.grd 16 false (.aj 17 (.t 1)),.grd 16 false (.call 18 25 [(.t 17)]),.grd 16 false (.un 19 .not (.t 18)),.pick 20 (.t 16) (.c (.bool true)) (.t 19)]) (.cond (.t 20) (.seq (.ops [.call 21 10 [],.aH 6 (.t 21)]) .ret) .skip)) (.seq (.ops [.load 23 (some 7) (.t 3),.aj 24 (.t 1),.aj 25 (.t 2),.call 26 26 [(.t 23),(.t 24),(.t 25)],.aj 22 (.t 26),.ext 27 (.t 22) 0,.ext 28 (.t 22) 1,.ext 29 (.t 22) 2,.alloc 7 [(.int .i64 0),(.list 1 []),(.list 5 []),(.bool false),(.int .i64 0),(.int .i64 0),(.list 2 [])],.alloc 8 [(.int .i64 0),(.int .i64 0),(.int .i64 0),(.list 1 []),(.list 3 [])],.store none 7 (.t 7) (.t 27),.store none 5 (.t 8) (.t 28),.aH 9 (.t 29)]) (.seq (.ops [.load 31 (some 7) (.t 3),.aj 32 (.t 1),.aj 33 (.t 2),.call 34 27 [(.t 31),(.t 32),(.t 33)],.aj 30 (.t 34),.ext 35 (.t 30) 0,.ext 36 (.t 30) 1,.ext 37 (.t 30) 2,.alloc 10 [(.int .i64 0),(.list 1 []),(.list 5 []),(.bool false),(.int .i64 0),(.int .i64 0),(.list 2 [])],.alloc 11 [(.int .i64 0),(.int .i64 0),(.int .i64 0),(.list 1 []),(.list 3 [])],.store none 7 (.t 10) (.t 35),.store none 5 (.t 11) (.t 36),.aH 12 (.t 37)]) (.seq (.ops [.call 38 10 [],.aj 39 (.t 38),.grd 39 true (.load 40 (some 7) (.t 7)),.grd 39 true (.load 41 (some 7) (.t 10)),.grd 39 true (.call 42 13 [(.t 40),(.t 41)]),.pick 43 (.t 39) (.t 42) (.c (.bool false)),.aj 44 (.t 43),.grd 44 true (.load 45 (some 5) (.t 8)),.grd 44 true (.load 46 (some 5) (.t 11)),.grd 44 true (.call 47 22 [(.t 45),(.t 46)]),.pick 48 (.t 44) (.t 47) (.c (.bool false)),.aj 49 (.t 48),.grd 49 true (.aj 50 (.t 9)),.grd 49 true (.aj 51 (.t 12)),.grd 49 true (.bin 52 .eql (.t 50) (.t 51)),.pick 53 (.t 49) (.t 52) (.c (.bool false)),.aH 6 (.t 53)]) .ret)))))⟩
def yO:au:=(.seq (.seq (.ops [.aj 22 (.t 3),.bin 23 .lss (.t 22) (.c (.int .i64 2))]) (.cond (.t 23) .skip (.exit 0))) (.seq (.block 1 (.seq (.drs [] [1,2,3,4,5] [.load 27 (some 7) (.t 1),.aj 28 (.t 3),.aj 29 (.t 3),.bin 30 .add (.t 29) (.c (.int .i64 1)),.aj 31 (.t 3),.aj 32 (.t 3),.bin 33 .add (.t 32) (.c (.int .i64 1)),.conv 34 .u8 (.t 33),.call 35 36 [(.t 28),(.t 30),(.t 31),(.t 34)],.call 36 16 [(.t 27),(.t 35)],.aj 26 (.t 36),.ext 37 (.t 26) 0,.ext 38 (.t 26) 1,.alloc 4 [(.int .i64 0),(.list 1 []),(.list 5 []),(.bool false),(.int .i64 0),(.int .i64 0),(.list 2 [])],.store none 7 (.t 4) (.t 37),.aH 5 (.t 38)]
   [⟨[([0,1,2,3,4,5,6,7],8),([],9),([10,11,12],13)],(some ([],[],14,[])),[15],[0,1,2,3,4,5,6,7,8,9,10,11,12,13,14,15],false⟩,⟨[([0,1,2,3,4,5,6,7],8),([],13),([],9)],(some ([10,11],[12],14,[])),[15],[0,1,2,3,4,5,6,7,8,13,9,10,11,12,14,15],false⟩,⟨[([0,1,2,3,4,5,6,7],13),([],8),([],9)],(some ([10,11],[12],14,[])),[15],[0,1,2,3,4,5,6,7,13,8,9,10,11,12,14,15],false⟩]) (.ops [.load 39 (some 7) (.t 4),.aj 40 (.t 2),.aj 41 (.t 5),.bin 42 .add (.t 40) (.t 41),.store none 7 (.t 1) (.t 39),.aH 2 (.t 42)]))) (.ops [.aj 24 (.t 3),.bin 25 .add (.t 24) (.c (.int .i64 1)),.aH 3 (.t 25)])))
def EP:au :=
(.clean [1,2,3] [0,1,2] (.block 0 (.loop [1,2,3] yO)))
def Vy:eX:=⟨0,146,[.tmp 0],(.seq (.ops [.aH 0 (.c (.bool false))]) (.seq (.ops [.gG 18 1 [(.c (.int .i64 4))],.call 19 11 [(.t 18),(.c (.int .i64 2))],.aj 17 (.t 19),.ext 20 (.t 17) 0,.ext 21 (.t 17) 1,.alloc 1 [(.int .i64 0),(.list 1 []),(.list 5 []),(.bool false),(.int .i64 0),(.int .i64 0),(.list 2 [])],.store none 7 (.t 1) (.t 20),.aH 2 (.t 21)]) (.seq (.seq (.ops [.aH 3 (.c (.int .i64 0))])
   EP) (.seq (.drs [] [1,2,6,7] [.load 44 (some 7) (.t 1),.call 45 36 [(.c (.int .i64 2)),(.c (.int .i64 3)),(.c (.int .i64 3)),(.c (.int .u8 9))],.call 46 16 [(.t 44),(.t 45)],.aj 43 (.t 46),.ext 47 (.t 43) 0,.ext 48 (.t 43) 1,.alloc 6 [(.int .i64 0),(.list 1 []),(.list 5 []),(.bool false),(.int .i64 0),(.int .i64 0),(.list 2 [])],.store none 7 (.t 6) (.t 47),.aH 7 (.t 48)]
   [⟨[([0],1),([],2),([3,4,5],6)],(some ([],[],7,[])),[8],[0,1,2,3,4,5,6,7,8],false⟩,⟨[([0],1),([],6),([],2)],(some ([3,4],[5],7,[])),[8],[0,1,6,2,3,4,5,7,8],false⟩,⟨[([0],6),([],1),([],2)],(some ([3,4],[5],7,[])),[8],[0,6,1,2,3,4,5,7,8],false⟩]) (.seq (.ops [.load 50 (some 7) (.t 6),.build 51 [(.int .u8 0),(.int .u8 0),(.int .u8 0),(.int .u8 0),(.int .u8 0),(.int .u8 0),(.int .u8 0),(.int .u8 0)] [(0,1,(.c (.int .u8 1)))],.build 52 [(.int .u8 0),(.int .u8 0),(.int .u8 0),(.int .u8 0),(.int .u8 0),(.int .u8 0),(.int .u8 0),(.int .u8 0)] [(0,1,(.c (.int .u8 2)))],.build 53 [(.int .u8 0),(.int .u8 0),(.int .u8 0),(.int .u8 0),(.int .u8 0),(.int .u8 0),(.int .u8 0),(.int .u8 0)] [],.build 54 [(.int .u8 0),(.int .u8 0),(.int .u8 0),(.int .u8 0),(.int .u8 0),(.int .u8 0),(.int .u8 0),(.int .u8 0)] [(0,1,(.c (.int .u8 9)))],.gG 55 8 [(.t 51),(.t 52),(.t 53),(.t 54)],.gG 56 1 [(.t 55)],.call 57 26 [(.t 50),(.t 56),(.c (.int .i64 5))],.aj 49 (.t 57),.ext 58 (.t 49) 0,.ext 59 (.t 49) 1,.ext 60 (.t 49) 2,.alloc 8 [(.int .i64 0),(.list 1 []),(.list 5 []),(.bool false),(.int .i64 0),(.int .i64 0),(.list 2 [])],.alloc 9 [(.int .i64 0),(.int .i64 0),(.int .i64 0),(.list 1 []),(.list 3 [])],.store none 7 (.t 8) (.t 58),.store none 5 (.t 9) (.t 59),.aH 10 (.t 60)]) (.seq (.ops [.load 62 (some 7) (.t 1),.call 63 23 [(.t 62),(.c (.int .i64 1))],.aj 61 (.t 63),.ext 64 (.t 61) 0,.ext 65 (.t 61) 1,.alloc 11 [(.int .i64 0),(.list 1 []),(.list 5 []),(.bool false),(.int .i64 0),(.int .i64 0),(.list 2 [])],.store none 7 (.t 11) (.t 64),.aH 12 (.t 65)]) (.seq (.sO [] [([0],1),([],2)] (some ([3,4],[5],6,[])) [7] [.load 67 (some 7) (.t 11),.call 68 36 [(.c (.int .i64 2)),(.c (.int .i64 3)),(.c (.int .i64 3)),(.c (.int .u8 9))],.call 69 16 [(.t 67),(.t 68)],.aj 66 (.t 69),.ext 70 (.t 66) 0,.ext 71 (.t 66) 1,.store none 7 (.t 11) (.t 70),.aH 13 (.t 71)]) (.seq (.ops [.load 73 (some 7) (.t 11),.call 74 18 [(.t 73)],.aj 72 (.t 74),.ext 75 (.t 72) 0,.ext 76 (.t 72) 1,.alloc 14 [(.int .i64 0),(.int .i64 0),(.int .i64 0),(.list 1 []),(.list 3 [])],.store none 5 (.t 14) (.t 75),.aH 15 (.t 76)]) (.seq (.ops [.build 77 [(.int .u8 0),(.int .u8 0),(.int .u8 0),(.int .u8 0),(.int .u8 0),(.int .u8 0),(.int .u8 0),(.int .u8 0)] [(0,1,(.c (.int .u8 1)))],.build 78 [(.int .u8 0),(.int .u8 0),(.int .u8 0),(.int .u8 0),(.int .u8 0),(.int .u8 0),(.int .u8 0),(.int .u8 0)] [(0,1,(.c (.int .u8 2)))],.gG 79 8 [(.t 77),(.t 78)],.build 80 [(.int .i64 0),(.int .i64 0),(.list 0 [])] [(2,1,(.t 79))],.build 81 [(.int .u8 0),(.int .u8 0),(.int .u8 0),(.int .u8 0),(.int .u8 0),(.int .u8 0),(.int .u8 0),(.int .u8 0)] [(0,1,(.c (.int .u8 9)))],.gG 82 8 [(.t 81)],.build 83 [(.int .i64 0),(.int .i64 0),(.list 0 [])] [(1,1,(.c (.int .i64 3))),(2,1,(.t 82))],.gG 84 3 [(.t 80),(.t 83)],.aH 16 (.t 84)]) (.seq (.ops [.aj 85 (.t 2),.bin 86 .eql (.t 85) (.c (.int .i64 0)),.aj 87 (.t 86),.grd 87 true (.aj 88 (.t 7)),.grd 87 true (.bin 89 .eql (.t 88) (.c (.int .i64 0))),.pick 90 (.t 87) (.t 89) (.c (.bool false)),.aj 91 (.t 90),.grd 91 true (.aj 92 (.t 10)),.grd 91 true (.bin 93 .eql (.t 92) (.c (.int .i64 0))),.pick 94 (.t 91) (.t 93) (.c (.bool false)),.aj 95 (.t 94),.grd 95 true (.aj 96 (.t 12)),.grd 95 true (.bin 97 .eql (.t 96) (.c (.int .i64 0))),.pick 98 (.t 95) (.t 97) (.c (.bool false)),.aj 99 (.t 98),.grd 99 true (.aj 100 (.t 13)),.grd 99 true (.bin 101 .eql (.t 100) (.c (.int .i64 0))),.pick 102 (.t 99) (.t 101) (.c (.bool false)),.aj 103 (.t 102),.grd 103 true (.ay 104 (.t 6) 3),.grd 103 true (.load 105 none (.t 104)),.pick 106 (.t 103) (.t 105) (.c (.bool false)),.aj 107 (.t 106),.grd 107 true (.ay 108 (.t 6) 4),.grd 107 true (.load 109 none (.t 108)),.grd 107 true (.bin 110 .eql (.t 109) (.c (.int .i64 0))),.pick 111 (.t 107) (.t 110) (.c (.bool false)),.aj 112 (.t 111),.grd 112 true (.ay 113 (.t 6) 5),.grd 112 true (.load 114 none (.t 113)),.grd 112 true (.bin 115 .eql (.t 114) (.c (.int .i64 3))),.pick 116 (.t 112) (.t 115) (.c (.bool false)),.aj 117 (.t 116),.grd 117 true (.ay 118 (.t 9) 0),.grd 117 true (.load 119 none (.t 118)),.grd 117 true (.bin 120 .eql (.t 119) (.c (.int .i64 0))),.pick 121 (.t 117) (.t 120) (.c (.bool false)),.aj 122 (.t 121),.grd 122 true (.ay 123 (.t 9) 1),.grd 122 true (.load 124 none (.t 123)),.grd 122 true (.bin 125 .eql (.t 124) (.c (.int .i64 3))),.pick 126 (.t 122) (.t 125) (.c (.bool false)),.aj 127 (.t 126),.grd 127 true (.ay 128 (.t 9) 4),.grd 127 true (.load 129 none (.t 128)),.grd 127 true (.aj 130 (.t 16)),.grd 127 true (.call 131 37 [(.t 129),(.t 130)]),.pick 132 (.t 127) (.t 131) (.c (.bool false)),.aj 133 (.t 132),.grd 133 true (.aj 134 (.t 15)),.pick 135 (.t 133) (.t 134) (.c (.bool false)),.aj 136 (.t 135),.grd 136 true (.ay 137 (.t 14) 1),.grd 136 true (.load 138 none (.t 137)),.grd 136 true (.bin 139 .eql (.t 138) (.c (.int .i64 2))),.pick 140 (.t 136) (.t 139) (.c (.bool false)),.aj 141 (.t 140),.grd 141 true (.ay 142 (.t 11) 3),.grd 141 true (.load 143 none (.t 142)),.grd 141 true (.un 144 .not (.t 143)),.pick 145 (.t 141) (.t 144) (.c (.bool false)),.aH 0 (.t 145)]) .ret))))))))))⟩
def ab5:eX:=⟨2,28,[.cell 4 (some 7),.tmp 5],(.seq (.ops [.alloc 4 [(.int .i64 0),(.list 1 []),(.list 5 []),(.bool false),(.int .i64 0),(.int .i64 0),(.list 2 [])],.aH 5 (.c (.int .i64 0))]) (.seq (.seq (.ops [.aj 9 (.t 0),.call 10 38 [(.t 9)],.aj 8 (.t 10),.ext 11 (.t 8) 0,.ext 12 (.t 8) 1,.aH 6 (.t 11),.aH 7 (.t 12)]) (.seq (.ops [.aj 13 (.t 7),.bin 14 .neq (.t 13) (.c (.int .i64 0))]) (.cond (.t 14) (.seq (.ops [.build 15 [(.int .i64 0),(.list 1 []),(.list 5 []),(.bool false),(.int .i64 0),(.int .i64 0),(.list 2 [])] [],.aj 16 (.t 7),.store none 7 (.t 4) (.t 15),.aH 5 (.t 16)]) .ret) .skip))) (.seq (.seq (.ops [.aj 17 (.t 1),.bin 18 .lss (.t 17) (.c (.int .i64 1)),.aj 19 (.t 18),.grd 19 false (.aj 20 (.t 1)),.grd 19 false (.bin 21 .gtr (.t 20) (.c (.int .i64 1024))),.pick 22 (.t 19) (.c (.bool true)) (.t 21)]) (.cond (.t 22) (.seq (.ops [.build 23 [(.int .i64 0),(.list 1 []),(.list 5 []),(.bool false),(.int .i64 0),(.int .i64 0),(.list 2 [])] [],.store none 7 (.t 4) (.t 23),.aH 5 (.c (.int .i64 2))]) .ret) .skip)) (.seq (.ops [.aj 24 (.t 1),.aj 25 (.t 0),.call 26 39 [(.t 25)],.build 27 [(.int .i64 0),(.list 1 []),(.list 5 []),(.bool false),(.int .i64 0),(.int .i64 0),(.list 2 [])] [(0,1,(.t 24)),(1,1,(.t 26))],.store none 7 (.t 4) (.t 27),.aH 5 (.c (.int .i64 0))]) .ret))))⟩
def ER:au:=(.seq (.seq (.ops [.aj 57 (.t 5),.ay 58 (.t 2) 2,.load 59 none (.t 58),.len 60 (.t 59),.bin 61 .lss (.t 57) (.t 60)]) (.cond (.t 61) .skip (.exit 0))) (.seq (.block 1 (.seq (.sO [] [([0,1,2,3,4,5,6,7,8,9],10)] none [11] [.ay 64 (.t 2) 2,.load 65 none (.t 64),.aj 66 (.t 5),.bI 67 5 (.t 65) (.t 66),.load 68 (some 5) (.t 67),.ay 69 (.t 3) 2,.load 70 none (.t 69),.aj 71 (.t 5),.bI 72 5 (.t 70) (.t 71),.load 73 (some 5) (.t 72),.call 74 22 [(.t 68),(.t 73)],.un 75 .not (.t 74)]) (.cond (.t 75) (.seq (.ops [.aH 4 (.c (.bool false))]) .ret) .skip))) (.ops [.aj 62 (.t 5),.bin 63 .add (.t 62) (.c (.int .i64 1)),.aH 5 (.t 63)])))
def ES:au :=
(.clean [2,3,5] [4] (.block 0 (.loop [2,3,5] ER)))
def Vz:eX:=⟨2,76,[.tmp 4],(.seq (.ops [.box 2 (.t 0),.box 3 (.t 1),.aH 4 (.c (.bool false))]) (.seq (.seq (.ops [.ay 6 (.t 2) 0,.load 7 none (.t 6),.ay 8 (.t 3) 0,.load 9 none (.t 8),.bin 10 .neq (.t 7) (.t 9),.aj 11 (.t 10),.grd 11 false (.ay 12 (.t 2) 3),.grd 11 false (.load 13 none (.t 12)),.grd 11 false (.ay 14 (.t 3) 3),.grd 11 false (.load 15 none (.t 14)),.grd 11 false (.Pm 16 true (.t 13) (.t 15)),.pick 17 (.t 11) (.c (.bool true)) (.t 16),.aj 18 (.t 17),.grd 18 false (.ay 19 (.t 2) 4),.grd 18 false (.load 20 none (.t 19)),.grd 18 false (.ay 21 (.t 3) 4),.grd 18 false (.load 22 none (.t 21)),.grd 18 false (.bin 23 .neq (.t 20) (.t 22)),.pick 24 (.t 18) (.c (.bool true)) (.t 23),.aj 25 (.t 24),.grd 25 false (.ay 26 (.t 2) 5),.grd 25 false (.load 27 none (.t 26)),.grd 25 false (.ay 28 (.t 3) 5),.grd 25 false (.load 29 none (.t 28)),.grd 25 false (.bin 30 .neq (.t 27) (.t 29)),.pick 31 (.t 25) (.c (.bool true)) (.t 30),.aj 32 (.t 31),.grd 32 false (.ay 33 (.t 2) 1),.grd 32 false (.load 34 none (.t 33)),.grd 32 false (.ay 35 (.t 3) 1),.grd 32 false (.load 36 none (.t 35)),.grd 32 false (.call 37 40 [(.t 34),(.t 36)]),.grd 32 false (.un 38 .not (.t 37)),.pick 39 (.t 32) (.c (.bool true)) (.t 38),.aj 40 (.t 39),.grd 40 false (.ay 41 (.t 2) 2),.grd 40 false (.load 42 none (.t 41)),.grd 40 false (.len 43 (.t 42)),.grd 40 false (.ay 44 (.t 3) 2),.grd 40 false (.load 45 none (.t 44)),.grd 40 false (.len 46 (.t 45)),.grd 40 false (.bin 47 .neq (.t 43) (.t 46)),.pick 48 (.t 40) (.c (.bool true)) (.t 47),.aj 49 (.t 48),.grd 49 false (.ay 50 (.t 2) 6),.grd 49 false (.load 51 none (.t 50)),.grd 49 false (.ay 52 (.t 3) 6),.grd 49 false (.load 53 none (.t 52)),.grd 49 false (.call 54 41 [(.t 51),(.t 53)]),.grd 49 false (.un 55 .not (.t 54)),.pick 56 (.t 49) (.c (.bool true)) (.t 55)]) (.cond (.t 56) (.seq (.ops [.aH 4 (.c (.bool false))]) .ret) .skip)) (.seq (.seq (.ops [.aH 5 (.c (.int .i64 0))])
   ES) (.seq (.ops [.aH 4 (.c (.bool true))]) .ret))))⟩
def vg:au:=(.seq (.seq (.ops [.aj 22 (.t 3),.ay 23 (.t 1) 2,.load 24 none (.t 23),.len 25 (.t 24),.bin 26 .lss (.t 22) (.t 25)]) (.cond (.t 26) .skip (.exit 0))) (.seq (.block 1 (.seq (.ops [.ay 29 (.t 1) 2,.load 30 none (.t 29),.aj 31 (.t 3),.bI 32 5 (.t 30) (.t 31),.ay 33 (.t 32) 3,.load 34 none (.t 33),.len 35 (.t 34),.bin 36 .gtr (.t 35) (.c (.int .i64 10)),.aj 37 (.t 36),.grd 37 false (.ay 38 (.t 1) 2),.grd 37 false (.load 39 none (.t 38)),.grd 37 false (.aj 40 (.t 3)),.grd 37 false (.bI 41 5 (.t 39) (.t 40)),.grd 37 false (.ay 42 (.t 41) 4),.grd 37 false (.load 43 none (.t 42)),.grd 37 false (.call 44 15 [(.t 43)]),.grd 37 false (.un 45 .not (.t 44)),.pick 46 (.t 37) (.c (.bool true)) (.t 45)]) (.cond (.t 46) (.seq (.ops [.aH 2 (.c (.bool false))]) .ret) .skip))) (.ops [.aj 27 (.t 3),.bin 28 .add (.t 27) (.c (.int .i64 1)),.aH 3 (.t 28)])))
def ET:au :=
(.clean [1,3] [1,2] (.block 0 (.loop [1,3] vg)))
def yP:au:=(.seq (.seq (.ops [.aj 47 (.t 4),.ay 48 (.t 1) 6,.load 49 none (.t 48),.len 50 (.t 49),.bin 51 .lss (.t 47) (.t 50)]) (.cond (.t 51) .skip (.exit 2))) (.seq (.block 3 (.seq (.ops [.ay 54 (.t 1) 6,.load 55 none (.t 54),.aj 56 (.t 4),.bI 57 2 (.t 55) (.t 56),.ay 58 (.t 57) 1,.load 59 none (.t 58),.len 60 (.t 59),.bin 61 .gtr (.t 60) (.c (.int .i64 8))]) (.cond (.t 61) (.seq (.ops [.aH 2 (.c (.bool false))]) .ret) .skip))) (.ops [.aj 52 (.t 4),.bin 53 .add (.t 52) (.c (.int .i64 1)),.aH 4 (.t 53)])))
def EU:au :=
(.clean [1,4] [1,2] (.block 2 (.loop [1,4] yP)))
def vk:au:=(.seq (.seq (.ops [.aj 62 (.t 5),.ay 63 (.t 1) 1,.load 64 none (.t 63),.len 65 (.t 64),.bin 66 .lss (.t 62) (.t 65)]) (.cond (.t 66) .skip (.exit 4))) (.seq (.block 5 (.seq (.ops [.ay 69 (.t 1) 1,.load 70 none (.t 69),.aj 71 (.t 5),.bI 72 1 (.t 70) (.t 71),.load 73 none (.t 72),.bin 74 .gtr (.t 73) (.c (.int .i64 400)),.aj 75 (.t 74),.grd 75 true (.ay 76 (.t 1) 1),.grd 75 true (.load 77 none (.t 76)),.grd 75 true (.aj 78 (.t 5)),.grd 75 true (.bI 79 1 (.t 77) (.t 78)),.grd 75 true (.load 80 none (.t 79)),.grd 75 true (.bin 81 .leq (.t 80) (.c (.int .i64 4096))),.pick 82 (.t 75) (.t 81) (.c (.bool false))]) (.cond (.t 82) (.seq (.ops [.aH 2 (.c (.bool false))]) .ret) .skip))) (.ops [.aj 67 (.t 5),.bin 68 .add (.t 67) (.c (.int .i64 1)),.aH 5 (.t 68)])))
def EW:au :=
(.clean [1,5] [2] (.block 4 (.loop [1,5] vk)))
def Jg:eX:=⟨1,83,[.tmp 2],(.seq (.ops [.box 1 (.t 0),.aH 2 (.c (.bool false))]) (.seq (.seq (.ops [.ay 6 (.t 1) 1,.load 7 none (.t 6),.len 8 (.t 7),.bin 9 .gtr (.t 8) (.c (.int .i64 8)),.aj 10 (.t 9),.grd 10 false (.ay 11 (.t 1) 2),.grd 10 false (.load 12 none (.t 11)),.grd 10 false (.len 13 (.t 12)),.grd 10 false (.bin 14 .gtr (.t 13) (.c (.int .i64 8))),.pick 15 (.t 10) (.c (.bool true)) (.t 14),.aj 16 (.t 15),.grd 16 false (.ay 17 (.t 1) 6),.grd 16 false (.load 18 none (.t 17)),.grd 16 false (.len 19 (.t 18)),.grd 16 false (.bin 20 .gtr (.t 19) (.c (.int .i64 8))),.pick 21 (.t 16) (.c (.bool true)) (.t 20)]) (.cond (.t 21) (.seq (.ops [.aH 2 (.c (.bool false))]) .ret) .skip)) (.seq (.seq (.ops [.aH 3 (.c (.int .i64 0))])
   ET) (.seq (.seq (.ops [.aH 4 (.c (.int .i64 0))])
   EU) (.seq (.seq (.ops [.aH 5 (.c (.int .i64 0))])
    EW) (.seq (.ops [.aH 2 (.c (.bool true))]) .ret))))))⟩
def Nb:eX:=⟨1,11,[.tmp 2],(.seq (.ops [.aH 2 (.c (.bool false))]) (.seq (.ops [.aj 3 (.t 0),.len 4 (.t 3),.bin 5 .leq (.t 4) (.c (.int .i64 40)),.aj 6 (.t 5),.grd 6 true (.aj 7 (.t 0)),.grd 6 true (.call 8 35 [(.t 7)]),.grd 6 true (.bin 9 .leq (.t 8) (.c (.int .i64 400))),.pick 10 (.t 6) (.t 9) (.c (.bool false)),.aH 2 (.t 10)]) .ret))⟩
def ab6:eX:=⟨2,49,[.cell 4 (some 7),.tmp 5],(.seq (.ops [.box 2 (.t 0),.box 3 (.t 1),.alloc 4 [(.int .i64 0),(.list 1 []),(.list 5 []),(.bool false),(.int .i64 0),(.int .i64 0),(.list 2 [])],.aH 5 (.c (.int .i64 0))]) (.seq (.seq (.ops [.load 10 (some 7) (.t 2),.call 11 20 [(.t 10)],.aH 6 (.t 11)]) (.seq (.ops [.aj 12 (.t 6),.bin 13 .neq (.t 12) (.c (.int .i64 0))]) (.cond (.t 13) (.seq (.ops [.build 14 [(.int .i64 0),(.list 1 []),(.list 5 []),(.bool false),(.int .i64 0),(.int .i64 0),(.list 2 [])] [],.aj 15 (.t 6),.store none 7 (.t 4) (.t 14),.aH 5 (.t 15)]) .ret) .skip))) (.seq (.seq (.ops [.load 16 (some 5) (.t 3),.ay 17 (.t 2) 1,.load 18 none (.t 17),.call 19 42 [(.t 16),(.t 18)],.aH 7 (.t 19)]) (.seq (.ops [.aj 20 (.t 7),.bin 21 .neq (.t 20) (.c (.int .i64 0))]) (.cond (.t 21) (.seq (.ops [.build 22 [(.int .i64 0),(.list 1 []),(.list 5 []),(.bool false),(.int .i64 0),(.int .i64 0),(.list 2 [])] [],.aj 23 (.t 7),.store none 7 (.t 4) (.t 22),.aH 5 (.t 23)]) .ret) .skip))) (.seq (.seq (.ops [.ay 24 (.t 3) 0,.load 25 none (.t 24),.ay 26 (.t 2) 5,.load 27 none (.t 26),.bin 28 .neq (.t 25) (.t 27)]) (.cond (.t 28) (.seq (.ops [.build 29 [(.int .i64 0),(.list 1 []),(.list 5 []),(.bool false),(.int .i64 0),(.int .i64 0),(.list 2 [])] [],.store none 7 (.t 4) (.t 29),.aH 5 (.c (.int .i64 15))]) .ret) .skip)) (.seq (.drs [] [3,4,8,9] [.call 31 43 [],.load 32 (some 7) (.t 2),.call 33 44 [(.t 32)],.idx 34 (.t 31) (.t 33) 2 1 none,.load 35 (some 7) (.t 2),.call 36 45 [(.t 35)],.load 37 (some 5) (.t 3),.linv 38 (.t 34) (.t 36) [(.t 37)],.aj 30 (.t 38),.ext 39 (.t 30) 0,.ext 40 (.t 30) 1,.alloc 8 [(.int .i64 0),(.list 1 []),(.list 5 []),(.bool false),(.int .i64 0),(.int .i64 0),(.list 2 [])],.store none 7 (.t 8) (.t 39),.aH 9 (.t 40)]
    [⟨[([1,4,6],0),([],2),([3],5)],(some ([],[],7,[([8,9,10],11),([],12)])),[13],[1,4,6,0,2,3,5,7,8,9,10,11,12,13],false⟩,⟨[([1,4,6],0),([],2),([3],5),([],11)],(some ([],[],7,[([8,9,10],12)])),[13],[1,4,6,0,2,3,5,11,7,8,9,10,12,13],false⟩,⟨[([1,4,6],0),([],2),([3],11),([],5)],(some ([],[],7,[([8,9,10],12)])),[13],[1,4,6,0,2,3,11,5,7,8,9,10,12,13],false⟩,⟨[([1,4,6],0),([],11),([],2),([3],5)],(some ([],[],7,[([8,9,10],12)])),[13],[1,4,6,0,11,2,3,5,7,8,9,10,12,13],false⟩,⟨[([1,4,6],11),([],0),([],2),([3],5)],(some ([],[],7,[([8,9,10],12)])),[13],[1,4,6,11,0,2,3,5,7,8,9,10,12,13],false⟩]) (.seq (.seq (.ops [.aj 41 (.t 9),.bin 42 .neq (.t 41) (.c (.int .i64 0))]) (.cond (.t 42) (.seq (.ops [.build 43 [(.int .i64 0),(.list 1 []),(.list 5 []),(.bool false),(.int .i64 0),(.int .i64 0),(.list 2 [])] [],.aj 44 (.t 9),.store none 7 (.t 4) (.t 43),.aH 5 (.t 44)]) .ret) .skip)) (.seq (.ops [.ay 45 (.t 3) 1,.load 46 none (.t 45),.ay 47 (.t 8) 5,.store none 1 (.t 47) (.t 46)]) (.seq (.ops [.load 48 (some 7) (.t 8),.store none 7 (.t 4) (.t 48),.aH 5 (.c (.int .i64 0))]) .ret))))))))⟩
def ab7:eX:=⟨1,19,[.cell 2 (some 5),.tmp 3],(.seq (.ops [.box 1 (.t 0),.alloc 2 [(.int .i64 0),(.int .i64 0),(.int .i64 0),(.list 1 []),(.list 3 [])],.aH 3 (.c (.bool false))]) (.seq (.seq (.ops [.load 4 (some 7) (.t 1),.call 5 20 [(.t 4)],.bin 6 .neq (.t 5) (.c (.int .i64 0)),.aj 7 (.t 6),.grd 7 false (.ay 8 (.t 1) 2),.grd 7 false (.load 9 none (.t 8)),.grd 7 false (.len 10 (.t 9)),.grd 7 false (.bin 11 .eql (.t 10) (.c (.int .i64 0))),.pick 12 (.t 7) (.c (.bool true)) (.t 11)]) (.cond (.t 12) (.seq (.ops [.build 13 [(.int .i64 0),(.int .i64 0),(.int .i64 0),(.list 1 []),(.list 3 [])] [],.store none 5 (.t 2) (.t 13),.aH 3 (.c (.bool false))]) .ret) .skip)) (.seq (.ops [.ay 14 (.t 1) 2,.load 15 none (.t 14),.bI 16 5 (.t 15) (.c (.int .i64 0)),.load 17 (some 5) (.t 16),.call 18 48 [(.t 17)],.store none 5 (.t 2) (.t 18),.aH 3 (.c (.bool true))]) .ret)))⟩
def vw:eX:=⟨1,48,[.tmp 2],(.seq (.ops [.box 1 (.t 0),.aH 2 (.c (.int .i64 0))]) (.seq (.seq (.ops [.ay 6 (.t 1) 1,.load 7 none (.t 6),.call 8 38 [(.t 7)],.aj 5 (.t 8),.ext 9 (.t 5) 0,.ext 10 (.t 5) 1,.aH 3 (.t 9),.aH 4 (.t 10)]) (.seq (.ops [.aj 11 (.t 4),.bin 12 .neq (.t 11) (.c (.int .i64 0))]) (.cond (.t 12) (.seq (.ops [.aj 13 (.t 4),.aH 2 (.t 13)]) .ret) .skip))) (.seq (.seq (.sO [] [([0,1,2,3,4,5,6,7,8,9,10,11,12,13,14,15,16,17,18,19,20,21,22,23,24,25,27,30],26),([],28),([29],31)] none [32,33] [.ay 14 (.t 1) 0,.load 15 none (.t 14),.bin 16 .lss (.t 15) (.c (.int .i64 1)),.aj 17 (.t 16),.grd 17 false (.ay 18 (.t 1) 0),.grd 17 false (.load 19 none (.t 18)),.grd 17 false (.bin 20 .gtr (.t 19) (.c (.int .i64 1024))),.pick 21 (.t 17) (.c (.bool true)) (.t 20),.aj 22 (.t 21),.grd 22 false (.ay 23 (.t 1) 4),.grd 22 false (.load 24 none (.t 23)),.grd 22 false (.bin 25 .lss (.t 24) (.c (.int .i64 0))),.pick 26 (.t 22) (.c (.bool true)) (.t 25),.aj 27 (.t 26),.grd 27 false (.ay 28 (.t 1) 4),.grd 27 false (.load 29 none (.t 28)),.grd 27 false (.ay 30 (.t 1) 5),.grd 27 false (.load 31 none (.t 30)),.grd 27 false (.bin 32 .gtr (.t 29) (.t 31)),.pick 33 (.t 27) (.c (.bool true)) (.t 32),.aj 34 (.t 33),.grd 34 false (.ay 35 (.t 1) 5),.grd 34 false (.load 36 none (.t 35)),.grd 34 false (.bin 37 .gtr (.t 36) (.c (.int .i64 1073741824))),.pick 38 (.t 34) (.c (.bool true)) (.t 37),.aj 39 (.t 38),.grd 39 false (.load 41 (some 7) (.t 1)),.grd 39 false (.load 44 (some 7) (.t 1)),.grd 39 false (.call 40 49 []),.grd 39 false (.call 42 44 [(.t 41)]),.grd 39 false (.idx 43 (.t 40) (.t 42) 2 1 none),.grd 39 false (.jw 45 (.t 43) [(.t 44)]),.grd 39 false (.un 46 .not (.t 45)),.pick 47 (.t 39) (.c (.bool true)) (.t 46)]) (.cond (.t 47) (.seq (.ops [.aH 2 (.c (.int .i64 3))]) .ret) .skip)) (.seq (.ops [.aH 2 (.c (.int .i64 0))]) .ret))))⟩
def qA:eX:=⟨1,84,[.tmp 2],(.seq (.ops [.box 1 (.t 0),.aH 2 (.c (.int .i64 0))]) (.seq (.seq (.ops [.ay 6 (.t 1) 1,.load 7 none (.t 6),.call 8 31 [(.t 7)],.aj 5 (.t 8),.ext 9 (.t 5) 0,.ext 10 (.t 5) 1,.aH 3 (.t 9),.aH 4 (.t 10)]) (.seq (.ops [.aj 11 (.t 4),.bin 12 .neq (.t 11) (.c (.int .i64 0))]) (.cond (.t 12) (.seq (.ops [.aj 13 (.t 4),.aH 2 (.t 13)]) .ret) .skip))) (.seq (.seq (.ops [.ay 14 (.t 1) 0,.load 15 none (.t 14),.bin 16 .lss (.t 15) (.c (.int .i64 1)),.aj 17 (.t 16),.grd 17 false (.ay 18 (.t 1) 0),.grd 17 false (.load 19 none (.t 18)),.grd 17 false (.bin 20 .gtr (.t 19) (.c (.int .i64 1024))),.pick 21 (.t 17) (.c (.bool true)) (.t 20),.aj 22 (.t 21),.grd 22 false (.ay 23 (.t 1) 4),.grd 22 false (.load 24 none (.t 23)),.grd 22 false (.bin 25 .lss (.t 24) (.c (.int .i64 0))),.pick 26 (.t 22) (.c (.bool true)) (.t 25),.aj 27 (.t 26),.grd 27 false (.ay 28 (.t 1) 4),.grd 27 false (.load 29 none (.t 28)),.grd 27 false (.ay 30 (.t 1) 5),.grd 27 false (.load 31 none (.t 30)),.grd 27 false (.bin 32 .gtr (.t 29) (.t 31)),.pick 33 (.t 27) (.c (.bool true)) (.t 32),.aj 34 (.t 33),.grd 34 false (.ay 35 (.t 1) 5),.grd 34 false (.load 36 none (.t 35)),.grd 34 false (.bin 37 .gtr (.t 36) (.c (.int .i64 1073741824))),.pick 38 (.t 34) (.c (.bool true)) (.t 37)]) (.cond (.t 38) (.seq (.ops [.aH 2 (.c (.int .i64 3))]) .ret) .skip)) (.seq (.seq (.ops [.ay 39 (.t 1) 3,.load 40 none (.t 39)]) (.cond (.t 40) (.seq (.seq (.ops [.ay 41 (.t 1) 2,.load 42 none (.t 41),.len 43 (.t 42),.bin 44 .gtr (.t 43) (.c (.int .i64 0)),.aj 45 (.t 44),.grd 45 false (.ay 46 (.t 1) 4),.grd 45 false (.load 47 none (.t 46)),.grd 45 false (.ay 48 (.t 1) 5),.grd 45 false (.load 49 none (.t 48)),.grd 45 false (.bin 50 .eql (.t 47) (.t 49)),.pick 51 (.t 45) (.c (.bool true)) (.t 50),.aj 52 (.t 51),.grd 52 false (.ay 53 (.t 1) 6),.grd 52 false (.load 54 none (.t 53)),.grd 52 false (.ay 55 (.t 1) 1),.grd 52 false (.load 56 none (.t 55)),.grd 52 false (.call 57 50 [(.t 54),(.t 56)]),.grd 52 false (.un 58 .not (.t 57)),.pick 59 (.t 52) (.c (.bool true)) (.t 58)]) (.cond (.t 59) (.seq (.ops [.aH 2 (.c (.int .i64 3))]) .ret) .skip)) (.seq (.ops [.aH 2 (.c (.int .i64 0))]) .ret)) .skip)) (.seq (.seq (.ops [.ay 60 (.t 1) 6,.load 61 none (.t 60),.len 62 (.t 61),.bin 63 .gtr (.t 62) (.c (.int .i64 0)),.aj 64 (.t 63),.grd 64 false (.ay 65 (.t 1) 2),.grd 64 false (.load 66 none (.t 65)),.grd 64 false (.len 67 (.t 66)),.grd 64 false (.ay 68 (.t 1) 0),.grd 64 false (.load 69 none (.t 68)),.grd 64 false (.bin 70 .gtr (.t 67) (.t 69)),.pick 71 (.t 64) (.c (.bool true)) (.t 70),.aj 72 (.t 71),.grd 72 false (.ay 73 (.t 1) 2),.grd 72 false (.load 74 none (.t 73)),.grd 72 false (.ay 75 (.t 1) 1),.grd 72 false (.load 76 none (.t 75)),.grd 72 false (.ay 77 (.t 1) 4),.grd 72 false (.load 78 none (.t 77)),.grd 72 false (.ay 79 (.t 1) 5),.grd 72 false (.load 80 none (.t 79)),.grd 72 false (.call 81 51 [(.t 74),(.t 76),(.t 78),(.t 80)]),.grd 72 false (.un 82 .not (.t 81)),.pick 83 (.t 72) (.c (.bool true)) (.t 82)]) (.cond (.t 83) (.seq (.ops [.aH 2 (.c (.int .i64 3))]) .ret) .skip)) (.seq (.ops [.aH 2 (.c (.int .i64 0))]) .ret))))))⟩
def VA:eX:=⟨2,38,[.tmp 4],(.seq (.ops [.box 2 (.t 0),.box 3 (.t 1),.aH 4 (.c (.bool false))]) (.seq (.ops [.ay 5 (.t 2) 0,.load 6 none (.t 5),.ay 7 (.t 3) 0,.load 8 none (.t 7),.bin 9 .eql (.t 6) (.t 8),.aj 10 (.t 9),.grd 10 true (.ay 11 (.t 2) 1),.grd 10 true (.load 12 none (.t 11)),.grd 10 true (.ay 13 (.t 3) 1),.grd 10 true (.load 14 none (.t 13)),.grd 10 true (.bin 15 .eql (.t 12) (.t 14)),.pick 16 (.t 10) (.t 15) (.c (.bool false)),.aj 17 (.t 16),.grd 17 true (.ay 18 (.t 2) 2),.grd 17 true (.load 19 none (.t 18)),.grd 17 true (.ay 20 (.t 3) 2),.grd 17 true (.load 21 none (.t 20)),.grd 17 true (.bin 22 .eql (.t 19) (.t 21)),.pick 23 (.t 17) (.t 22) (.c (.bool false)),.aj 24 (.t 23),.grd 24 true (.ay 25 (.t 2) 3),.grd 24 true (.load 26 none (.t 25)),.grd 24 true (.ay 27 (.t 3) 3),.grd 24 true (.load 28 none (.t 27)),.grd 24 true (.call 29 40 [(.t 26),(.t 28)]),.pick 30 (.t 24) (.t 29) (.c (.bool false)),.aj 31 (.t 30),.grd 31 true (.ay 32 (.t 2) 4),.grd 31 true (.load 33 none (.t 32)),.grd 31 true (.ay 34 (.t 3) 4),.grd 31 true (.load 35 none (.t 34)),.grd 31 true (.call 36 52 [(.t 33),(.t 35)]),.pick 37 (.t 31) (.t 36) (.c (.bool false)),.aH 4 (.t 37)]) .ret))⟩
def ZO:au:=(.seq (.seq (.ops [.ay 33 (.t 7) 2,.load 34 none (.t 33),.len 35 (.t 34),.bin 36 .gtr (.t 35) (.c (.int .i64 0)),.aj 37 (.t 36),.grd 37 true (.ay 38 (.t 7) 4),.grd 37 true (.load 39 none (.t 38)),.grd 37 true (.aj 40 (.t 1)),.grd 37 true (.bin 41 .lss (.t 39) (.t 40)),.pick 42 (.t 37) (.t 41) (.c (.bool false))]) (.cond (.t 42) .skip (.exit 1))) (.block 2 (.seq (.ops [.ay 43 (.t 7) 2,.load 44 none (.t 43),.bI 45 5 (.t 44) (.c (.int .i64 0)),.ay 46 (.t 45) 1,.load 47 none (.t 46),.ay 48 (.t 7) 4,.store none 1 (.t 48) (.t 47)]) (.ops [.ay 49 (.t 7) 2,.load 50 none (.t 49),.Kr 51 5 (.t 50) (some (.c (.int .i64 1))) none,.ay 52 (.t 7) 2,.store none 1 (.t 52) (.t 51)]))))
def ZP:au :=
(.clean [1,4,7] [1,4,5,7] (.block 1 (.loop [1,4,7] ZO)))
def ab8:eX:=⟨2,59,[.cell 4 (some 7),.tmp 5],(.seq (.ops [.box 2 (.t 0),.alloc 4 [(.int .i64 0),(.list 1 []),(.list 5 []),(.bool false),(.int .i64 0),(.int .i64 0),(.list 2 [])],.aH 5 (.c (.int .i64 0))]) (.seq (.seq (.ops [.load 8 (some 7) (.t 2),.call 9 20 [(.t 8)],.aH 6 (.t 9)]) (.block 0 (.seq (.ops [.aj 11 (.t 6),.bin 12 .neq (.t 11) (.c (.int .i64 0)),.aH 10 (.t 12)]) (.cond (.t 10) (.seq (.ops [.build 13 [(.int .i64 0),(.list 1 []),(.list 5 []),(.bool false),(.int .i64 0),(.int .i64 0),(.list 2 [])] [],.aj 14 (.t 6),.store none 7 (.t 4) (.t 13),.aH 5 (.t 14)]) .ret) (.seq (.ops [.ay 16 (.t 2) 3,.load 17 none (.t 16),.aH 15 (.t 17)]) (.cond (.t 15) (.seq (.ops [.build 18 [(.int .i64 0),(.list 1 []),(.list 5 []),(.bool false),(.int .i64 0),(.int .i64 0),(.list 2 [])] [],.store none 7 (.t 4) (.t 18),.aH 5 (.c (.int .i64 12))]) .ret) (.seq (.ops [.aj 20 (.t 1),.ay 21 (.t 2) 4,.load 22 none (.t 21),.bin 23 .lss (.t 20) (.t 22),.aj 24 (.t 23),.grd 24 false (.aj 25 (.t 1)),.grd 24 false (.ay 26 (.t 2) 5),.grd 24 false (.load 27 none (.t 26)),.grd 24 false (.bin 28 .gtr (.t 25) (.t 27)),.pick 29 (.t 24) (.c (.bool true)) (.t 28),.aH 19 (.t 29)]) (.cond (.t 19) (.seq (.ops [.build 30 [(.int .i64 0),(.list 1 []),(.list 5 []),(.bool false),(.int .i64 0),(.int .i64 0),(.list 2 [])] [],.store none 7 (.t 4) (.t 30),.aH 5 (.c (.int .i64 2))]) .ret) .skip)))))))) (.seq (.ops [.load 31 (some 7) (.t 2),.call 32 45 [(.t 31)],.alloc 7 [(.int .i64 0),(.list 1 []),(.list 5 []),(.bool false),(.int .i64 0),(.int .i64 0),(.list 2 [])],.Pn 7 (.t 7) (.t 32)]) (.seq
   ZP (.seq (.seq (.ops [.ay 53 (.t 7) 4,.load 54 none (.t 53),.aj 55 (.t 1),.bin 56 .neq (.t 54) (.t 55)]) (.cond (.t 56) (.seq (.ops [.build 57 [(.int .i64 0),(.list 1 []),(.list 5 []),(.bool false),(.int .i64 0),(.int .i64 0),(.list 2 [])] [],.store none 7 (.t 4) (.t 57),.aH 5 (.c (.int .i64 7))]) .ret) .skip)) (.seq (.ops [.load 58 (some 7) (.t 7),.store none 7 (.t 4) (.t 58),.aH 5 (.c (.int .i64 0))]) .ret))))))⟩
def yQ:au:=(.seq (.seq (.ops [.aj 4 (.t 3),.aj 5 (.t 0),.len 6 (.t 5),.bin 7 .lss (.t 4) (.t 6)]) (.cond (.t 7) .skip (.exit 0))) (.seq (.block 1 (.seq (.ops [.aj 10 (.t 0),.aj 11 (.t 3),.bI 12 1 (.t 10) (.t 11),.load 13 none (.t 12),.len 14 (.t 13),.bin 15 .gtr (.t 14) (.c (.int .i64 400))]) (.cond (.t 15) (.seq (.ops [.aH 2 (.c (.bool false))]) .ret) .skip))) (.ops [.aj 8 (.t 3),.bin 9 .add (.t 8) (.c (.int .i64 1)),.aH 3 (.t 9)])))
def EX:au :=
(.clean [0,3] [0,2] (.block 0 (.loop [0,3] yQ)))
def VB:eX:=⟨1,19,[.tmp 2],(.seq (.ops [.aH 2 (.c (.bool false))]) (.seq (.seq (.ops [.aH 3 (.c (.int .i64 0))])
  EX) (.seq (.ops [.aj 16 (.t 0),.len 17 (.t 16),.bin 18 .leq (.t 17) (.c (.int .i64 10)),.aH 2 (.t 18)]) .ret)))⟩
def zX:eX:=⟨3,72,[.cell 6 (some 7),.cell 7 (some 5),.tmp 8],(.seq (.ops [.box 3 (.t 0),.alloc 6 [(.int .i64 0),(.list 1 []),(.list 5 []),(.bool false),(.int .i64 0),(.int .i64 0),(.list 2 [])],.alloc 7 [(.int .i64 0),(.int .i64 0),(.int .i64 0),(.list 1 []),(.list 3 [])],.aH 8 (.c (.int .i64 0))]) (.seq (.seq (.ops [.load 14 (some 7) (.t 3),.call 15 20 [(.t 14)],.aH 9 (.t 15)]) (.seq (.ops [.aj 16 (.t 9),.bin 17 .neq (.t 16) (.c (.int .i64 0))]) (.cond (.t 17) (.seq (.ops [.build 18 [(.int .i64 0),(.list 1 []),(.list 5 []),(.bool false),(.int .i64 0),(.int .i64 0),(.list 2 [])] [],.build 19 [(.int .i64 0),(.int .i64 0),(.int .i64 0),(.list 1 []),(.list 3 [])] [],.aj 20 (.t 9),.store none 7 (.t 6) (.t 18),.store none 5 (.t 7) (.t 19),.aH 8 (.t 20)]) .ret) .skip))) (.seq (.seq (.ops [.aj 21 (.t 1),.call 22 53 [(.t 21)],.aH 10 (.t 22)]) (.seq (.ops [.aj 23 (.t 10),.bin 24 .neq (.t 23) (.c (.int .i64 0))]) (.cond (.t 24) (.seq (.ops [.build 25 [(.int .i64 0),(.list 1 []),(.list 5 []),(.bool false),(.int .i64 0),(.int .i64 0),(.list 2 [])] [],.build 26 [(.int .i64 0),(.int .i64 0),(.int .i64 0),(.list 1 []),(.list 3 [])] [],.aj 27 (.t 10),.store none 7 (.t 6) (.t 25),.store none 5 (.t 7) (.t 26),.aH 8 (.t 27)]) .ret) .skip))) (.seq (.ops [.aj 28 (.t 1),.ay 29 (.t 3) 1,.load 30 none (.t 29),.call 31 54 [(.t 28),(.t 30),(.c (.func 55 []))],.aH 11 (.t 31)]) (.seq (.block 0 (.seq (.ops [.ay 33 (.t 3) 3,.load 34 none (.t 33),.un 35 .not (.t 34),.aH 32 (.t 35)]) (.cond (.t 32) (.seq (.ops [.build 36 [(.int .i64 0),(.list 1 []),(.list 5 []),(.bool false),(.int .i64 0),(.int .i64 0),(.list 2 [])] [],.build 37 [(.int .i64 0),(.int .i64 0),(.int .i64 0),(.list 1 []),(.list 3 [])] [],.store none 7 (.t 6) (.t 36),.store none 5 (.t 7) (.t 37),.aH 8 (.c (.int .i64 12))]) .ret) (.seq (.ops [.aj 39 (.t 11),.un 40 .not (.t 39),.aH 38 (.t 40)]) (.cond (.t 38) (.seq (.ops [.build 41 [(.int .i64 0),(.list 1 []),(.list 5 []),(.bool false),(.int .i64 0),(.int .i64 0),(.list 2 [])] [],.build 42 [(.int .i64 0),(.int .i64 0),(.int .i64 0),(.list 1 []),(.list 3 [])] [],.store none 7 (.t 6) (.t 41),.store none 5 (.t 7) (.t 42),.aH 8 (.c (.int .i64 22))]) .ret) (.seq (.ops [.aj 44 (.t 2),.bin 45 .lss (.t 44) (.c (.int .i64 0)),.aj 46 (.t 45),.grd 46 false (.aj 47 (.t 2)),.grd 46 false (.bin 48 .gtr (.t 47) (.c (.int .i64 1073741824))),.pick 49 (.t 46) (.c (.bool true)) (.t 48),.aH 43 (.t 49)]) (.cond (.t 43) (.seq (.ops [.build 50 [(.int .i64 0),(.list 1 []),(.list 5 []),(.bool false),(.int .i64 0),(.int .i64 0),(.list 2 [])] [],.build 51 [(.int .i64 0),(.int .i64 0),(.int .i64 0),(.list 1 []),(.list 3 [])] [],.store none 7 (.t 6) (.t 50),.store none 5 (.t 7) (.t 51),.aH 8 (.c (.int .i64 24))]) .ret) .skip))))))) (.seq (.drs [] [3,6,7,12] [.ay 52 (.t 3) 4,.load 53 none (.t 52),.ay 54 (.t 3) 5,.load 55 none (.t 54),.aj 56 (.t 2),.ay 57 (.t 3) 6,.load 58 none (.t 57),.aj 59 (.t 1),.call 60 56 [(.t 58),(.t 59)],.build 61 [(.int .i64 0),(.int .i64 0),(.int .i64 0),(.list 1 []),(.list 3 [])] [(0,1,(.t 53)),(1,1,(.t 55)),(2,1,(.t 56)),(4,1,(.t 60))],.alloc 12 [(.int .i64 0),(.int .i64 0),(.int .i64 0),(.list 1 []),(.list 3 [])],.store none 5 (.t 12) (.t 61)]
    [⟨[([0,1,2,3,4,5,6,7],8),([9],10)],(some ([],[],11,[])),[],[0,1,2,3,4,5,6,7,8,9,10,11],false⟩,⟨[([0,1,2,3,4,5,6,7],10),([],8)],(some ([9],[],11,[])),[],[0,1,2,3,4,5,6,7,10,8,9,11],false⟩]) (.seq (.ops [.load 62 (some 7) (.t 3),.call 63 45 [(.t 62)],.alloc 13 [(.int .i64 0),(.list 1 []),(.list 5 []),(.bool false),(.int .i64 0),(.int .i64 0),(.list 2 [])],.Pn 7 (.t 13) (.t 63)]) (.seq (.ops [.load 64 (some 5) (.t 12),.call 65 48 [(.t 64)],.gG 66 5 [(.t 65)],.ay 67 (.t 13) 3,.store none 1 (.t 67) (.c (.bool false)),.ay 68 (.t 13) 6,.store none 1 (.t 68) (.nil 2),.ay 69 (.t 13) 2,.store none 1 (.t 69) (.t 66)]) (.seq (.sO [(.t 12)] [] (some ([0],[1],2,[([],3)])) [4] [.load 70 (some 7) (.t 13),.J6 71 (some 5) (.t 12),.store none 7 (.t 6) (.t 70),.store none 5 (.t 7) (.t 71),.aH 8 (.c (.int .i64 0))]) .ret)))))))))⟩
def yR:au:=(.seq (.seq (.ops [.aj 40 (.t 11),.aj 41 (.t 1),.len 42 (.t 41),.bin 43 .lss (.t 40) (.t 42)]) (.cond (.t 43) .skip (.exit 0))) (.seq (.block 1 (.seq (.sO [] [] none [0,1,2,3,4,5,6,7,8,9,10] [.aj 46 (.t 1),.aj 47 (.t 11),.bI 48 1 (.t 46) (.t 47),.load 49 none (.t 48),.len 50 (.t 49),.ay 51 (.t 3) 1,.load 52 none (.t 51),.aj 53 (.t 11),.bI 54 1 (.t 52) (.t 53),.load 55 none (.t 54),.bin 56 .neq (.t 50) (.t 55)]) (.cond (.t 56) (.seq (.ops [.build 57 [(.int .i64 0),(.list 1 []),(.list 5 []),(.bool false),(.int .i64 0),(.int .i64 0),(.list 2 [])] [],.build 58 [(.int .i64 0),(.int .i64 0),(.int .i64 0),(.list 1 []),(.list 3 [])] [],.store none 7 (.t 6) (.t 57),.store none 5 (.t 7) (.t 58),.aH 8 (.c (.int .i64 22))]) .ret) .skip))) (.ops [.aj 44 (.t 11),.bin 45 .add (.t 44) (.c (.int .i64 1)),.aH 11 (.t 45)])))
def EY:au :=
(.clean [1,2,3,6,7,11] [1,2,3,6,7,8] (.block 0 (.loop [1,2,3,6,7,11] yR)))
def yF:eX:=⟨3,84,[.cell 6 (some 7),.cell 7 (some 5),.tmp 8],(.seq (.ops [.box 3 (.t 0),.alloc 6 [(.int .i64 0),(.list 1 []),(.list 5 []),(.bool false),(.int .i64 0),(.int .i64 0),(.list 2 [])],.alloc 7 [(.int .i64 0),(.int .i64 0),(.int .i64 0),(.list 1 []),(.list 3 [])],.aH 8 (.c (.int .i64 0))]) (.seq (.seq (.ops [.load 13 (some 7) (.t 3),.call 14 21 [(.t 13)],.aH 9 (.t 14)]) (.seq (.ops [.aj 15 (.t 9),.bin 16 .neq (.t 15) (.c (.int .i64 0))]) (.cond (.t 16) (.seq (.ops [.build 17 [(.int .i64 0),(.list 1 []),(.list 5 []),(.bool false),(.int .i64 0),(.int .i64 0),(.list 2 [])] [],.build 18 [(.int .i64 0),(.int .i64 0),(.int .i64 0),(.list 1 []),(.list 3 [])] [],.aj 19 (.t 9),.store none 7 (.t 6) (.t 17),.store none 5 (.t 7) (.t 18),.aH 8 (.t 19)]) .ret) .skip))) (.seq (.seq (.ops [.aj 20 (.t 1),.call 21 57 [(.t 20)],.aH 10 (.t 21)]) (.seq (.ops [.aj 22 (.t 10),.bin 23 .neq (.t 22) (.c (.int .i64 0))]) (.cond (.t 23) (.seq (.ops [.build 24 [(.int .i64 0),(.list 1 []),(.list 5 []),(.bool false),(.int .i64 0),(.int .i64 0),(.list 2 [])] [],.build 25 [(.int .i64 0),(.int .i64 0),(.int .i64 0),(.list 1 []),(.list 3 [])] [],.aj 26 (.t 10),.store none 7 (.t 6) (.t 24),.store none 5 (.t 7) (.t 25),.aH 8 (.t 26)]) .ret) .skip))) (.seq (.seq (.ops [.ay 27 (.t 3) 3,.load 28 none (.t 27),.un 29 .not (.t 28)]) (.cond (.t 29) (.seq (.ops [.build 30 [(.int .i64 0),(.list 1 []),(.list 5 []),(.bool false),(.int .i64 0),(.int .i64 0),(.list 2 [])] [],.build 31 [(.int .i64 0),(.int .i64 0),(.int .i64 0),(.list 1 []),(.list 3 [])] [],.store none 7 (.t 6) (.t 30),.store none 5 (.t 7) (.t 31),.aH 8 (.c (.int .i64 12))]) .ret) .skip)) (.seq (.seq (.ops [.aj 32 (.t 1),.len 33 (.t 32),.ay 34 (.t 3) 1,.load 35 none (.t 34),.len 36 (.t 35),.bin 37 .neq (.t 33) (.t 36)]) (.cond (.t 37) (.seq (.ops [.build 38 [(.int .i64 0),(.list 1 []),(.list 5 []),(.bool false),(.int .i64 0),(.int .i64 0),(.list 2 [])] [],.build 39 [(.int .i64 0),(.int .i64 0),(.int .i64 0),(.list 1 []),(.list 3 [])] [],.store none 7 (.t 6) (.t 38),.store none 5 (.t 7) (.t 39),.aH 8 (.c (.int .i64 22))]) .ret) .skip)) (.seq (.seq (.ops [.aH 11 (.c (.int .i64 0))])
    EY) (.seq (.seq (.ops [.aj 59 (.t 2),.bin 60 .lss (.t 59) (.c (.int .i64 0)),.aj 61 (.t 60),.grd 61 false (.aj 62 (.t 2)),.grd 61 false (.bin 63 .gtr (.t 62) (.c (.int .i64 1073741824))),.pick 64 (.t 61) (.c (.bool true)) (.t 63)]) (.cond (.t 64) (.seq (.ops [.build 65 [(.int .i64 0),(.list 1 []),(.list 5 []),(.bool false),(.int .i64 0),(.int .i64 0),(.list 2 [])] [],.build 66 [(.int .i64 0),(.int .i64 0),(.int .i64 0),(.list 1 []),(.list 3 [])] [],.store none 7 (.t 6) (.t 65),.store none 5 (.t 7) (.t 66),.aH 8 (.c (.int .i64 24))]) .ret) .skip)) (.seq (.drs [] [3,6,7,12] [.ay 67 (.t 3) 4,.load 68 none (.t 67),.ay 69 (.t 3) 5,.load 70 none (.t 69),.aj 71 (.t 2),.aj 72 (.t 1),.ay 73 (.t 3) 6,.load 74 none (.t 73),.call 75 58 [(.t 72),(.t 74)],.build 76 [(.int .i64 0),(.int .i64 0),(.int .i64 0),(.list 1 []),(.list 3 [])] [(0,1,(.t 68)),(1,1,(.t 70)),(2,1,(.t 71)),(4,1,(.t 75))],.alloc 12 [(.int .i64 0),(.int .i64 0),(.int .i64 0),(.list 1 []),(.list 3 [])],.store none 5 (.t 12) (.t 76)]
     [⟨[([0,1,2,3,4,5,6,7],8),([9],10)],(some ([],[],11,[])),[],[0,1,2,3,4,5,6,7,8,9,10,11],false⟩,⟨[([0,1,2,3,4,5,6,7],10),([],8)],(some ([9],[],11,[])),[],[0,1,2,3,4,5,6,7,10,8,9,11],false⟩]) (.seq (.drs [(.t 12)] [3,6,7,12] [.J6 77 (some 5) (.t 12),.gG 78 5 [(.t 77)],.ay 79 (.t 3) 3,.store none 1 (.t 79) (.c (.bool false)),.ay 80 (.t 3) 6,.store none 1 (.t 80) (.nil 2),.ay 81 (.t 3) 2,.store none 1 (.t 81) (.t 78)]
      [⟨[],(some ([2],[0],3,[([4],1),([],5),([6],7)])),[],[2,0,3,4,1,5,6,7],false⟩,⟨[],(some ([2],[0],3,[([4],5),([],1),([6],7)])),[],[2,0,3,4,5,1,6,7],false⟩,⟨[([2,0],1)],(some ([],[],3,[([4],5),([6],7)])),[],[2,0,1,3,4,5,6,7],false⟩]) (.seq (.sO [(.t 12)] [] (some ([0],[1],2,[([],3)])) [4] [.load 82 (some 7) (.t 3),.J6 83 (some 5) (.t 12),.store none 7 (.t 6) (.t 82),.store none 5 (.t 7) (.t 83),.aH 8 (.c (.int .i64 0))]) .ret))))))))))⟩
def EZ:au:=(.seq (.seq (.ops [.aj 12 (.t 6),.aj 13 (.t 0),.len 14 (.t 13),.bin 15 .lss (.t 12) (.t 14)]) (.cond (.t 15) .skip (.exit 0))) (.seq (.block 1 (.ops [.aj 18 (.t 5),.aj 19 (.t 0),.aj 20 (.t 6),.bI 21 1 (.t 19) (.t 20),.load 22 none (.t 21),.make 23 (.agg [(.int .u8 0),(.int .u8 0),(.int .u8 0),(.int .u8 0),(.int .u8 0),(.int .u8 0),(.int .u8 0),(.int .u8 0)]) (.t 22) (.t 22),.gG 24 1 [(.t 23)],.app 25 1 (.t 18) (.t 24),.aH 5 (.t 25)])) (.ops [.aj 16 (.t 6),.bin 17 .add (.t 16) (.c (.int .i64 1)),.aH 6 (.t 17)])))
def E5:au :=
(.clean [0,5,6,25] [2,3,5] (.block 0 (.loop [0,5,6,25] EZ)))
def Rn:eX:=⟨1,27,[.tmp 2,.tmp 3],(.seq (.ops [.aH 2 (.nil 1),.aH 3 (.c (.int .i64 0))]) (.seq (.seq (.ops [.aj 7 (.t 0),.call 8 62 [(.t 7)],.aH 4 (.t 8)]) (.seq (.ops [.aj 9 (.t 4),.bin 10 .neq (.t 9) (.c (.int .i64 0))]) (.cond (.t 10) (.seq (.ops [.aj 11 (.t 4),.aH 2 (.nil 1),.aH 3 (.t 11)]) .ret) .skip))) (.seq (.ops [.aH 5 (.nil 1)]) (.seq (.seq (.ops [.aH 6 (.c (.int .i64 0))])
   E5) (.seq (.ops [.aj 26 (.t 5),.aH 2 (.t 26),.aH 3 (.c (.int .i64 0))]) .ret)))))⟩
def vC:au:=(.seq (.seq (.ops [.aj 5 (.t 4),.aj 6 (.t 0),.len 7 (.t 6),.bin 8 .lss (.t 5) (.t 7)]) (.cond (.t 8) .skip (.exit 0))) (.seq (.block 1 (.ops [.aj 11 (.t 3),.aj 12 (.t 0),.aj 13 (.t 4),.bI 14 3 (.t 12) (.t 13),.ay 15 (.t 14) 2,.load 16 none (.t 15),.len 17 (.t 16),.bin 18 .add (.t 11) (.t 17),.aH 3 (.t 18)])) (.ops [.aj 9 (.t 4),.bin 10 .add (.t 9) (.c (.int .i64 1)),.aH 4 (.t 10)])))
def vF:au :=
(.clean [0,3,4] [2,3] (.block 0 (.loop [0,3,4] vC)))
def VD:eX:=⟨1,20,[.tmp 2],(.seq (.ops [.aH 2 (.c (.int .i64 0))]) (.seq (.ops [.aH 3 (.c (.int .i64 0))]) (.seq (.seq (.ops [.aH 4 (.c (.int .i64 0))])
   vF) (.seq (.ops [.aj 19 (.t 3),.aH 2 (.t 19)]) .ret))))⟩
def ab9:eX:=⟨4,18,[.cell 8 (some 5)],(.seq (.ops [.alloc 8 [(.int .i64 0),(.int .i64 0),(.int .i64 0),(.list 1 []),(.list 3 [])]]) (.seq (.ops [.aj 9 (.t 0),.aj 10 (.t 1),.aj 11 (.t 2),.aj 12 (.t 3),.build 13 [(.int .u8 0),(.int .u8 0),(.int .u8 0),(.int .u8 0),(.int .u8 0),(.int .u8 0),(.int .u8 0),(.int .u8 0)] [(0,1,(.t 12))],.gG 14 8 [(.t 13)],.build 15 [(.int .i64 0),(.int .i64 0),(.list 0 [])] [(1,1,(.t 11)),(2,1,(.t 14))],.gG 16 3 [(.t 15)],.build 17 [(.int .i64 0),(.int .i64 0),(.int .i64 0),(.list 1 []),(.list 3 [])] [(0,1,(.t 9)),(1,1,(.t 10)),(4,1,(.t 16))],.store none 5 (.t 8) (.t 17)]) .ret))⟩
def acd:eX:=⟨2,8,[.tmp 4],(.seq (.ops [.aH 4 (.c (.bool false))]) (.seq (.ops [.aj 5 (.t 0),.aj 6 (.t 1),.call 7 52 [(.t 5),(.t 6)],.aH 4 (.t 7)]) .ret))⟩
def Ro:eX:=⟨1,12,[.tmp 2,.tmp 3],(.seq (.ops [.aH 2 (.nil 1),.aH 3 (.c (.int .i64 0))]) (.seq (.seq (.ops [.aj 5 (.t 0),.call 6 68 [(.t 5)],.aH 4 (.t 6)]) (.seq (.ops [.aj 7 (.t 4),.bin 8 .neq (.t 7) (.c (.int .i64 0))]) (.cond (.t 8) (.seq (.ops [.aj 9 (.t 4),.aH 2 (.nil 1),.aH 3 (.t 9)]) .ret) .skip))) (.seq (.ops [.aj 10 (.t 0),.call 11 69 [(.t 10),(.c (.func 70 []))],.aH 2 (.t 11),.aH 3 (.c (.int .i64 0))]) .ret)))⟩
def ZQ:eX:=⟨1,8,[.tmp 2],(.seq (.ops [.aH 2 (.nil 1)]) (.seq (.seq (.ops [.aj 3 (.t 0),.Kq 4 false (.t 3)]) (.cond (.t 4) (.seq (.ops [.aH 2 (.nil 1)]) .ret) .skip)) (.seq (.ops [.gG 5 1 [],.aj 6 (.t 0),.app 7 1 (.t 5) (.t 6),.aH 2 (.t 7)]) .ret)))⟩
def E8:au:=(.seq (.seq (.ops [.aj 11 (.t 5),.aj 12 (.t 0),.len 13 (.t 12),.bin 14 .lss (.t 11) (.t 13)]) (.cond (.t 14) .skip (.exit 0))) (.seq (.block 1 (.seq (.sO [] [] none [0,1,2,3,4,5,6,7,8] [.aj 17 (.t 0),.aj 18 (.t 5),.bI 19 1 (.t 17) (.t 18),.load 20 none (.t 19),.aj 21 (.t 1),.aj 22 (.t 5),.bI 23 1 (.t 21) (.t 22),.load 24 none (.t 23),.bin 25 .neq (.t 20) (.t 24)]) (.cond (.t 25) (.seq (.ops [.aH 4 (.c (.bool false))]) .ret) .skip))) (.ops [.aj 15 (.t 5),.bin 16 .add (.t 15) (.c (.int .i64 1)),.aH 5 (.t 16)])))
def Fa:au :=
(.clean [0,1,5] [4] (.block 0 (.loop [0,1,5] E8)))
def VE:eX:=⟨2,26,[.tmp 4],(.seq (.ops [.aH 4 (.c (.bool false))]) (.seq (.seq (.ops [.aj 6 (.t 0),.len 7 (.t 6),.aj 8 (.t 1),.len 9 (.t 8),.bin 10 .neq (.t 7) (.t 9)]) (.cond (.t 10) (.seq (.ops [.aH 4 (.c (.bool false))]) .ret) .skip)) (.seq (.seq (.ops [.aH 5 (.c (.int .i64 0))])
   Fa) (.seq (.ops [.aH 4 (.c (.bool true))]) .ret))))⟩
def Fb:au:=(.seq (.seq (.ops [.aj 11 (.t 5),.aj 12 (.t 0),.len 13 (.t 12),.bin 14 .lss (.t 11) (.t 13)]) (.cond (.t 14) .skip (.exit 0))) (.seq (.block 1 (.seq (.sO [] [([0,1,2,3,4,5,6,7],8)] none [9] [.aj 17 (.t 0),.aj 18 (.t 5),.bI 19 2 (.t 17) (.t 18),.load 20 (some 2) (.t 19),.aj 21 (.t 1),.aj 22 (.t 5),.bI 23 2 (.t 21) (.t 22),.load 24 (some 2) (.t 23),.call 25 71 [(.t 20),(.t 24)],.un 26 .not (.t 25)]) (.cond (.t 26) (.seq (.ops [.aH 4 (.c (.bool false))]) .ret) .skip))) (.ops [.aj 15 (.t 5),.bin 16 .add (.t 15) (.c (.int .i64 1)),.aH 5 (.t 16)])))
def Fe:au :=
(.clean [0,1,5] [4] (.block 0 (.loop [0,1,5] Fb)))
def VF:eX:=⟨2,27,[.tmp 4],(.seq (.ops [.aH 4 (.c (.bool false))]) (.seq (.seq (.ops [.aj 6 (.t 0),.len 7 (.t 6),.aj 8 (.t 1),.len 9 (.t 8),.bin 10 .neq (.t 7) (.t 9)]) (.cond (.t 10) (.seq (.ops [.aH 4 (.c (.bool false))]) .ret) .skip)) (.seq (.seq (.ops [.aH 5 (.c (.int .i64 0))])
   Fe) (.seq (.ops [.aH 4 (.c (.bool true))]) .ret))))⟩
def Fg:eX:=⟨2,47,[.tmp 4],(.seq (.ops [.box 2 (.t 0),.aH 4 (.c (.int .i64 0))]) (.seq (.seq (.ops [.aj 9 (.t 1),.call 10 38 [(.t 9)],.aj 8 (.t 10),.ext 11 (.t 8) 0,.ext 12 (.t 8) 1,.aH 5 (.t 11),.aH 6 (.t 12)]) (.seq (.ops [.aj 13 (.t 6),.bin 14 .neq (.t 13) (.c (.int .i64 0))]) (.cond (.t 14) (.seq (.ops [.aj 15 (.t 6),.aH 4 (.t 15)]) .ret) .skip))) (.seq (.block 0 (.seq (.ops [.ay 17 (.t 2) 0,.load 18 none (.t 17),.bin 19 .lss (.t 18) (.c (.int .i64 0)),.aj 20 (.t 19),.grd 20 false (.ay 21 (.t 2) 1),.grd 20 false (.load 22 none (.t 21)),.grd 20 false (.ay 23 (.t 2) 0),.grd 20 false (.load 24 none (.t 23)),.grd 20 false (.bin 25 .leq (.t 22) (.t 24)),.pick 26 (.t 20) (.c (.bool true)) (.t 25),.aj 27 (.t 26),.grd 27 false (.ay 28 (.t 2) 1),.grd 27 false (.load 29 none (.t 28)),.grd 27 false (.bin 30 .gtr (.t 29) (.c (.int .i64 1073741824))),.pick 31 (.t 27) (.c (.bool true)) (.t 30),.aH 16 (.t 31)]) (.cond (.t 16) (.seq (.ops [.aH 4 (.c (.int .i64 2))]) .ret) (.seq (.ops [.ay 33 (.t 2) 2,.load 34 none (.t 33),.call 35 72 [(.t 34),(.c (.int .i64 0)),(.c (.int .i64 1073741824))],.un 36 .not (.t 35),.aH 32 (.t 36)]) (.cond (.t 32) (.seq (.ops [.aH 4 (.c (.int .i64 24))]) .ret) .skip))))) (.seq (.seq (.ops [.ay 37 (.t 2) 3,.load 38 none (.t 37),.call 39 73 [(.t 38),(.c (.int .i64 0))],.aH 7 (.t 39)]) (.seq (.ops [.aj 40 (.t 7),.bin 41 .neq (.t 40) (.c (.int .i64 0))]) (.cond (.t 41) (.seq (.ops [.aj 42 (.t 7),.aH 4 (.t 42)]) .ret) .skip))) (.seq (.ops [.ay 43 (.t 2) 4,.load 44 none (.t 43),.aj 45 (.t 1),.call 46 74 [(.t 44),(.t 45)],.aH 4 (.t 46)]) .ret)))))⟩
def ace:eX:=⟨0,5,[.cell 0 (some 2)],(.seq (.ops [.alloc 0 [.kQ,.kQ]]) (.seq (.ops [.alloc 1 [.kQ],.store none 1 (.t 1) (.c (.func 75 []))]) (.seq (.ops [.Kt 2 77 [(.t 1)],.Kt 3 79 [(.t 1)],.build 4 [.kQ,.kQ] [(0,1,(.t 2)),(1,1,(.t 3))],.store none 2 (.t 0) (.t 4)]) .ret)))⟩
def Rq:eX:=⟨1,5,[.tmp 2],(.seq (.ops [.box 1 (.t 0),.aH 2 (.c (.int .i64 0))]) (.seq (.seq (.ops [.ay 3 (.t 1) 3,.load 4 none (.t 3)]) (.cond (.t 4) (.seq (.ops [.aH 2 (.c (.int .i64 1))]) .ret) .skip)) (.seq (.ops [.aH 2 (.c (.int .i64 0))]) .ret)))⟩
def Fh:au:=(.seq (.ops [.bin 13 .lss (.t 12) (.t 11)]) (.seq (.cond (.t 13) .skip (.exit 0)) (.seq (.block 1 (.seq (.ops [.bI 14 5 (.t 10) (.t 12),.load 15 (some 5) (.t 14),.alloc 5 [(.int .i64 0),(.int .i64 0),(.int .i64 0),(.list 1 []),(.list 3 [])],.store none 5 (.t 5) (.t 15)]) (.ops [.aj 16 (.t 3),.load 17 (some 5) (.t 5),.call 18 48 [(.t 17)],.gG 19 5 [(.t 18)],.app 20 5 (.t 16) (.t 19),.aH 3 (.t 20)]))) (.ops [.bin 21 .add (.t 12) (.c (.int .i64 1)),.aj 12 (.t 21)]))))
def Fj:au :=
(.clean [1,2,3,10,11,12,20,37] [1,2,3,20,37] (.block 0 (.loop [1,2,3,10,11,12,20,37] Fh)))
def Fp:au:=(.seq (.ops [.bin 26 .lss (.t 25) (.t 24)]) (.seq (.cond (.t 26) .skip (.exit 2)) (.seq (.block 3 (.seq (.ops [.bI 27 2 (.t 23) (.t 25),.load 28 (some 2) (.t 27),.alloc 8 [(.int .i64 0),(.list 1 [])],.store none 2 (.t 8) (.t 28)]) (.sO [] [([0,1,2,3,4],5),([6],7)] (some ([],[],8,[])) [9] [.aj 29 (.t 6),.ay 30 (.t 8) 0,.load 31 none (.t 30),.ay 32 (.t 8) 1,.load 33 none (.t 32),.call 34 80 [(.t 33)],.build 35 [(.int .i64 0),(.list 1 [])] [(0,1,(.t 31)),(1,1,(.t 34))],.gG 36 2 [(.t 35)],.app 37 2 (.t 29) (.t 36),.aH 6 (.t 37)]))) (.ops [.bin 38 .add (.t 25) (.c (.int .i64 1)),.aj 25 (.t 38)]))))
def Fq:au :=
(.clean [1,2,3,6,20,23,24,25,37] [1,2,3,6] (.block 2 (.loop [1,2,3,6,20,23,24,25,37] Fp)))
def VG:eX:=⟨1,48,[.own 2 7],(.seq (.ops [.box 1 (.t 0),.alloc 2 [(.int .i64 0),(.list 1 []),(.list 5 []),(.bool false),(.int .i64 0),(.int .i64 0),(.list 2 [])]]) (.seq (.ops [.aH 3 (.nil 5)]) (.seq (.seq (.ops [.ay 9 (.t 1) 2,.load 10 none (.t 9),.len 11 (.t 10),.aj 12 (.c (.int .i64 0))])
   Fj) (.seq (.ops [.aH 6 (.nil 2)]) (.seq (.seq (.ops [.ay 22 (.t 1) 6,.load 23 none (.t 22),.len 24 (.t 23),.aj 25 (.c (.int .i64 0))])
    Fq) (.seq (.ops [.ay 39 (.t 1) 1,.load 40 none (.t 39),.call 41 39 [(.t 40)],.aH 42 (.t 3),.aH 43 (.t 6),.ay 44 (.t 1) 1,.store none 1 (.t 44) (.t 41),.ay 45 (.t 1) 2,.store none 1 (.t 45) (.t 42),.ay 46 (.t 1) 6,.store none 1 (.t 46) (.t 43)]) (.seq (.ops [.SN 47 7 (.t 1),.Pn 7 (.t 2) (.t 47)]) .ret)))))))⟩
def zY:eX:=⟨2,49,[.tmp 4],(.seq (.ops [.box 2 (.t 0),.aH 4 (.c (.int .i64 0))]) (.seq (.seq (.ops [.aj 7 (.t 1),.call 8 62 [(.t 7)],.aH 5 (.t 8)]) (.seq (.ops [.aj 9 (.t 5),.bin 10 .neq (.t 9) (.c (.int .i64 0))]) (.cond (.t 10) (.seq (.ops [.aj 11 (.t 5),.aH 4 (.t 11)]) .ret) .skip))) (.seq (.seq (.ops [.ay 12 (.t 2) 0,.load 13 none (.t 12),.bin 14 .lss (.t 13) (.c (.int .i64 0)),.aj 15 (.t 14),.grd 15 false (.ay 16 (.t 2) 1),.grd 15 false (.load 17 none (.t 16)),.grd 15 false (.ay 18 (.t 2) 0),.grd 15 false (.load 19 none (.t 18)),.grd 15 false (.bin 20 .leq (.t 17) (.t 19)),.pick 21 (.t 15) (.c (.bool true)) (.t 20),.aj 22 (.t 21),.grd 22 false (.ay 23 (.t 2) 1),.grd 22 false (.load 24 none (.t 23)),.grd 22 false (.bin 25 .gtr (.t 24) (.c (.int .i64 1073741824))),.pick 26 (.t 22) (.c (.bool true)) (.t 25)]) (.cond (.t 26) (.seq (.ops [.aH 4 (.c (.int .i64 2))]) .ret) .skip)) (.seq (.seq (.ops [.ay 27 (.t 2) 2,.load 28 none (.t 27),.bin 29 .lss (.t 28) (.c (.int .i64 0)),.aj 30 (.t 29),.grd 30 false (.ay 31 (.t 2) 2),.grd 30 false (.load 32 none (.t 31)),.grd 30 false (.bin 33 .gtr (.t 32) (.c (.int .i64 1073741824))),.pick 34 (.t 30) (.c (.bool true)) (.t 33)]) (.cond (.t 34) (.seq (.ops [.aH 4 (.c (.int .i64 24))]) .ret) .skip)) (.seq (.seq (.ops [.ay 35 (.t 2) 3,.load 36 none (.t 35),.len 37 (.t 36),.bin 38 .gtr (.t 37) (.c (.int .i64 8))]) (.cond (.t 38) (.seq (.ops [.aH 4 (.c (.int .i64 6))]) .ret) .skip)) (.seq (.seq (.ops [.ay 39 (.t 2) 3,.load 40 none (.t 39),.call 41 81 [(.t 40)],.aH 6 (.t 41)]) (.seq (.ops [.aj 42 (.t 6),.bin 43 .neq (.t 42) (.c (.int .i64 0))]) (.cond (.t 43) (.seq (.ops [.aj 44 (.t 6),.aH 4 (.t 44)]) .ret) .skip))) (.seq (.ops [.ay 45 (.t 2) 4,.load 46 none (.t 45),.aj 47 (.t 1),.call 48 82 [(.t 46),(.t 47)],.aH 4 (.t 48)]) .ret)))))))⟩
def Fv:au:=(.seq (.ops [.bin 10 .lss (.t 9) (.t 8)]) (.seq (.cond (.t 10) .skip (.exit 0)) (.seq (.block 1 (.seq (.ops [.bI 11 3 (.t 7) (.t 9),.load 12 (some 3) (.t 11),.alloc 5 [(.int .i64 0),(.int .i64 0),(.list 0 [])],.store none 3 (.t 5) (.t 12)]) (.seq (.ops [.ay 13 (.t 5) 2,.load 14 none (.t 13),.call 15 86 [(.t 14)],.ay 16 (.t 5) 2,.store none 1 (.t 16) (.t 15)]) (.ops [.aj 17 (.t 3),.load 18 (some 3) (.t 5),.gG 19 3 [(.t 18)],.app 20 3 (.t 17) (.t 19),.aH 3 (.t 20)])))) (.ops [.bin 21 .add (.t 9) (.c (.int .i64 1)),.aj 9 (.t 21)]))))
def Fz:au :=
(.clean [1,2,3,7,8,9,20] [1,2,3] (.block 0 (.loop [1,2,3,7,8,9,20] Fv)))
def VH:eX:=⟨1,29,[.cell 2 (some 5)],(.seq (.ops [.box 1 (.t 0),.alloc 2 [(.int .i64 0),(.int .i64 0),(.int .i64 0),(.list 1 []),(.list 3 [])]]) (.seq (.ops [.aH 3 (.nil 3)]) (.seq (.seq (.ops [.ay 6 (.t 1) 4,.load 7 none (.t 6),.len 8 (.t 7),.aj 9 (.c (.int .i64 0))])
   Fz) (.seq (.ops [.ay 22 (.t 1) 3,.load 23 none (.t 22),.call 24 39 [(.t 23)],.aj 25 (.t 3),.ay 26 (.t 1) 3,.store none 1 (.t 26) (.t 24),.ay 27 (.t 1) 4,.store none 1 (.t 27) (.t 25)]) (.seq (.ops [.load 28 (some 5) (.t 1),.store none 5 (.t 2) (.t 28)]) .ret)))))⟩
def VI:eX:=⟨0,2,[.cell 0 (some 2)],(.seq (.ops [.alloc 0 [.kQ,.kQ]]) (.seq (.ops [.build 1 [.kQ,.kQ] [(0,1,(.c (.func 87 []))),(1,1,(.c (.func 88 [])))],.store none 2 (.t 0) (.t 1)]) .ret))⟩
def vG:au:=(.seq (.seq (.ops [.aj 11 (.t 5),.aj 12 (.t 0),.len 13 (.t 12),.bin 14 .lss (.t 11) (.t 13)]) (.cond (.t 14) .skip (.exit 0))) (.seq (.block 1 (.seq (.sO [] [([0,1,2,3],4)] none [5,6,7,8,9,10,11,12,13,14,15,16,17] [.aj 17 (.t 0),.aj 18 (.t 5),.bI 19 2 (.t 17) (.t 18),.load 20 (some 2) (.t 19),.call 21 92 [(.t 20)],.bin 22 .neq (.t 21) (.c (.int .i64 0)),.aj 23 (.t 22),.grd 23 false (.aj 24 (.t 0)),.grd 23 false (.aj 25 (.t 5)),.grd 23 false (.bI 26 2 (.t 24) (.t 25)),.grd 23 false (.ay 27 (.t 26) 0),.grd 23 false (.load 28 none (.t 27)),.grd 23 false (.aj 29 (.t 1)),.grd 23 false (.aj 30 (.t 5)),.grd 23 false (.bI 31 1 (.t 29) (.t 30)),.grd 23 false (.load 32 none (.t 31)),.grd 23 false (.bin 33 .neq (.t 28) (.t 32)),.pick 34 (.t 23) (.c (.bool true)) (.t 33)]) (.cond (.t 34) (.seq (.ops [.aH 4 (.c (.bool false))]) .ret) .skip))) (.ops [.aj 15 (.t 5),.bin 16 .add (.t 15) (.c (.int .i64 1)),.aH 5 (.t 16)])))
def FB:au :=
(.clean [0,1,5] [4] (.block 0 (.loop [0,1,5] vG)))
def Rt:eX:=⟨2,35,[.tmp 4],(.seq (.ops [.aH 4 (.c (.bool false))]) (.seq (.seq (.ops [.aj 6 (.t 0),.len 7 (.t 6),.aj 8 (.t 1),.len 9 (.t 8),.bin 10 .neq (.t 7) (.t 9)]) (.cond (.t 10) (.seq (.ops [.aH 4 (.c (.bool false))]) .ret) .skip)) (.seq (.seq (.ops [.aH 5 (.c (.int .i64 0))])
   FB) (.seq (.ops [.aH 4 (.c (.bool true))]) .ret))))⟩
def vH:au:=(.seq (.seq (.ops [.aj 10 (.t 9),.aj 11 (.t 0),.len 12 (.t 11),.bin 13 .lss (.t 10) (.t 12)]) (.cond (.t 13) .skip (.exit 0))) (.seq (.block 1 (.seq (.seq (.ops [.aj 16 (.t 0),.aj 17 (.t 9),.bI 18 5 (.t 16) (.t 17),.load 19 (some 5) (.t 18),.aj 20 (.t 1),.call 21 46 [(.t 19),(.t 20)],.bin 22 .neq (.t 21) (.c (.int .i64 0)),.aj 23 (.t 22),.grd 23 false (.aj 24 (.t 0)),.grd 23 false (.aj 25 (.t 9)),.grd 23 false (.bI 26 5 (.t 24) (.t 25)),.grd 23 false (.ay 27 (.t 26) 0),.grd 23 false (.load 28 none (.t 27)),.grd 23 false (.aj 29 (.t 2)),.grd 23 false (.bin 30 .neq (.t 28) (.t 29)),.pick 31 (.t 23) (.c (.bool true)) (.t 30)]) (.cond (.t 31) (.seq (.ops [.aH 8 (.c (.bool false))]) .ret) .skip)) (.ops [.aj 32 (.t 0),.aj 33 (.t 9),.bI 34 5 (.t 32) (.t 33),.ay 35 (.t 34) 1,.load 36 none (.t 35),.aH 2 (.t 36)]))) (.ops [.aj 14 (.t 9),.bin 15 .add (.t 14) (.c (.int .i64 1)),.aH 9 (.t 15)])))
def FC:au :=
(.clean [0,1,2,3,9] [2,3,8] (.block 0 (.loop [0,1,2,3,9] vH)))
def VJ:eX:=⟨4,40,[.tmp 8],(.seq (.ops [.aH 8 (.c (.bool false))]) (.seq (.seq (.ops [.aH 9 (.c (.int .i64 0))])
  FC) (.seq (.ops [.aj 37 (.t 2),.aj 38 (.t 3),.bin 39 .eql (.t 37) (.t 38),.aH 8 (.t 39)]) .ret)))⟩
def FD:au:=(.seq (.seq (.ops [.aj 11 (.t 5),.aj 12 (.t 0),.len 13 (.t 12),.bin 14 .lss (.t 11) (.t 13)]) (.cond (.t 14) .skip (.exit 0))) (.seq (.block 1 (.seq (.sO [] [([0,1,2,3,4,5,6,7,8,9,10,11,12,13,14,15,16,17,18,19,20,21,22,23,24,25,26,27,28,29,30,31,32,33,34],35)] none [36,37] [.aj 17 (.t 0),.aj 18 (.t 5),.bI 19 3 (.t 17) (.t 18),.ay 20 (.t 19) 0,.load 21 none (.t 20),.aj 22 (.t 1),.aj 23 (.t 5),.bI 24 3 (.t 22) (.t 23),.ay 25 (.t 24) 0,.load 26 none (.t 25),.bin 27 .neq (.t 21) (.t 26),.aj 28 (.t 27),.grd 28 false (.aj 29 (.t 0)),.grd 28 false (.aj 30 (.t 5)),.grd 28 false (.bI 31 3 (.t 29) (.t 30)),.grd 28 false (.ay 32 (.t 31) 1),.grd 28 false (.load 33 none (.t 32)),.grd 28 false (.aj 34 (.t 1)),.grd 28 false (.aj 35 (.t 5)),.grd 28 false (.bI 36 3 (.t 34) (.t 35)),.grd 28 false (.ay 37 (.t 36) 1),.grd 28 false (.load 38 none (.t 37)),.grd 28 false (.bin 39 .neq (.t 33) (.t 38)),.pick 40 (.t 28) (.c (.bool true)) (.t 39),.aj 41 (.t 40),.grd 41 false (.aj 42 (.t 0)),.grd 41 false (.aj 43 (.t 5)),.grd 41 false (.bI 44 3 (.t 42) (.t 43)),.grd 41 false (.ay 45 (.t 44) 2),.grd 41 false (.load 46 none (.t 45)),.grd 41 false (.aj 47 (.t 1)),.grd 41 false (.aj 48 (.t 5)),.grd 41 false (.bI 49 3 (.t 47) (.t 48)),.grd 41 false (.ay 50 (.t 49) 2),.grd 41 false (.load 51 none (.t 50)),.grd 41 false (.call 52 93 [(.t 46),(.t 51)]),.grd 41 false (.un 53 .not (.t 52)),.pick 54 (.t 41) (.c (.bool true)) (.t 53)]) (.cond (.t 54) (.seq (.ops [.aH 4 (.c (.bool false))]) .ret) .skip))) (.ops [.aj 15 (.t 5),.bin 16 .add (.t 15) (.c (.int .i64 1)),.aH 5 (.t 16)])))
def FH:au :=
(.clean [0,1,5] [4] (.block 0 (.loop [0,1,5] FD)))
def VK:eX:=⟨2,55,[.tmp 4],(.seq (.ops [.aH 4 (.c (.bool false))]) (.seq (.seq (.ops [.aj 6 (.t 0),.len 7 (.t 6),.aj 8 (.t 1),.len 9 (.t 8),.bin 10 .neq (.t 7) (.t 9)]) (.cond (.t 10) (.seq (.ops [.aH 4 (.c (.bool false))]) .ret) .skip)) (.seq (.seq (.ops [.aH 5 (.c (.int .i64 0))])
   FH) (.seq (.ops [.aH 4 (.c (.bool true))]) .ret))))⟩
def VL:eX:=⟨1,6,[.tmp 2],(.seq (.ops [.aH 2 (.c (.int .i64 0))]) (.seq (.ops [.aj 3 (.t 0),.call 4 94 [(.t 3)],.call 5 68 [(.t 4)],.aH 2 (.t 5)]) .ret))⟩
def yS:au:=(.seq (.ops [.bin 18 .lss (.t 17) (.t 16)]) (.seq (.cond (.t 18) .skip (.exit 0)) (.seq (.block 1 (.seq (.ops [.aj 19 (.t 17),.bI 20 1 (.t 15) (.t 17),.load 21 none (.t 20),.aH 7 (.t 19),.aH 8 (.t 21)]) (.seq (.ops [.aj 22 (.t 1),.aj 23 (.t 7),.bI 24 1 (.t 22) (.t 23),.load 25 none (.t 24),.aH 9 (.t 25)]) (.seq (.ops [.aj 26 (.t 2),.aj 27 (.t 8),.aj 28 (.t 9),.jw 29 (.t 26) [(.t 27),(.t 28)],.un 30 .not (.t 29)]) (.cond (.t 30) (.seq (.ops [.aH 6 (.c (.bool false))]) .ret) .skip))))) (.ops [.bin 31 .add (.t 17) (.c (.int .i64 1)),.aj 17 (.t 31)]))))
def FI:au :=
(.clean [0,1,2,15,16,17] [6] (.block 0 (.loop [0,1,2,15,16,17] yS)))
def Ru:eX:=⟨3,32,[.tmp 6],(.seq (.ops [.aH 6 (.c (.bool false))]) (.seq (.seq (.ops [.aj 10 (.t 0),.len 11 (.t 10),.aj 12 (.t 1),.len 13 (.t 12),.bin 14 .neq (.t 11) (.t 13)]) (.cond (.t 14) (.seq (.ops [.aH 6 (.c (.bool false))]) .ret) .skip)) (.seq (.seq (.ops [.aj 15 (.t 0),.len 16 (.t 15),.aj 17 (.c (.int .i64 0))])
   FI) (.seq (.ops [.aH 6 (.c (.bool true))]) .ret))))⟩
def VN:eX:=⟨2,9,[.tmp 4],(.seq (.ops [.aH 4 (.c (.bool false))]) (.seq (.ops [.aj 5 (.t 0),.len 6 (.t 5),.aj 7 (.t 1),.bin 8 .eql (.t 6) (.t 7),.aH 4 (.t 8)]) .ret))⟩
def FK:au:=(.seq (.ops [.bin 21 .lss (.t 20) (.t 19)]) (.seq (.cond (.t 21) .skip (.exit 2)) (.seq (.block 3 (.seq (.ops [.bI 22 2 (.t 18) (.t 20),.load 23 (some 2) (.t 22),.alloc 9 [(.int .i64 0),(.int .i64 0)],.store none 2 (.t 9) (.t 23)]) (.sO [] [([0,1,2,3,4,5,6,7,8,9,10,11,12,13,14,15],16),([17],18)] (some ([],[],19,[])) [20] [.aj 24 (.t 5),.aj 25 (.t 6),.ay 26 (.t 9) 0,.load 27 none (.t 26),.aj 28 (.t 1),.aj 29 (.t 6),.bI 30 1 (.t 28) (.t 29),.load 31 none (.t 30),.ay 32 (.t 9) 0,.load 33 none (.t 32),.ay 34 (.t 9) 0,.load 35 none (.t 34),.ay 36 (.t 9) 1,.load 37 none (.t 36),.bin 38 .add (.t 35) (.t 37),.Kr 39 8 (.t 31) (some (.t 33)) (some (.t 38)),.call 40 86 [(.t 39)],.build 41 [(.int .i64 0),(.int .i64 0),(.list 0 [])] [(0,1,(.t 25)),(1,1,(.t 27)),(2,1,(.t 40))],.gG 42 3 [(.t 41)],.app 43 3 (.t 24) (.t 42),.aH 5 (.t 43)]))) (.ops [.bin 44 .add (.t 20) (.c (.int .i64 1)),.aj 20 (.t 44)]))))
def FM:au :=
(.clean [0,1,5,6,10,11,12,18,19,20,43] [0,1,4,5,10,11,12,43] (.block 2 (.loop [0,1,5,6,10,11,12,18,19,20,43] FK)))
def FN:au:=(.seq (.ops [.bin 13 .lss (.t 12) (.t 11)]) (.seq (.cond (.t 13) .skip (.exit 0)) (.seq (.block 1 (.seq (.ops [.aj 14 (.t 12),.bI 15 2 (.t 10) (.t 12),.load 16 (some 2) (.t 15),.alloc 7 [(.int .i64 0),(.list 1 [])],.aH 6 (.t 14),.store none 2 (.t 7) (.t 16)]) (.seq (.ops [.load 17 (some 2) (.t 7),.call 18 95 [(.t 17)],.len 19 (.t 18),.aj 20 (.c (.int .i64 0))])
    FM))) (.ops [.bin 45 .add (.t 12) (.c (.int .i64 1)),.aj 12 (.t 45)]))))
def FP:au :=
(.clean [0,1,5,10,11,12,43] [4,5] (.block 0 (.loop [0,1,5,10,11,12,43] FN)))
def VO:eX:=⟨2,47,[.tmp 4],(.seq (.ops [.aH 4 (.nil 3)]) (.seq (.ops [.aH 5 (.nil 3)]) (.seq (.seq (.ops [.aj 10 (.t 0),.len 11 (.t 10),.aj 12 (.c (.int .i64 0))])
   FP) (.seq (.ops [.aj 46 (.t 5),.aH 4 (.t 46)]) .ret))))⟩
def VP:eX:=⟨1,6,[.tmp 2],(.seq (.ops [.aH 2 (.c (.int .i64 0))]) (.seq (.ops [.aj 3 (.t 0),.call 4 66 [(.t 3)],.call 5 62 [(.t 4)],.aH 2 (.t 5)]) .ret))⟩
def FQ:au:=(.seq (.seq (.ops [.aj 21 (.t 8),.aj 22 (.t 7),.len 23 (.t 22),.bin 24 .lss (.t 21) (.t 23)]) (.cond (.t 24) .skip (.exit 2))) (.seq (.block 3 (.seq (.ops [.aj 27 (.t 7),.aj 28 (.t 8),.bI 29 2 (.t 27) (.t 28),.load 30 (some 2) (.t 29),.alloc 9 [(.int .i64 0),(.int .i64 0)],.store none 2 (.t 9) (.t 30)]) (.sO [(.t 9)] [([5,6,7,8,9,10,11,12,13,14,15,16,0,1,2,3],4)] (some ([],[],17,[([18],19),([],20)])) [21] [.aj 36 (.t 0),.aj 37 (.t 6),.bI 38 1 (.t 36) (.t 37),.load 39 none (.t 38),.ay 40 (.t 9) 0,.load 41 none (.t 40),.ay 42 (.t 9) 0,.load 43 none (.t 42),.ay 44 (.t 9) 1,.load 45 none (.t 44),.bin 46 .add (.t 43) (.t 45),.Kr 47 8 (.t 39) (some (.t 41)) (some (.t 46)),.aj 31 (.t 5),.aj 32 (.t 6),.ay 33 (.t 9) 0,.J6 34 none (.t 33),.gG 35 8 [],.app 48 8 (.t 35) (.t 47),.build 49 [(.int .i64 0),(.int .i64 0),(.list 0 [])] [(0,1,(.t 32)),(1,1,(.t 34)),(2,1,(.t 48))],.gG 50 3 [(.t 49)],.app 51 3 (.t 31) (.t 50),.aH 5 (.t 51)]))) (.ops [.aj 25 (.t 8),.bin 26 .add (.t 25) (.c (.int .i64 1)),.aH 8 (.t 26)])))
def FT:au :=
(.clean [0,1,5,6,7,8,20,51] [0,1,4,5,6,51] (.block 2 (.loop [0,1,5,6,7,8,20,51] FQ)))
def FU:au:=(.seq (.seq (.ops [.aj 10 (.t 6),.aj 11 (.t 1),.len 12 (.t 11),.bin 13 .lss (.t 10) (.t 12)]) (.cond (.t 13) .skip (.exit 0))) (.seq (.block 1 (.seq (.ops [.aj 16 (.t 1),.aj 17 (.t 6),.bI 18 2 (.t 16) (.t 17),.load 19 (some 2) (.t 18),.call 20 96 [(.t 19)],.aH 7 (.t 20)]) (.seq (.ops [.aH 8 (.c (.int .i64 0))])
   FT))) (.ops [.aj 14 (.t 6),.bin 15 .add (.t 14) (.c (.int .i64 1)),.aH 6 (.t 15)])))
def FV:au :=
(.clean [0,1,5,6,51] [4,5] (.block 0 (.loop [0,1,5,6,51] FU)))
def VQ:eX:=⟨2,53,[.tmp 4],(.seq (.ops [.aH 4 (.nil 3)]) (.seq (.ops [.aH 5 (.nil 3)]) (.seq (.seq (.ops [.aH 6 (.c (.int .i64 0))])
   FV) (.seq (.ops [.aj 52 (.t 5),.aH 4 (.t 52)]) .ret))))⟩
def FW:au:=(.seq (.seq (.ops [.aj 12 (.t 3),.aj 13 (.t 0),.len 14 (.t 13),.bin 15 .lss (.t 12) (.t 14)]) (.cond (.t 15) .skip (.exit 0))) (.seq (.block 1 (.seq (.ops [.aj 18 (.t 0),.aj 19 (.t 3),.bI 20 1 (.t 18) (.t 19),.load 21 none (.t 20),.bin 22 .lss (.t 21) (.c (.int .i64 1)),.aj 23 (.t 22),.grd 23 false (.aj 24 (.t 0)),.grd 23 false (.aj 25 (.t 3)),.grd 23 false (.bI 26 1 (.t 24) (.t 25)),.grd 23 false (.load 27 none (.t 26)),.grd 23 false (.bin 28 .gtr (.t 27) (.c (.int .i64 4096))),.pick 29 (.t 23) (.c (.bool true)) (.t 28)]) (.cond (.t 29) (.seq (.ops [.aH 2 (.c (.int .i64 2))]) .ret) .skip))) (.ops [.aj 16 (.t 3),.bin 17 .add (.t 16) (.c (.int .i64 1)),.aH 3 (.t 17)])))
def FX:au :=
(.clean [0,3] [2] (.block 0 (.loop [0,3] FW)))
def VR:eX:=⟨1,30,[.tmp 2],(.seq (.ops [.aH 2 (.c (.int .i64 0))]) (.seq (.seq (.ops [.aj 4 (.t 0),.len 5 (.t 4),.bin 6 .lss (.t 5) (.c (.int .i64 1)),.aj 7 (.t 6),.grd 7 false (.aj 8 (.t 0)),.grd 7 false (.len 9 (.t 8)),.grd 7 false (.bin 10 .gtr (.t 9) (.c (.int .i64 8))),.pick 11 (.t 7) (.c (.bool true)) (.t 10)]) (.cond (.t 11) (.seq (.ops [.aH 2 (.c (.int .i64 6))]) .ret) .skip)) (.seq (.seq (.ops [.aH 3 (.c (.int .i64 0))])
   FX) (.seq (.ops [.aH 2 (.c (.int .i64 0))]) .ret))))⟩
def Nc:eX:=⟨2,46,[.tmp 4],(.seq (.ops [.box 3 (.t 1),.aH 4 (.c (.int .i64 0))]) (.seq (.seq (.ops [.ay 5 (.t 3) 0,.load 6 none (.t 5),.bin 7 .lss (.t 6) (.c (.int .i64 0)),.aj 8 (.t 7),.grd 8 false (.ay 9 (.t 3) 0),.grd 8 false (.load 10 none (.t 9)),.grd 8 false (.aj 11 (.t 0)),.grd 8 false (.len 12 (.t 11)),.grd 8 false (.bin 13 .geq (.t 10) (.t 12)),.pick 14 (.t 8) (.c (.bool true)) (.t 13)]) (.cond (.t 14) (.seq (.ops [.aH 4 (.c (.int .i64 7))]) .ret) .skip)) (.seq (.seq (.ops [.ay 15 (.t 3) 2,.load 16 none (.t 15),.len 17 (.t 16),.bin 18 .eql (.t 17) (.c (.int .i64 0))]) (.cond (.t 18) (.seq (.ops [.aH 4 (.c (.int .i64 1))]) .ret) .skip)) (.seq (.seq (.sO [] [] none [0,1,2,3,4,5,6,7,8,9,10,11,12,13,14,15,16,17,18,19,20,21,22,23,24,25,26] [.ay 19 (.t 3) 1,.load 20 none (.t 19),.bin 21 .lss (.t 20) (.c (.int .i64 0)),.aj 22 (.t 21),.grd 22 false (.ay 23 (.t 3) 1),.grd 22 false (.load 24 none (.t 23)),.grd 22 false (.aj 25 (.t 0)),.grd 22 false (.ay 26 (.t 3) 0),.grd 22 false (.load 27 none (.t 26)),.grd 22 false (.bI 28 1 (.t 25) (.t 27)),.grd 22 false (.load 29 none (.t 28)),.grd 22 false (.bin 30 .geq (.t 24) (.t 29)),.pick 31 (.t 22) (.c (.bool true)) (.t 30),.aj 32 (.t 31),.grd 32 false (.ay 33 (.t 3) 2),.grd 32 false (.load 34 none (.t 33)),.grd 32 false (.len 35 (.t 34)),.grd 32 false (.aj 36 (.t 0)),.grd 32 false (.ay 37 (.t 3) 0),.grd 32 false (.load 38 none (.t 37)),.grd 32 false (.bI 39 1 (.t 36) (.t 38)),.grd 32 false (.load 40 none (.t 39)),.grd 32 false (.ay 41 (.t 3) 1),.grd 32 false (.load 42 none (.t 41)),.grd 32 false (.bin 43 .sub (.t 40) (.t 42)),.grd 32 false (.bin 44 .gtr (.t 35) (.t 43)),.pick 45 (.t 32) (.c (.bool true)) (.t 44)]) (.cond (.t 45) (.seq (.ops [.aH 4 (.c (.int .i64 2))]) .ret) .skip)) (.seq (.ops [.aH 4 (.c (.int .i64 0))]) .ret)))))⟩
def FY:au:=(.seq (.seq (.ops [.aj 5 (.t 4),.aj 6 (.t 0),.len 7 (.t 6),.bin 8 .lss (.t 5) (.t 7)]) (.cond (.t 8) .skip (.exit 0))) (.seq (.block 1 (.ops [.aj 11 (.t 3),.aj 12 (.t 0),.aj 13 (.t 4),.bI 14 1 (.t 12) (.t 13),.load 15 none (.t 14),.len 16 (.t 15),.gG 17 1 [(.t 16)],.app 18 1 (.t 11) (.t 17),.aH 3 (.t 18)])) (.ops [.aj 9 (.t 4),.bin 10 .add (.t 9) (.c (.int .i64 1)),.aH 4 (.t 10)])))
def FZ:au :=
(.clean [0,3,4,18] [2,3] (.block 0 (.loop [0,3,4,18] FY)))
def VT:eX:=⟨1,20,[.tmp 2],(.seq (.ops [.aH 2 (.nil 1)]) (.seq (.ops [.aH 3 (.nil 1)]) (.seq (.seq (.ops [.aH 4 (.c (.int .i64 0))])
   FZ) (.seq (.ops [.aj 19 (.t 3),.aH 2 (.t 19)]) .ret))))⟩
def VU:eX:=⟨1,13,[.tmp 2],(.seq (.ops [.aH 2 (.c (.int .i64 0))]) (.seq (.seq (.ops [.aj 3 (.t 0),.len 4 (.t 3),.bin 5 .lss (.t 4) (.c (.int .i64 1)),.aj 6 (.t 5),.grd 6 false (.aj 7 (.t 0)),.grd 6 false (.len 8 (.t 7)),.grd 6 false (.bin 9 .gtr (.t 8) (.c (.int .i64 8))),.pick 10 (.t 6) (.c (.bool true)) (.t 9)]) (.cond (.t 10) (.seq (.ops [.aH 2 (.c (.int .i64 6))]) .ret) .skip)) (.seq (.seq (.ops [.aj 11 (.t 0),.call 12 101 [(.t 11),(.c (.func 102 []))]]) (.cond (.t 12) (.seq (.ops [.aH 2 (.c (.int .i64 2))]) .ret) .skip)) (.seq (.ops [.aH 2 (.c (.int .i64 0))]) .ret))))⟩
def F9:au:=(.seq (.ops [.bin 14 .lss (.t 13) (.t 12)]) (.seq (.cond (.t 14) .skip (.exit 0)) (.seq (.block 1 (.seq (.ops [.bI 15 1 (.t 11) (.t 13),.load 16 none (.t 15),.aH 7 (.t 16)]) (.ops [.aj 17 (.t 5),.aj 18 (.t 1),.aj 19 (.t 7),.jw 20 (.t 18) [(.t 19)],.gG 21 1 [(.t 20)],.app 22 1 (.t 17) (.t 21),.aH 5 (.t 22)]))) (.ops [.bin 23 .add (.t 13) (.c (.int .i64 1)),.aj 13 (.t 23)]))))
def Gf:au :=
(.clean [0,1,5,10,11,12,13,22] [4,5] (.block 0 (.loop [0,1,5,10,11,12,13,22] F9)))
def VW:eX:=⟨2,25,[.tmp 4],(.seq (.ops [.aH 4 (.nil 1)]) (.seq (.ops [.aj 8 (.t 0),.len 9 (.t 8),.make 10 (.list 0 []) (.c (.int .i64 0)) (.t 9),.aH 5 (.t 10)]) (.seq (.seq (.ops [.aj 11 (.t 0),.len 12 (.t 11),.aj 13 (.c (.int .i64 0))])
   Gf) (.seq (.ops [.aj 24 (.t 5),.aH 4 (.t 24)]) .ret))))⟩
def VX:eX:=⟨1,5,[.tmp 2],(.seq (.ops [.aH 2 (.nil 8)]) (.seq (.ops [.aj 3 (.t 0),.make 4 (.agg [(.int .u8 0),(.int .u8 0),(.int .u8 0),(.int .u8 0),(.int .u8 0),(.int .u8 0),(.int .u8 0),(.int .u8 0)]) (.t 3) (.t 3),.aH 2 (.t 4)]) .ret))⟩
def yT:au:=(.seq (.seq (.ops [.aj 20 (.t 5),.ay 21 (.t 2) 1,.load 22 none (.t 21),.len 23 (.t 22),.bin 24 .lss (.t 20) (.t 23)]) (.cond (.t 24) .skip (.exit 0))) (.seq (.block 1 (.seq (.sO [] [] none [0,1,2,3,4,5,6,7,8,9,10] [.ay 27 (.t 2) 1,.load 28 none (.t 27),.aj 29 (.t 5),.bI 30 1 (.t 28) (.t 29),.load 31 none (.t 30),.ay 32 (.t 3) 1,.load 33 none (.t 32),.aj 34 (.t 5),.bI 35 1 (.t 33) (.t 34),.load 36 none (.t 35),.bin 37 .neq (.t 31) (.t 36)]) (.cond (.t 37) (.seq (.ops [.aH 4 (.c (.bool false))]) .ret) .skip))) (.ops [.aj 25 (.t 5),.bin 26 .add (.t 25) (.c (.int .i64 1)),.aH 5 (.t 26)])))
def Gg:au :=
(.clean [2,3,5] [4] (.block 0 (.loop [2,3,5] yT)))
def Nh:eX:=⟨2,38,[.tmp 4],(.seq (.ops [.box 2 (.t 0),.box 3 (.t 1),.aH 4 (.c (.bool false))]) (.seq (.seq (.ops [.ay 6 (.t 2) 0,.load 7 none (.t 6),.ay 8 (.t 3) 0,.load 9 none (.t 8),.bin 10 .neq (.t 7) (.t 9),.aj 11 (.t 10),.grd 11 false (.ay 12 (.t 2) 1),.grd 11 false (.load 13 none (.t 12)),.grd 11 false (.len 14 (.t 13)),.grd 11 false (.ay 15 (.t 3) 1),.grd 11 false (.load 16 none (.t 15)),.grd 11 false (.len 17 (.t 16)),.grd 11 false (.bin 18 .neq (.t 14) (.t 17)),.pick 19 (.t 11) (.c (.bool true)) (.t 18)]) (.cond (.t 19) (.seq (.ops [.aH 4 (.c (.bool false))]) .ret) .skip)) (.seq (.seq (.ops [.aH 5 (.c (.int .i64 0))])
   Gg) (.seq (.ops [.aH 4 (.c (.bool true))]) .ret))))⟩
def Rw:eX:=⟨3,15,[.tmp 6],(.seq (.ops [.aH 6 (.c (.bool false))]) (.seq (.ops [.aj 7 (.t 0),.aj 8 (.t 1),.bin 9 .geq (.t 7) (.t 8),.aj 10 (.t 9),.grd 10 true (.aj 11 (.t 0)),.grd 10 true (.aj 12 (.t 2)),.grd 10 true (.bin 13 .leq (.t 11) (.t 12)),.pick 14 (.t 10) (.t 13) (.c (.bool false)),.aH 6 (.t 14)]) .ret))⟩
def Nj:eX:=⟨2,12,[.tmp 4],(.seq (.ops [.aH 4 (.c (.int .i64 0))]) (.seq (.seq (.ops [.aj 5 (.t 0),.len 6 (.t 5),.aj 7 (.t 1),.call 8 72 [(.t 6),(.t 7),(.c (.int .i64 8))],.un 9 .not (.t 8)]) (.cond (.t 9) (.seq (.ops [.aH 4 (.c (.int .i64 6))]) .ret) .skip)) (.seq (.seq (.ops [.aj 10 (.t 0),.call 11 101 [(.t 10),(.c (.func 103 []))]]) (.cond (.t 11) (.seq (.ops [.aH 4 (.c (.int .i64 2))]) .ret) .skip)) (.seq (.ops [.aH 4 (.c (.int .i64 0))]) .ret))))⟩
def Rx:eX:=⟨2,18,[.tmp 4],(.seq (.ops [.aH 4 (.c (.int .i64 0))]) (.seq (.ops [.aj 8 (.t 1),.call 9 38 [(.t 8)],.aj 7 (.t 9),.ext 10 (.t 7) 0,.ext 11 (.t 7) 1,.alloc 5 [(.list 1 [])],.store none 1 (.t 5) (.t 10),.aH 6 (.t 11)]) (.seq (.seq (.ops [.aj 12 (.t 6),.bin 13 .neq (.t 12) (.c (.int .i64 0))]) (.cond (.t 13) (.seq (.ops [.aj 14 (.t 6),.aH 4 (.t 14)]) .ret) .skip)) (.seq (.ops [.aj 15 (.t 0),.Kt 16 105 [(.t 5)],.call 17 104 [(.t 15),(.t 16)],.aH 4 (.t 17)]) .ret))))⟩
def ZR:au:=(.seq (.ops [.bin 12 .lss (.t 11) (.t 10)]) (.seq (.cond (.t 12) .skip (.exit 0)) (.seq (.block 1 (.seq (.ops [.bI 13 5 (.t 9) (.t 11),.load 14 (some 5) (.t 13),.alloc 8 [(.int .i64 0),(.int .i64 0),(.int .i64 0),(.list 1 []),(.list 3 [])],.store none 5 (.t 8) (.t 14)]) (.seq (.ops [.ay 16 (.t 2) 6,.load 17 none (.t 16),.load 18 (some 5) (.t 8),.lin 19 76 (.t 17) [(.t 18)],.aj 15 (.t 19),.ext 20 (.t 15) 0,.ext 21 (.t 15) 1,.ay 22 (.t 2) 6,.store none 1 (.t 22) (.t 20),.aH 6 (.t 21)]) (.seq (.ops [.aj 23 (.t 6),.bin 24 .neq (.t 23) (.c (.int .i64 0))]) (.cond (.t 24) (.seq (.ops [.build 25 [(.int .i64 0),(.list 1 []),(.list 5 []),(.bool false),(.int .i64 0),(.int .i64 0),(.list 2 [])] [],.aj 26 (.t 6),.store none 7 (.t 4) (.t 25),.aH 5 (.t 26)]) .ret) .skip))))) (.ops [.bin 27 .add (.t 11) (.c (.int .i64 1)),.aj 11 (.t 27)]))))
def ZT:au :=
(.clean [1,2,4,9,10,11] [2,4,5] (.block 0 (.loop [1,2,4,9,10,11] ZR)))
def acf:eX:=⟨2,29,[.cell 4 (some 7),.tmp 5],(.seq (.ops [.Po 2 (.t 0),.alloc 4 [(.int .i64 0),(.list 1 []),(.list 5 []),(.bool false),(.int .i64 0),(.int .i64 0),(.list 2 [])],.aH 5 (.c (.int .i64 0))]) (.seq (.ops [.aH 6 (.c (.int .i64 0))]) (.seq (.seq (.ops [.aj 9 (.t 1),.len 10 (.t 9),.aj 11 (.c (.int .i64 0))])
   ZT) (.seq (.ops [.load 28 (some 7) (.t 2),.store none 7 (.t 4) (.t 28),.aH 5 (.c (.int .i64 0))]) .ret))))⟩
def ZU:au:=(.seq (.ops [.bin 22 .lss (.t 21) (.t 20)]) (.seq (.cond (.t 22) .skip (.exit 2)) (.seq (.block 3 (.seq (.ops [.bI 23 2 (.t 19) (.t 21),.load 24 (some 2) (.t 23),.alloc 8 [(.int .i64 0),(.int .i64 0)],.store none 2 (.t 8) (.t 24)]) (.seq (.drs [] [0,3,6,9,10,12,13,19,20,21] [.aj 26 (.t 0),.aj 27 (.t 6),.bI 28 2 (.t 26) (.t 27),.load 29 (some 2) (.t 28),.load 30 (some 2) (.t 8),.call 31 108 [(.t 29),(.t 30)],.aj 25 (.t 31),.ext 32 (.t 25) 0,.ext 33 (.t 25) 1,.alloc 9 [(.int .i64 0),(.list 1 [])],.store none 2 (.t 9) (.t 32),.aH 10 (.t 33)]
    [⟨[([0,1,2,3,4],5),([6,7,8],9)],(some ([],[],10,[])),[11],[0,1,2,3,4,5,6,7,8,9,10,11],false⟩,⟨[([0,1,2,3,4],9),([],5)],(some ([6,7],[8],10,[])),[11],[0,1,2,3,4,9,5,6,7,8,10,11],false⟩]) (.seq (.seq (.ops [.aj 34 (.t 10),.bin 35 .neq (.t 34) (.c (.int .i64 0))]) (.cond (.t 35) (.seq (.ops [.aj 36 (.t 10),.aH 4 (.nil 2),.aH 5 (.t 36)]) .ret) .skip)) (.ops [.aj 37 (.t 0),.aj 38 (.t 6),.load 39 (some 2) (.t 9),.bI 40 2 (.t 37) (.t 38),.store none 2 (.t 40) (.t 39)]))))) (.ops [.bin 41 .add (.t 21) (.c (.int .i64 1)),.aj 21 (.t 41)]))))
def ZV:au :=
(.clean [0,3,6,12,13,19,20,21] [0,3,4,5,12,13] (.block 2 (.loop [0,3,6,12,13,19,20,21] ZU)))
def ZW:au:=(.seq (.ops [.bin 14 .lss (.t 13) (.t 12)]) (.seq (.cond (.t 14) .skip (.exit 0)) (.seq (.block 1 (.seq (.ops [.aj 15 (.t 13),.aH 6 (.t 15)]) (.seq (.ops [.ay 16 (.t 3) 4,.load 17 none (.t 16),.aj 18 (.t 6),.call 19 107 [(.t 17),(.t 18)],.len 20 (.t 19),.aj 21 (.c (.int .i64 0))])
    ZV))) (.ops [.bin 42 .add (.t 13) (.c (.int .i64 1)),.aj 13 (.t 42)]))))
def ZX:au :=
(.clean [0,3,12,13] [0,4,5] (.block 0 (.loop [0,3,12,13] ZW)))
def acg:eX:=⟨2,44,[.tmp 4,.tmp 5],(.seq (.ops [.box 3 (.t 1),.aH 4 (.nil 2),.aH 5 (.c (.int .i64 0))]) (.seq (.seq (.ops [.aj 11 (.t 0),.len 12 (.t 11),.aj 13 (.c (.int .i64 0))])
  ZX) (.seq (.ops [.aj 43 (.t 0),.aH 4 (.t 43),.aH 5 (.c (.int .i64 0))]) .ret)))⟩
def ZY:au:=(.seq (.ops [.bin 30 .lss (.t 29) (.t 28)]) (.seq (.cond (.t 30) .skip (.exit 0)) (.seq (.block 1 (.seq (.ops [.bI 31 1 (.t 27) (.t 29),.load 32 none (.t 31),.aH 8 (.t 32)]) (.seq (.ops [.aj 34 (.t 8),.call 35 78 [(.t 34)],.aj 33 (.t 35),.ext 36 (.t 33) 0,.ext 37 (.t 33) 1,.alloc 9 [(.int .i64 0),(.list 1 [])],.store none 2 (.t 9) (.t 36),.aH 10 (.t 37)]) (.seq (.seq (.ops [.aj 38 (.t 10),.bin 39 .neq (.t 38) (.c (.int .i64 0))]) (.cond (.t 39) (.seq (.ops [.build 40 [(.int .i64 0),(.list 1 []),(.list 5 []),(.bool false),(.int .i64 0),(.int .i64 0),(.list 2 [])] [],.aj 41 (.t 10),.store none 7 (.t 5) (.t 40),.aH 6 (.t 41)]) .ret) .skip)) (.ops [.ay 42 (.t 3) 6,.load 43 none (.t 42),.load 44 (some 2) (.t 9),.gG 45 2 [(.t 44)],.app 46 2 (.t 43) (.t 45),.ay 47 (.t 3) 6,.store none 1 (.t 47) (.t 46)]))))) (.ops [.bin 48 .add (.t 29) (.c (.int .i64 1)),.aj 29 (.t 48)]))))
def Z4:au :=
(.clean [2,3,4,5,27,28,29] [2,3,4,5,6] (.block 0 (.loop [2,3,4,5,27,28,29] ZY)))
def ach:eX:=⟨3,62,[.cell 5 (some 7),.tmp 6],(.seq (.ops [.Po 3 (.t 0),.box 4 (.t 1),.alloc 5 [(.int .i64 0),(.list 1 []),(.list 5 []),(.bool false),(.int .i64 0),(.int .i64 0),(.list 2 [])],.aH 6 (.c (.int .i64 0))]) (.seq (.seq (.ops [.ay 12 (.t 3) 2,.load 13 none (.t 12),.len 14 (.t 13),.ay 15 (.t 3) 0,.load 16 none (.t 15),.bin 17 .lss (.t 14) (.t 16)]) (.cond (.t 17) (.seq (.sO [] [([0,1,2],3),([],4)] (some ([],[],5,[([6],7)])) [] [.ay 18 (.t 3) 2,.load 19 none (.t 18),.load 20 (some 5) (.t 4),.call 21 48 [(.t 20)],.gG 22 5 [(.t 21)],.app 23 5 (.t 19) (.t 22),.ay 24 (.t 3) 2,.store none 1 (.t 24) (.t 23)]) (.seq (.ops [.load 25 (some 7) (.t 3),.store none 7 (.t 5) (.t 25),.aH 6 (.c (.int .i64 0))]) .ret)) .skip)) (.seq (.seq (.ops [.ay 26 (.t 3) 1,.load 27 none (.t 26),.len 28 (.t 27),.aj 29 (.c (.int .i64 0))])
   Z4) (.seq (.ops [.ay 49 (.t 3) 2,.load 50 none (.t 49),.load 51 (some 5) (.t 4),.gG 52 5 [(.t 51)],.app 53 5 (.t 50) (.t 52),.aH 11 (.t 53)]) (.seq (.ops [.ay 54 (.t 3) 2,.store none 1 (.t 54) (.nil 5),.ay 55 (.t 3) 3,.store none 1 (.t 55) (.c (.bool true))]) (.seq (.ops [.load 56 none (.t 2),.SN 57 7 (.t 3),.Td 58 (.t 11),.linv 59 (.t 56) (.t 57) [(.t 58)],.ext 60 (.t 59) 0,.ext 61 (.t 59) 1,.store none 7 (.t 5) (.t 60),.aH 6 (.t 61)]) .ret))))))⟩
def aci:eX:=⟨1,16,[.cell 2 (some 2),.tmp 3],(.seq (.ops [.alloc 2 [(.int .i64 0),(.list 1 [])],.aH 3 (.c (.int .i64 0))]) (.seq (.seq (.ops [.aj 4 (.t 0),.bin 5 .lss (.t 4) (.c (.int .i64 0)),.aj 6 (.t 5),.grd 6 false (.aj 7 (.t 0)),.grd 6 false (.bin 8 .gtr (.t 7) (.c (.int .i64 4096))),.pick 9 (.t 6) (.c (.bool true)) (.t 8)]) (.cond (.t 9) (.seq (.ops [.build 10 [(.int .i64 0),(.list 1 [])] [],.store none 2 (.t 2) (.t 10),.aH 3 (.c (.int .i64 2))]) .ret) .skip)) (.seq (.ops [.aj 11 (.t 0),.aj 12 (.t 0),.call 13 109 [(.t 12)],.make 14 (.int .u64 0) (.t 13) (.t 13),.build 15 [(.int .i64 0),(.list 1 [])] [(0,1,(.t 11)),(1,1,(.t 14))],.store none 2 (.t 2) (.t 15),.aH 3 (.c (.int .i64 0))]) .ret)))⟩
def acj:eX:=⟨3,14,[.cell 5 (some 7),.tmp 6],(.seq (.ops [.Po 3 (.t 0),.box 4 (.t 1),.alloc 5 [(.int .i64 0),(.list 1 []),(.list 5 []),(.bool false),(.int .i64 0),(.int .i64 0),(.list 2 [])],.aH 6 (.c (.int .i64 0))]) (.seq (.ops [.load 7 none (.t 2),.SN 8 7 (.t 3),.load 9 (some 5) (.t 4),.gG 10 5 [(.t 9)],.linv 11 (.t 7) (.t 8) [(.t 10)],.ext 12 (.t 11) 0,.ext 13 (.t 11) 1,.store none 7 (.t 5) (.t 12),.aH 6 (.t 13)]) .ret))⟩
def Z5:eX:=⟨1,8,[.tmp 2],(.seq (.ops [.aH 2 (.nil 1)]) (.seq (.seq (.ops [.aj 3 (.t 0),.Kq 4 false (.t 3)]) (.cond (.t 4) (.seq (.ops [.aH 2 (.nil 1)]) .ret) .skip)) (.seq (.ops [.gG 5 1 [],.aj 6 (.t 0),.app 7 1 (.t 5) (.t 6),.aH 2 (.t 7)]) .ret)))⟩
def vI:au:=(.seq (.seq (.ops [.aj 4 (.t 3),.aj 5 (.t 0),.len 6 (.t 5),.bin 7 .lss (.t 4) (.t 6)]) (.cond (.t 7) .skip (.exit 0))) (.seq (.block 1 (.seq (.ops [.aj 10 (.t 0),.aj 11 (.t 3),.bI 12 1 (.t 10) (.t 11),.load 13 none (.t 12),.bin 14 .lss (.t 13) (.c (.int .i64 0)),.aj 15 (.t 14),.grd 15 false (.aj 16 (.t 0)),.grd 15 false (.aj 17 (.t 3)),.grd 15 false (.bI 18 1 (.t 16) (.t 17)),.grd 15 false (.load 19 none (.t 18)),.grd 15 false (.bin 20 .gtr (.t 19) (.c (.int .i64 1073741824))),.pick 21 (.t 15) (.c (.bool true)) (.t 20)]) (.cond (.t 21) (.seq (.ops [.aH 2 (.c (.int .i64 2))]) .ret) .skip))) (.ops [.aj 8 (.t 3),.bin 9 .add (.t 8) (.c (.int .i64 1)),.aH 3 (.t 9)])))
def Gh:au :=
(.clean [0,3] [2] (.block 0 (.loop [0,3] vI)))
def VY:eX:=⟨1,22,[.tmp 2],(.seq (.ops [.aH 2 (.c (.int .i64 0))]) (.seq (.seq (.ops [.aH 3 (.c (.int .i64 0))])
  Gh) (.seq (.ops [.aH 2 (.c (.int .i64 0))]) .ret)))⟩
def nV:au:=(.seq (.seq (.ops [.aj 14 (.t 6),.aj 15 (.t 0),.len 16 (.t 15),.bin 17 .lss (.t 14) (.t 16)]) (.cond (.t 17) .skip (.exit 0))) (.seq (.block 1 (.seq (.seq (.ops [.aj 20 (.t 1),.aj 21 (.t 0),.aj 22 (.t 6),.bI 23 3 (.t 21) (.t 22),.load 24 (some 3) (.t 23),.call 25 65 [(.t 20),(.t 24)],.aH 7 (.t 25)]) (.seq (.ops [.aj 26 (.t 7),.bin 27 .neq (.t 26) (.c (.int .i64 0))]) (.cond (.t 27) (.seq (.ops [.aj 28 (.t 7),.aH 4 (.t 28)]) .ret) .skip))) (.seq (.seq (.ops [.aj 29 (.t 6),.bin 30 .eql (.t 29) (.c (.int .i64 0))]) (.cond (.t 30) (.exit 1) .skip)) (.seq (.ops [.aj 31 (.t 0),.aj 32 (.t 6),.bin 33 .sub (.t 32) (.c (.int .i64 1)),.bI 34 3 (.t 31) (.t 33),.load 35 (some 3) (.t 34),.alloc 8 [(.int .i64 0),(.int .i64 0),(.list 0 [])],.store none 3 (.t 8) (.t 35)]) (.seq (.sO [] [] none [0,1,2,3,4,5,6,7,8,9,10,11,12,13,14,15,16,17,18,19,20,21,22,23,24,25,26,27,28,29,30,31,32] [.aj 36 (.t 0),.aj 37 (.t 6),.bI 38 3 (.t 36) (.t 37),.ay 39 (.t 38) 0,.load 40 none (.t 39),.ay 41 (.t 8) 0,.load 42 none (.t 41),.bin 43 .lss (.t 40) (.t 42),.aj 44 (.t 43),.grd 44 false (.aj 45 (.t 0)),.grd 44 false (.aj 46 (.t 6)),.grd 44 false (.bI 47 3 (.t 45) (.t 46)),.grd 44 false (.ay 48 (.t 47) 0),.grd 44 false (.load 49 none (.t 48)),.grd 44 false (.ay 50 (.t 8) 0),.grd 44 false (.load 51 none (.t 50)),.grd 44 false (.bin 52 .eql (.t 49) (.t 51)),.grd 44 false (.aj 53 (.t 52)),.grd 53 true (.aj 54 (.t 0)),.grd 53 true (.aj 55 (.t 6)),.grd 53 true (.bI 56 3 (.t 54) (.t 55)),.grd 53 true (.ay 57 (.t 56) 1),.grd 53 true (.load 58 none (.t 57)),.grd 53 true (.ay 59 (.t 8) 1),.grd 53 true (.load 60 none (.t 59)),.grd 53 true (.ay 61 (.t 8) 2),.grd 53 true (.load 62 none (.t 61)),.grd 53 true (.len 63 (.t 62)),.grd 53 true (.bin 64 .add (.t 60) (.t 63)),.grd 53 true (.bin 65 .add (.t 64) (.c (.int .i64 1))),.grd 53 true (.bin 66 .lss (.t 58) (.t 65)),.grd 44 false (.pick 67 (.t 53) (.t 66) (.c (.bool false))),.pick 68 (.t 44) (.c (.bool true)) (.t 67)]) (.cond (.t 68) (.seq (.ops [.aH 4 (.c (.int .i64 3))]) .ret) .skip)))))) (.ops [.aj 18 (.t 6),.bin 19 .add (.t 18) (.c (.int .i64 1)),.aH 6 (.t 19)])))
def Gi:au :=
(.clean [0,1,6] [4] (.block 0 (.loop [0,1,6] nV)))
def Ry:eX:=⟨2,69,[.tmp 4],(.seq (.ops [.aH 4 (.c (.int .i64 0))]) (.seq (.seq (.ops [.aj 9 (.t 1),.call 10 62 [(.t 9)],.aH 5 (.t 10)]) (.seq (.ops [.aj 11 (.t 5),.bin 12 .neq (.t 11) (.c (.int .i64 0))]) (.cond (.t 12) (.seq (.ops [.aj 13 (.t 5),.aH 4 (.t 13)]) .ret) .skip))) (.seq (.seq (.ops [.aH 6 (.c (.int .i64 0))])
   Gi) (.seq (.ops [.aH 4 (.c (.int .i64 0))]) .ret))))⟩
def Z7:eX:=⟨1,8,[.tmp 2],(.seq (.ops [.aH 2 (.nil 8)]) (.seq (.seq (.ops [.aj 3 (.t 0),.Kq 4 false (.t 3)]) (.cond (.t 4) (.seq (.ops [.aH 2 (.nil 8)]) .ret) .skip)) (.seq (.ops [.gG 5 8 [],.aj 6 (.t 0),.app 7 8 (.t 5) (.t 6),.aH 2 (.t 7)]) .ret)))⟩
def vJ:au:=(.seq (.ops [.bin 12 .lss (.t 11) (.t 10)]) (.seq (.cond (.t 12) .skip (.exit 0)) (.seq (.block 1 (.seq (.ops [.bI 13 5 (.t 9) (.t 11),.load 14 (some 5) (.t 13),.alloc 5 [(.int .i64 0),(.int .i64 0),(.int .i64 0),(.list 1 []),(.list 3 [])],.store none 5 (.t 5) (.t 14)]) (.seq (.seq (.ops [.load 15 (some 5) (.t 5),.ay 16 (.t 1) 1,.load 17 none (.t 16),.call 18 42 [(.t 15),(.t 17)],.bin 19 .neq (.t 18) (.c (.int .i64 0)),.aj 20 (.t 19),.grd 20 false (.ay 21 (.t 5) 0),.grd 20 false (.load 22 none (.t 21)),.grd 20 false (.aj 23 (.t 3)),.grd 20 false (.bin 24 .neq (.t 22) (.t 23)),.pick 25 (.t 20) (.c (.bool true)) (.t 24)]) (.cond (.t 25) (.seq (.ops [.aH 2 (.c (.bool false))]) .ret) .skip)) (.ops [.ay 26 (.t 5) 1,.load 27 none (.t 26),.aH 3 (.t 27)])))) (.ops [.bin 28 .add (.t 11) (.c (.int .i64 1)),.aj 11 (.t 28)]))))
def Gj:au :=
(.clean [1,3,9,10,11] [1,2,3] (.block 0 (.loop [1,3,9,10,11] vJ)))
def VZ:eX:=⟨1,47,[.tmp 2],(.seq (.ops [.box 1 (.t 0),.aH 2 (.c (.bool false))]) (.seq (.ops [.ay 6 (.t 1) 4,.load 7 none (.t 6),.aH 3 (.t 7)]) (.seq (.seq (.ops [.ay 8 (.t 1) 2,.load 9 none (.t 8),.len 10 (.t 9),.aj 11 (.c (.int .i64 0))])
   Gj) (.seq (.ops [.ay 29 (.t 1) 6,.load 30 none (.t 29),.len 31 (.t 30),.bin 32 .eql (.t 31) (.c (.int .i64 0)),.aj 33 (.t 32),.grd 33 true (.ay 34 (.t 1) 2),.grd 33 true (.load 35 none (.t 34)),.grd 33 true (.len 36 (.t 35)),.grd 33 true (.ay 37 (.t 1) 0),.grd 33 true (.load 38 none (.t 37)),.grd 33 true (.bin 39 .leq (.t 36) (.t 38)),.pick 40 (.t 33) (.t 39) (.c (.bool false)),.aj 41 (.t 40),.grd 41 true (.aj 42 (.t 3)),.grd 41 true (.ay 43 (.t 1) 5),.grd 41 true (.load 44 none (.t 43)),.grd 41 true (.bin 45 .eql (.t 42) (.t 44)),.pick 46 (.t 41) (.t 45) (.c (.bool false)),.aH 2 (.t 46)]) .ret))))⟩
def Jh:eX:=⟨1,23,[.tmp 2],(.seq (.ops [.box 1 (.t 0),.aH 2 (.c (.bool false))]) (.seq (.ops [.ay 4 (.t 1) 6,.load 5 none (.t 4),.ay 6 (.t 1) 1,.load 7 none (.t 6),.call 8 89 [(.t 5),(.t 7),(.c (.func 90 []))],.aH 3 (.t 8)]) (.seq (.ops [.aj 9 (.t 3),.aj 10 (.t 9),.grd 10 true (.ay 11 (.t 1) 2),.grd 10 true (.load 12 none (.t 11)),.grd 10 true (.len 13 (.t 12)),.grd 10 true (.bin 14 .eql (.t 13) (.c (.int .i64 0))),.pick 15 (.t 10) (.t 14) (.c (.bool false)),.aj 16 (.t 15),.grd 16 true (.ay 17 (.t 1) 4),.grd 16 true (.load 18 none (.t 17)),.grd 16 true (.ay 19 (.t 1) 5),.grd 16 true (.load 20 none (.t 19)),.grd 16 true (.bin 21 .lss (.t 18) (.t 20)),.pick 22 (.t 16) (.t 21) (.c (.bool false)),.aH 2 (.t 22)]) .ret)))⟩
def yU:au:=(.seq (.ops [.bin 18 .lss (.t 17) (.t 16)]) (.seq (.cond (.t 18) .skip (.exit 0)) (.seq (.block 1 (.seq (.ops [.aj 19 (.t 17),.bI 20 2 (.t 15) (.t 17),.load 21 (some 2) (.t 20),.alloc 8 [(.int .i64 0),(.list 1 [])],.aH 7 (.t 19),.store none 2 (.t 8) (.t 21)]) (.seq (.ops [.aj 22 (.t 1),.aj 23 (.t 7),.bI 24 1 (.t 22) (.t 23),.load 25 none (.t 24),.aH 9 (.t 25)]) (.seq (.ops [.aj 26 (.t 2),.load 27 (some 2) (.t 8),.aj 28 (.t 9),.jw 29 (.t 26) [(.t 27),(.t 28)],.un 30 .not (.t 29)]) (.cond (.t 30) (.seq (.ops [.aH 6 (.c (.bool false))]) .ret) .skip))))) (.ops [.bin 31 .add (.t 17) (.c (.int .i64 1)),.aj 17 (.t 31)]))))
def Gl:au :=
(.clean [0,1,2,15,16,17] [6] (.block 0 (.loop [0,1,2,15,16,17] yU)))
def Rz:eX:=⟨3,32,[.tmp 6],(.seq (.ops [.aH 6 (.c (.bool false))]) (.seq (.seq (.ops [.aj 10 (.t 0),.len 11 (.t 10),.aj 12 (.t 1),.len 13 (.t 12),.bin 14 .neq (.t 11) (.t 13)]) (.cond (.t 14) (.seq (.ops [.aH 6 (.c (.bool false))]) .ret) .skip)) (.seq (.seq (.ops [.aj 15 (.t 0),.len 16 (.t 15),.aj 17 (.c (.int .i64 0))])
   Gl) (.seq (.ops [.aH 6 (.c (.bool true))]) .ret))))⟩
def RD:eX:=⟨2,14,[.tmp 4],(.seq (.ops [.box 2 (.t 0),.aH 4 (.c (.bool false))]) (.seq (.ops [.load 5 (some 2) (.t 2),.call 6 91 [(.t 5)],.bin 7 .eql (.t 6) (.c (.int .i64 0)),.aj 8 (.t 7),.grd 8 true (.ay 9 (.t 2) 0),.grd 8 true (.load 10 none (.t 9)),.grd 8 true (.aj 11 (.t 1)),.grd 8 true (.bin 12 .eql (.t 10) (.t 11)),.pick 13 (.t 8) (.t 12) (.c (.bool false)),.aH 4 (.t 13)]) .ret))⟩
def BL:eX:=⟨1,39,[.tmp 2],(.seq (.ops [.box 1 (.t 0),.aH 2 (.c (.int .i64 0))]) (.seq (.seq (.sO [] [([0,1,2,3,4,5,6,7,8,9,10,11,12,13],14)] none [15,16] [.ay 4 (.t 1) 0,.load 5 none (.t 4),.bin 6 .lss (.t 5) (.c (.int .i64 0)),.aj 7 (.t 6),.grd 7 false (.ay 8 (.t 1) 0),.grd 7 false (.load 9 none (.t 8)),.grd 7 false (.bin 10 .gtr (.t 9) (.c (.int .i64 4096))),.pick 11 (.t 7) (.c (.bool true)) (.t 10),.aj 12 (.t 11),.grd 12 false (.ay 13 (.t 1) 1),.grd 12 false (.load 14 none (.t 13)),.grd 12 false (.len 15 (.t 14)),.grd 12 false (.ay 16 (.t 1) 0),.grd 12 false (.load 17 none (.t 16)),.grd 12 false (.call 18 109 [(.t 17)]),.grd 12 false (.bin 19 .neq (.t 15) (.t 18)),.pick 20 (.t 12) (.c (.bool true)) (.t 19)]) (.cond (.t 20) (.seq (.ops [.aH 2 (.c (.int .i64 3))]) .ret) .skip)) (.seq (.seq (.ops [.ay 21 (.t 1) 0,.load 22 none (.t 21),.bin 23 .rem (.t 22) (.c (.int .i64 64)),.aH 3 (.t 23)]) (.seq (.ops [.aj 24 (.t 3),.bin 25 .gtr (.t 24) (.c (.int .i64 0)),.aj 26 (.t 25),.grd 26 true (.ay 27 (.t 1) 1),.grd 26 true (.load 28 none (.t 27)),.grd 26 true (.ay 29 (.t 1) 1),.grd 26 true (.load 30 none (.t 29)),.grd 26 true (.len 31 (.t 30)),.grd 26 true (.bin 32 .sub (.t 31) (.c (.int .i64 1))),.grd 26 true (.bI 33 1 (.t 28) (.t 32)),.grd 26 true (.load 34 none (.t 33)),.grd 26 true (.aj 35 (.t 3)),.grd 26 true (.bin 36 .shr (.t 34) (.t 35)),.grd 26 true (.bin 37 .neq (.t 36) (.c (.int .u64 0))),.pick 38 (.t 26) (.t 37) (.c (.bool false))]) (.cond (.t 38) (.seq (.ops [.aH 2 (.c (.int .i64 3))]) .ret) .skip))) (.seq (.ops [.aH 2 (.c (.int .i64 0))]) .ret))))⟩
def yV:au:=(.seq (.seq (.ops [.aj 24 (.t 3),.ay 25 (.t 1) 1,.load 26 none (.t 25),.len 27 (.t 26),.bin 28 .mul (.c (.int .i64 64)) (.t 27),.bin 29 .lss (.t 24) (.t 28)]) (.cond (.t 29) .skip (.exit 0))) (.seq (.block 1 (.seq (.ops [.load 32 (some 2) (.t 1),.aj 33 (.t 3),.call 34 111 [(.t 32),(.t 33)]]) (.cond (.t 34) (.seq (.ops [.aH 2 (.c (.int .i64 3))]) .ret) .skip))) (.ops [.aj 30 (.t 3),.bin 31 .add (.t 30) (.c (.int .i64 1)),.aH 3 (.t 31)])))
def Gm:au :=
(.clean [1,3] [2] (.block 0 (.loop [1,3] yV)))
def Ji:eX:=⟨1,35,[.tmp 2],(.seq (.ops [.box 1 (.t 0),.aH 2 (.c (.int .i64 0))]) (.seq (.seq (.ops [.ay 4 (.t 1) 0,.load 5 none (.t 4),.bin 6 .lss (.t 5) (.c (.int .i64 0)),.aj 7 (.t 6),.grd 7 false (.ay 8 (.t 1) 0),.grd 7 false (.load 9 none (.t 8)),.grd 7 false (.bin 10 .gtr (.t 9) (.c (.int .i64 4096))),.pick 11 (.t 7) (.c (.bool true)) (.t 10),.aj 12 (.t 11),.grd 12 false (.ay 13 (.t 1) 1),.grd 12 false (.load 14 none (.t 13)),.grd 12 false (.len 15 (.t 14)),.grd 12 false (.ay 16 (.t 1) 0),.grd 12 false (.load 17 none (.t 16)),.grd 12 false (.bin 18 .add (.t 17) (.c (.int .i64 63))),.grd 12 false (.bin 19 .quo (.t 18) (.c (.int .i64 64))),.grd 12 false (.bin 20 .neq (.t 15) (.t 19)),.pick 21 (.t 12) (.c (.bool true)) (.t 20)]) (.cond (.t 21) (.seq (.ops [.aH 2 (.c (.int .i64 3))]) .ret) .skip)) (.seq (.seq (.ops [.ay 22 (.t 1) 0,.load 23 none (.t 22),.aH 3 (.t 23)])
   Gm) (.seq (.ops [.aH 2 (.c (.int .i64 0))]) .ret))))⟩
def yX:au:=(.seq (.seq (.ops [.aj 11 (.t 5),.aj 12 (.t 0),.len 13 (.t 12),.bin 14 .lss (.t 11) (.t 13)]) (.cond (.t 14) .skip (.exit 0))) (.seq (.block 1 (.seq (.sO [] [] none [0,1,2,3,4,5,6,7,8] [.aj 17 (.t 0),.aj 18 (.t 5),.bI 19 8 (.t 17) (.t 18),.load 20 (some 8) (.t 19),.aj 21 (.t 1),.aj 22 (.t 5),.bI 23 8 (.t 21) (.t 22),.load 24 (some 8) (.t 23),.Pj 25 true 8 (.t 20) (.t 24)]) (.cond (.t 25) (.seq (.ops [.aH 4 (.c (.bool false))]) .ret) .skip))) (.ops [.aj 15 (.t 5),.bin 16 .add (.t 15) (.c (.int .i64 1)),.aH 5 (.t 16)])))
def Gn:au :=
(.clean [0,1,5] [4] (.block 0 (.loop [0,1,5] yX)))
def V3:eX:=⟨2,26,[.tmp 4],(.seq (.ops [.aH 4 (.c (.bool false))]) (.seq (.seq (.ops [.aj 6 (.t 0),.len 7 (.t 6),.aj 8 (.t 1),.len 9 (.t 8),.bin 10 .neq (.t 7) (.t 9)]) (.cond (.t 10) (.seq (.ops [.aH 4 (.c (.bool false))]) .ret) .skip)) (.seq (.seq (.ops [.aH 5 (.c (.int .i64 0))])
   Gn) (.seq (.ops [.aH 4 (.c (.bool true))]) .ret))))⟩
def V4:eX:=⟨1,5,[.tmp 2],(.seq (.ops [.aH 2 (.nil 1)]) (.seq (.ops [.aj 3 (.t 0),.call 4 112 [(.t 3),(.c (.func 113 []))],.aH 2 (.t 4)]) .ret))⟩
def yY:au:=(.ops [.aH 4 (.t 8)])
def yZ:au:=(.block 1 (.seq (.seq (.ops [.load 9 none (.t 3),.len 10 (.t 9),.aH 5 (.t 10)]) (.seq (.sO [] [] none [0,1,2,3,4,5,6,7,8,9,10,11,12,13,14,15,16,17,18] [.aj 11 (.t 5),.bin 12 .gtr (.t 11) (.c (.int .i64 0)),.aj 13 (.t 12),.grd 13 true (.load 14 none (.t 3)),.grd 13 true (.aj 15 (.t 5)),.grd 13 true (.bin 16 .sub (.t 15) (.c (.int .i64 1))),.grd 13 true (.bI 17 2 (.t 14) (.t 16)),.grd 13 true (.ay 18 (.t 17) 0),.grd 13 true (.load 19 none (.t 18)),.grd 13 true (.load 20 none (.t 3)),.grd 13 true (.aj 21 (.t 5)),.grd 13 true (.bin 22 .sub (.t 21) (.c (.int .i64 1))),.grd 13 true (.bI 23 2 (.t 20) (.t 22)),.grd 13 true (.ay 24 (.t 23) 1),.grd 13 true (.load 25 none (.t 24)),.grd 13 true (.bin 26 .add (.t 19) (.t 25)),.grd 13 true (.aj 27 (.t 4)),.grd 13 true (.bin 28 .eql (.t 26) (.t 27)),.pick 29 (.t 13) (.t 28) (.c (.bool false))]) (.cond (.t 29) (.seq (.ops [.load 30 none (.t 3),.aj 31 (.t 5),.bin 32 .sub (.t 31) (.c (.int .i64 1)),.bI 33 2 (.t 30) (.t 32),.ay 34 (.t 33) 1,.load 35 none (.t 34),.bin 36 .add (.t 35) (.c (.int .i64 1)),.bI 37 2 (.t 30) (.t 32),.ay 38 (.t 37) 1,.store none 1 (.t 38) (.t 36)]) (.exit 1)) .skip))) (.ops [.load 39 none (.t 3),.aj 40 (.t 4),.build 41 [(.int .i64 0),(.int .i64 0)] [(0,1,(.t 40)),(1,1,(.c (.int .i64 1)))],.gG 42 2 [(.t 41)],.app 43 2 (.t 39) (.t 42),.store none 1 (.t 3) (.t 43)])))
def V5:eX:=⟨1,45,[.tmp 2],(.seq (.ops [.box 1 (.t 0),.aH 2 (.nil 2)]) (.seq (.ops [.alloc 3 [(.list 2 [])]]) (.seq (.seq (.ops [.load 6 (some 2) (.t 1),.call 7 114 [(.t 6),(.c (.int .i64 0))]]) (.block 0 (.rng (.t 7) [8] yY yZ))) (.seq (.ops [.load 44 none (.t 3),.aH 2 (.t 44)]) .ret))))⟩
def vK:au:=(.seq (.seq (.ops [.aj 9 (.t 4),.ay 10 (.t 1) 0,.load 11 none (.t 10),.bin 12 .lss (.t 9) (.t 11)]) (.cond (.t 12) .skip (.exit 0))) (.seq (.block 1 (.seq (.seq (.ops [.load 15 (some 2) (.t 1),.aj 16 (.t 4),.call 17 111 [(.t 15),(.t 16)],.un 18 .not (.t 17)]) (.cond (.t 18) (.exit 1) .skip)) (.seq (.ops [.aj 19 (.t 3),.len 20 (.t 19),.aH 5 (.t 20)]) (.seq (.sO [] [] none [0,1,2,3,4,5,6,7,8,9,10,11,12,13,14,15,16,17,18] [.aj 21 (.t 5),.bin 22 .gtr (.t 21) (.c (.int .i64 0)),.aj 23 (.t 22),.grd 23 true (.aj 24 (.t 3)),.grd 23 true (.aj 25 (.t 5)),.grd 23 true (.bin 26 .sub (.t 25) (.c (.int .i64 1))),.grd 23 true (.bI 27 2 (.t 24) (.t 26)),.grd 23 true (.ay 28 (.t 27) 0),.grd 23 true (.load 29 none (.t 28)),.grd 23 true (.aj 30 (.t 3)),.grd 23 true (.aj 31 (.t 5)),.grd 23 true (.bin 32 .sub (.t 31) (.c (.int .i64 1))),.grd 23 true (.bI 33 2 (.t 30) (.t 32)),.grd 23 true (.ay 34 (.t 33) 1),.grd 23 true (.load 35 none (.t 34)),.grd 23 true (.bin 36 .add (.t 29) (.t 35)),.grd 23 true (.aj 37 (.t 4)),.grd 23 true (.bin 38 .eql (.t 36) (.t 37)),.pick 39 (.t 23) (.t 38) (.c (.bool false))]) (.cond (.t 39) (.ops [.aj 40 (.t 3),.aj 41 (.t 5),.bin 42 .sub (.t 41) (.c (.int .i64 1)),.bI 43 2 (.t 40) (.t 42),.ay 44 (.t 43) 1,.load 45 none (.t 44),.bin 46 .add (.t 45) (.c (.int .i64 1)),.bI 47 2 (.t 40) (.t 42),.ay 48 (.t 47) 1,.store none 1 (.t 48) (.t 46)]) (.ops [.aj 49 (.t 3),.aj 50 (.t 4),.build 51 [(.int .i64 0),(.int .i64 0)] [(0,1,(.t 50)),(1,1,(.c (.int .i64 1)))],.gG 52 2 [(.t 51)],.app 53 2 (.t 49) (.t 52),.aH 3 (.t 53)])))))) (.ops [.aj 13 (.t 4),.bin 14 .add (.t 13) (.c (.int .i64 1)),.aH 4 (.t 14)])))
def Gp:au :=
(.clean [1,3,4,53] [2,3] (.block 0 (.loop [1,3,4,53] vK)))
def RF:eX:=⟨1,55,[.tmp 2],(.seq (.ops [.box 1 (.t 0),.aH 2 (.nil 2)]) (.seq (.ops [.aH 3 (.nil 2)]) (.seq (.seq (.ops [.load 6 (some 2) (.t 1),.call 7 92 [(.t 6)],.bin 8 .neq (.t 7) (.c (.int .i64 0))]) (.cond (.t 8) (.seq (.ops [.aH 2 (.nil 2)]) .ret) .skip)) (.seq (.seq (.ops [.aH 4 (.c (.int .i64 0))])
   Gp) (.seq (.ops [.aj 54 (.t 3),.aH 2 (.t 54)]) .ret)))))⟩
def Jj:eX:=⟨2,9,[.tmp 4],(.seq (.ops [.aH 4 (.c (.bool false))]) (.seq (.ops [.aj 5 (.t 0),.aj 6 (.t 1),.call 7 119 [(.t 5),(.t 6)],.bin 8 .geq (.t 7) (.c (.int .i64 0)),.aH 4 (.t 8)]) .ret))⟩
def Jk:eX:=⟨1,9,[.tmp 2],(.seq (.ops [.aH 2 (.c (.bool false))]) (.seq (.ops [.aj 3 (.t 0),.bin 4 .lss (.t 3) (.c (.int .i64 1)),.aj 5 (.t 4),.grd 5 false (.aj 6 (.t 0)),.grd 5 false (.bin 7 .gtr (.t 6) (.c (.int .i64 4096))),.pick 8 (.t 5) (.c (.bool true)) (.t 7),.aH 2 (.t 8)]) .ret))⟩
def Jl:eX:=⟨1,6,[.tmp 2],(.seq (.ops [.aH 2 (.c (.bool false))]) (.seq (.ops [.aj 3 (.t 0),.call 4 72 [(.t 3),(.c (.int .i64 0)),(.c (.int .i64 1073741824))],.un 5 .not (.t 4),.aH 2 (.t 5)]) .ret))⟩
def lJ:au:=(.seq (.ops [.bin 12 .lss (.t 11) (.t 10)]) (.seq (.cond (.t 12) .skip (.exit 0)) (.seq (.block 1 (.seq (.ops [.aj 13 (.t 11),.bI 14 3 (.t 9) (.t 11),.load 15 (some 3) (.t 14),.alloc 6 [(.int .i64 0),(.int .i64 0),(.list 0 [])],.aH 5 (.t 13),.store none 3 (.t 6) (.t 15)]) (.seq (.seq (.ops [.aj 16 (.t 1),.load 17 (some 3) (.t 6),.jw 18 (.t 16) [(.t 17)],.aH 7 (.t 18)]) (.seq (.ops [.aj 19 (.t 7),.bin 20 .neq (.t 19) (.c (.int .i64 0))]) (.cond (.t 20) (.seq (.ops [.aj 21 (.t 7),.aH 4 (.t 21)]) .ret) .skip))) (.seq (.seq (.ops [.aj 22 (.t 5),.bin 23 .eql (.t 22) (.c (.int .i64 0))]) (.cond (.t 23) (.exit 1) .skip)) (.seq (.ops [.aj 24 (.t 0),.aj 25 (.t 5),.bin 26 .sub (.t 25) (.c (.int .i64 1)),.bI 27 3 (.t 24) (.t 26),.load 28 (some 3) (.t 27),.alloc 8 [(.int .i64 0),(.int .i64 0),(.list 0 [])],.store none 3 (.t 8) (.t 28)]) (.seq (.ops [.ay 29 (.t 6) 0,.load 30 none (.t 29),.ay 31 (.t 8) 0,.load 32 none (.t 31),.bin 33 .lss (.t 30) (.t 32),.aj 34 (.t 33),.grd 34 false (.ay 35 (.t 6) 0),.grd 34 false (.load 36 none (.t 35)),.grd 34 false (.ay 37 (.t 8) 0),.grd 34 false (.load 38 none (.t 37)),.grd 34 false (.bin 39 .eql (.t 36) (.t 38)),.grd 34 false (.aj 40 (.t 39)),.grd 40 true (.ay 41 (.t 6) 1),.grd 40 true (.load 42 none (.t 41)),.grd 40 true (.ay 43 (.t 8) 1),.grd 40 true (.load 44 none (.t 43)),.grd 40 true (.ay 45 (.t 8) 2),.grd 40 true (.load 46 none (.t 45)),.grd 40 true (.len 47 (.t 46)),.grd 40 true (.bin 48 .add (.t 44) (.t 47)),.grd 40 true (.bin 49 .leq (.t 42) (.t 48)),.grd 34 false (.pick 50 (.t 40) (.t 49) (.c (.bool false))),.pick 51 (.t 34) (.c (.bool true)) (.t 50)]) (.cond (.t 51) (.seq (.ops [.aH 4 (.c (.int .i64 3))]) .ret) .skip))))))) (.ops [.bin 52 .add (.t 11) (.c (.int .i64 1)),.aj 11 (.t 52)]))))
def zZ:au :=
(.clean [0,1,9,10,11] [4] (.block 0 (.loop [0,1,9,10,11] lJ)))
def Jm:eX:=⟨2,53,[.tmp 4],(.seq (.ops [.aH 4 (.c (.int .i64 0))]) (.seq (.seq (.ops [.aj 9 (.t 0),.len 10 (.t 9),.aj 11 (.c (.int .i64 0))])
  zZ) (.seq (.ops [.aH 4 (.c (.int .i64 0))]) .ret)))⟩
def Jo:eX:=⟨2,7,[.tmp 3],(.seq (.ops [.box 2 (.t 0),.aH 3 (.c (.int .i64 0))]) (.seq (.ops [.load 4 none (.t 1),.load 5 (some 3) (.t 2),.call 6 106 [(.t 4),(.t 5)],.aH 3 (.t 6)]) .ret))⟩
def Jp:eX:=⟨2,14,[.tmp 4],(.seq (.ops [.box 3 (.t 1),.aH 4 (.c (.int .i64 0))]) (.seq (.seq (.ops [.aj 6 (.t 0),.call 7 53 [(.t 6)],.aH 5 (.t 7)]) (.seq (.ops [.aj 8 (.t 5),.bin 9 .neq (.t 8) (.c (.int .i64 0))]) (.cond (.t 9) (.seq (.ops [.aj 10 (.t 5),.aH 4 (.t 10)]) .ret) .skip))) (.seq (.ops [.aj 11 (.t 0),.load 12 (some 3) (.t 3),.call 13 118 [(.t 11),(.t 12)],.aH 4 (.t 13)]) .ret)))⟩
def V6:au:=(.seq (.ops [.bin 11 .lss (.t 10) (.t 9)]) (.seq (.cond (.t 11) .skip (.exit 0)) (.seq (.block 1 (.seq (.ops [.bI 12 3 (.t 8) (.t 10),.load 13 (some 3) (.t 12),.alloc 7 [(.int .i64 0),(.int .i64 0),(.list 0 [])],.store none 3 (.t 7) (.t 13)]) (.seq (.ops [.ay 14 (.t 7) 0,.load 15 none (.t 14),.aj 16 (.t 1),.bin 17 .eql (.t 15) (.t 16)]) (.cond (.t 17) (.ops [.aj 18 (.t 5),.ay 19 (.t 7) 1,.load 20 none (.t 19),.ay 21 (.t 7) 2,.load 22 none (.t 21),.len 23 (.t 22),.build 24 [(.int .i64 0),(.int .i64 0)] [(0,1,(.t 20)),(1,1,(.t 23))],.gG 25 2 [(.t 24)],.app 26 2 (.t 18) (.t 25),.aH 5 (.t 26)]) .skip)))) (.ops [.bin 27 .add (.t 10) (.c (.int .i64 1)),.aj 10 (.t 27)]))))
def V7:au :=
(.clean [0,1,5,8,9,10,26] [4,5] (.block 0 (.loop [0,1,5,8,9,10,26] V6)))
def V8:eX:=⟨2,30,[.tmp 4],(.seq (.ops [.aH 4 (.nil 2)]) (.seq (.ops [.aH 5 (.nil 2)]) (.seq (.seq (.ops [.aj 8 (.t 0),.len 9 (.t 8),.aj 10 (.c (.int .i64 0))])
   V7) (.seq (.ops [.aj 28 (.t 5),.call 29 120 [(.t 28),(.nil 2)],.aH 4 (.t 29)]) .ret))))⟩
def V9:eX:=⟨2,12,[.cell 4 (some 2),.tmp 5],(.seq (.ops [.box 2 (.t 0),.box 3 (.t 1),.alloc 4 [(.int .i64 0),(.list 1 [])],.aH 5 (.c (.int .i64 0))]) (.seq (.ops [.build 6 [.kQ] [(0,1,(.c (.func 121 [])))],.load 7 (some 2) (.t 2),.load 8 (some 2) (.t 3),.call 9 122 [(.t 6),(.t 7),(.t 8)],.ext 10 (.t 9) 0,.ext 11 (.t 9) 1,.store none 2 (.t 4) (.t 10),.aH 5 (.t 11)]) .ret))⟩
def Jq:eX:=⟨1,7,[.tmp 2],(.seq (.ops [.aH 2 (.c (.int .i64 0))]) (.seq (.ops [.aj 3 (.t 0),.bin 4 .add (.t 3) (.c (.int .i64 64)),.bin 5 .sub (.t 4) (.c (.int .i64 1)),.bin 6 .quo (.t 5) (.c (.int .i64 64)),.aH 2 (.t 6)]) .ret))⟩
def Jr:eX:=⟨2,17,[.tmp 4],(.seq (.ops [.box 2 (.t 0),.aH 4 (.c (.bool false))]) (.seq (.ops [.ay 5 (.t 2) 1,.load 6 none (.t 5),.aj 7 (.t 1),.bin 8 .quo (.t 7) (.c (.int .i64 64)),.bI 9 1 (.t 6) (.t 8),.load 10 none (.t 9),.aj 11 (.t 1),.bin 12 .rem (.t 11) (.c (.int .i64 64)),.conv 13 .u64 (.t 12),.bin 14 .shr (.t 10) (.t 13),.bin 15 .and (.t 14) (.c (.int .u64 1)),.bin 16 .eql (.t 15) (.c (.int .u64 1)),.aH 4 (.t 16)]) .ret))⟩
def Aa:au:=(.seq (.ops [.bin 14 .lss (.t 13) (.t 12)]) (.seq (.cond (.t 14) .skip (.exit 0)) (.seq (.block 1 (.seq (.ops [.bI 15 1 (.t 11) (.t 13),.load 16 none (.t 15),.aH 7 (.t 16)]) (.ops [.aj 17 (.t 5),.aj 18 (.t 1),.aj 19 (.t 7),.jw 20 (.t 18) [(.t 19)],.gG 21 1 [(.t 20)],.app 22 1 (.t 17) (.t 21),.aH 5 (.t 22)]))) (.ops [.bin 23 .add (.t 13) (.c (.int .i64 1)),.aj 13 (.t 23)]))))
def Ac:au :=
(.clean [0,1,5,10,11,12,13,22] [4,5] (.block 0 (.loop [0,1,5,10,11,12,13,22] Aa)))
def Js:eX:=⟨2,25,[.tmp 4],(.seq (.ops [.aH 4 (.nil 1)]) (.seq (.ops [.aj 8 (.t 0),.len 9 (.t 8),.make 10 (.int .i64 0) (.c (.int .i64 0)) (.t 9),.aH 5 (.t 10)]) (.seq (.seq (.ops [.aj 11 (.t 0),.len 12 (.t 11),.aj 13 (.c (.int .i64 0))])
   Ac) (.seq (.ops [.aj 24 (.t 5),.aH 4 (.t 24)]) .ret))))⟩
def Jt:eX:=⟨1,5,[.tmp 2],(.seq (.ops [.aH 2 (.c (.int .i64 0))]) (.seq (.ops [.aj 3 (.t 0),.len 4 (.t 3),.aH 2 (.t 4)]) .ret))⟩
def Ju:eX:=⟨2,6,[.tmp 4],(.seq (.ops [.box 2 (.t 0),.box 3 (.t 1),.aH 4 (.c .kQ)]) (.seq (.ops [.Kt 5 124 [(.t 2),(.t 3)],.aH 4 (.t 5)]) .ret))⟩
def Dq:eX:=⟨2,40,[.tmp 4],(.seq (.ops [.box 3 (.t 1),.aH 4 (.c (.int .i64 0))]) (.seq (.block 0 (.seq (.ops [.ay 6 (.t 3) 0,.load 7 none (.t 6),.bin 8 .lss (.t 7) (.c (.int .i64 0)),.aj 9 (.t 8),.grd 9 false (.ay 10 (.t 3) 0),.grd 9 false (.load 11 none (.t 10)),.grd 9 false (.aj 12 (.t 0)),.grd 9 false (.len 13 (.t 12)),.grd 9 false (.bin 14 .geq (.t 11) (.t 13)),.pick 15 (.t 9) (.c (.bool true)) (.t 14),.aH 5 (.t 15)]) (.cond (.t 5) (.seq (.ops [.aH 4 (.c (.int .i64 7))]) .ret) (.seq (.ops [.ay 17 (.t 3) 2,.load 18 none (.t 17),.len 19 (.t 18),.bin 20 .eql (.t 19) (.c (.int .i64 0)),.aH 16 (.t 20)]) (.cond (.t 16) (.seq (.ops [.aH 4 (.c (.int .i64 1))]) .ret) (.seq (.sO [] [] none [0,1,2,3,4,5,6,7,8,9,10,11,12,13,14,15,16,17,18] [.ay 22 (.t 3) 1,.load 23 none (.t 22),.bin 24 .lss (.t 23) (.c (.int .i64 0)),.aj 25 (.t 24),.grd 25 false (.ay 26 (.t 3) 1),.grd 25 false (.load 27 none (.t 26)),.grd 25 false (.aj 28 (.t 0)),.grd 25 false (.ay 29 (.t 3) 0),.grd 25 false (.load 30 none (.t 29)),.grd 25 false (.bI 31 1 (.t 28) (.t 30)),.grd 25 false (.load 32 none (.t 31)),.grd 25 false (.len 33 (.t 32)),.grd 25 false (.ay 34 (.t 3) 2),.grd 25 false (.load 35 none (.t 34)),.grd 25 false (.len 36 (.t 35)),.grd 25 false (.bin 37 .sub (.t 33) (.t 36)),.grd 25 false (.bin 38 .gtr (.t 27) (.t 37)),.pick 39 (.t 25) (.c (.bool true)) (.t 38),.aH 21 (.t 39)]) (.cond (.t 21) (.seq (.ops [.aH 4 (.c (.int .i64 2))]) .ret) .skip))))))) (.seq (.ops [.aH 4 (.c (.int .i64 0))]) .ret)))⟩
def Ad:au:=(.seq (.ops [.bin 9 .lss (.t 8) (.t 7)]) (.seq (.cond (.t 9) .skip (.exit 0)) (.seq (.block 1 (.seq (.ops [.aj 10 (.t 8),.aH 5 (.t 10)]) (.seq (.ops [.aj 11 (.t 1),.aj 12 (.t 0),.aj 13 (.t 5),.bI 14 1 (.t 12) (.t 13),.load 15 none (.t 14),.jw 16 (.t 11) [(.t 15)]]) (.cond (.t 16) (.seq (.ops [.aj 17 (.t 5),.aH 4 (.t 17)]) .ret) .skip)))) (.ops [.bin 18 .add (.t 8) (.c (.int .i64 1)),.aj 8 (.t 18)]))))
def Ae:au :=
(.clean [0,1,7,8] [4] (.block 0 (.loop [0,1,7,8] Ad)))
def Jv:eX:=⟨2,19,[.tmp 4],(.seq (.ops [.aH 4 (.c (.int .i64 0))]) (.seq (.seq (.ops [.aj 6 (.t 0),.len 7 (.t 6),.aj 8 (.c (.int .i64 0))])
  Ae) (.seq (.ops [.aH 4 (.c (.int .i64 (-1)))]) .ret)))⟩
def Wh:eX:=⟨2,9,[.tmp 4],(.seq (.ops [.aH 4 (.nil 2)]) (.seq (.ops [.aj 5 (.t 0),.aj 6 (.t 1),.call 7 129 [(.t 5),(.t 6),(.c (.func 130 []))],.call 8 128 [(.t 7)],.aH 4 (.t 8)]) .ret))⟩
def Wi:eX:=⟨2,8,[.tmp 4],(.seq (.ops [.aH 4 (.c (.int .u64 0))]) (.seq (.ops [.aj 5 (.t 0),.aj 6 (.t 1),.bin 7 .or (.t 5) (.t 6),.aH 4 (.t 7)]) .ret))⟩
def Wj:au:=(.seq (.ops [.bin 29 .lss (.t 28) (.t 27)]) (.seq (.cond (.t 29) .skip (.exit 0)) (.seq (.block 1 (.seq (.ops [.aj 30 (.t 28),.aH 10 (.t 30)]) (.sO [] [([0,1,2,3,4,5,6,7,8,9,10,11,12,13,14,15],16),([],17)] (some ([18],[],19,[])) [] [.aj 31 (.t 9),.aj 32 (.t 10),.ay 33 (.t 3) 0,.load 34 none (.t 33),.aj 35 (.t 9),.aj 36 (.t 10),.bI 37 1 (.t 35) (.t 36),.load 38 none (.t 37),.aj 39 (.t 10),.ay 40 (.t 5) 0,.load 41 none (.t 40),.ay 42 (.t 5) 0,.load 43 none (.t 42),.ay 44 (.t 5) 1,.load 45 none (.t 44),.bin 46 .add (.t 43) (.t 45),.call 47 125 [(.t 39),(.t 41),(.t 46)],.jw 48 (.t 34) [(.t 38),(.t 47)],.bI 49 1 (.t 31) (.t 32),.store none 1 (.t 49) (.t 48)]))) (.ops [.bin 50 .add (.t 28) (.c (.int .i64 1)),.aj 28 (.t 50)]))))
def Wn:au :=
(.clean [3,4,5,6,9,25,27,28] [4,6,7,9] (.block 0 (.loop [3,4,5,6,9,25,27,28] Wj)))
def Wp:eX:=⟨3,55,[.cell 6 (some 2),.tmp 7],(.seq (.ops [.box 3 (.t 0),.box 4 (.t 1),.box 5 (.t 2),.alloc 6 [(.int .i64 0),(.list 1 [])],.aH 7 (.c (.int .i64 0))]) (.seq (.seq (.ops [.load 11 (some 2) (.t 4),.call 12 91 [(.t 11)],.aH 8 (.t 12)]) (.seq (.ops [.aj 13 (.t 8),.bin 14 .neq (.t 13) (.c (.int .i64 0))]) (.cond (.t 14) (.seq (.ops [.build 15 [(.int .i64 0),(.list 1 [])] [],.aj 16 (.t 8),.store none 2 (.t 6) (.t 15),.aH 7 (.t 16)]) .ret) .skip))) (.seq (.seq (.ops [.load 17 (some 2) (.t 5),.ay 18 (.t 4) 0,.load 19 none (.t 18),.call 20 131 [(.t 17),(.t 19)],.un 21 .not (.t 20)]) (.cond (.t 21) (.seq (.ops [.build 22 [(.int .i64 0),(.list 1 [])] [],.store none 2 (.t 6) (.t 22),.aH 7 (.c (.int .i64 2))]) .ret) .skip)) (.seq (.ops [.ay 23 (.t 4) 1,.load 24 none (.t 23),.call 25 80 [(.t 24)],.aH 9 (.t 25)]) (.seq (.seq (.ops [.aj 26 (.t 9),.len 27 (.t 26),.aj 28 (.c (.int .i64 0))])
    Wn) (.seq (.ops [.ay 51 (.t 4) 0,.load 52 none (.t 51),.aj 53 (.t 9),.build 54 [(.int .i64 0),(.list 1 [])] [(0,1,(.t 52)),(1,1,(.t 53))],.store none 2 (.t 6) (.t 54),.aH 7 (.c (.int .i64 0))]) .ret))))))⟩
def Af:au:=(.seq (.seq (.ops [.aj 24 (.t 5),.bin 25 .neq (.t 24) (.c (.int .u64 0))]) (.cond (.t 25) .skip (.exit 2))) (.block 3 (.seq (.seq (.ops [.aj 26 (.t 0),.aj 27 (.t 4),.bin 28 .mul (.t 27) (.c (.int .i64 64)),.aj 29 (.t 5),.call 30 126 [(.t 29)],.bin 31 .add (.t 28) (.t 30),.yield 32 (.t 26) [(.t 31)],.un 33 .not (.t 32)]) (.cond (.t 33) .ret .skip)) (.ops [.aj 34 (.t 5),.aj 35 (.t 5),.bin 36 .sub (.t 35) (.c (.int .u64 1)),.bin 37 .and (.t 34) (.t 36),.aH 5 (.t 37)]))))
def Ag:au :=
(.clean [0,1,2,4,5,10,11,12] [0,1,2,10,11,12] (.block 2 (.loop [0,1,2,4,5,10,11,12] Af)))
def Ah:au:=(.seq (.ops [.bin 13 .lss (.t 12) (.t 11)]) (.seq (.cond (.t 13) .skip (.exit 0)) (.seq (.block 1 (.seq (.ops [.aj 14 (.t 12),.bI 15 1 (.t 10) (.t 12),.load 16 none (.t 15),.aH 4 (.t 14),.aH 5 (.t 16)]) (.seq (.ops [.aj 17 (.t 5),.aj 18 (.t 4),.load 19 none (.t 2),.ay 20 (.t 1) 0,.load 21 none (.t 20),.call 22 125 [(.t 18),(.t 19),(.t 21)],.bin 23 .and (.t 17) (.t 22),.aH 5 (.t 23)])
    Ag))) (.ops [.bin 38 .add (.t 12) (.c (.int .i64 1)),.aj 12 (.t 38)]))))
def Ai:au :=
(.clean [0,1,2,10,11,12] [] (.block 0 (.loop [0,1,2,10,11,12] Ah)))
def Jw:eX:=⟨3,39,[],(.seq (.seq (.ops [.load 6 (some 2) (.t 1),.call 7 91 [(.t 6)],.bin 8 .neq (.t 7) (.c (.int .i64 0))]) (.cond (.t 8) .ret .skip)) (.seq (.ops [.ay 9 (.t 1) 1,.load 10 none (.t 9),.len 11 (.t 10),.aj 12 (.c (.int .i64 0))])
  Ai))⟩
def Dt:eX:=⟨3,27,[.tmp 6],(.seq (.ops [.aH 6 (.c (.int .u64 0))]) (.seq (.ops [.aj 7 (.t 1),.aj 8 (.t 0),.bin 9 .mul (.t 8) (.c (.int .i64 64)),.bin 10 .sub (.t 7) (.t 9),.mn 11 true (.t 10) (.c (.int .i64 0)),.aj 12 (.t 2),.aj 13 (.t 0),.bin 14 .mul (.t 13) (.c (.int .i64 64)),.bin 15 .sub (.t 12) (.t 14),.mn 16 false (.t 15) (.c (.int .i64 64)),.aH 1 (.t 11),.aH 2 (.t 16)]) (.seq (.seq (.ops [.aj 17 (.t 1),.aj 18 (.t 2),.bin 19 .geq (.t 17) (.t 18)]) (.cond (.t 19) (.seq (.ops [.aH 6 (.c (.int .u64 0))]) .ret) .skip)) (.seq (.ops [.aj 20 (.t 2),.aj 21 (.t 1),.bin 22 .sub (.t 20) (.t 21),.bin 23 .sub (.c (.int .i64 64)) (.t 22),.bin 24 .shr (.c (.int .u64 18446744073709551615)) (.t 23),.aj 25 (.t 1),.bin 26 .shl (.t 24) (.t 25),.aH 6 (.t 26)]) .ret))))⟩
def Wq:eX:=⟨1,5,[.tmp 2],(.seq (.ops [.aH 2 (.nil 2)]) (.seq (.ops [.aj 3 (.t 0),.call 4 132 [(.c (.kP 2)),(.t 3)],.aH 2 (.t 4)]) .ret))⟩
def Ws:eX:=⟨3,8,[.tmp 6],(.seq (.ops [.box 3 (.t 0),.box 4 (.t 1),.box 5 (.t 2),.aH 6 (.c .kQ)]) (.seq (.ops [.Kt 7 133 [(.t 3),(.t 4),(.t 5)],.aH 6 (.t 7)]) .ret))⟩
def Wu:eX:=⟨2,9,[.tmp 4],(.seq (.ops [.aH 4 (.c (.bool false))]) (.seq (.ops [.aj 5 (.t 0),.aj 6 (.t 5),.grd 6 false (.aj 7 (.t 1)),.pick 8 (.t 6) (.c (.bool true)) (.t 7),.aH 4 (.t 8)]) .ret))⟩
def Wv:eX:=⟨2,28,[.tmp 4],(.seq (.ops [.box 2 (.t 0),.aH 4 (.c (.bool false))]) (.seq (.ops [.ay 5 (.t 2) 0,.load 6 none (.t 5),.bin 7 .geq (.t 6) (.c (.int .i64 0)),.aj 8 (.t 7),.grd 8 true (.ay 9 (.t 2) 1),.grd 8 true (.load 10 none (.t 9)),.grd 8 true (.bin 11 .geq (.t 10) (.c (.int .i64 0))),.pick 12 (.t 8) (.t 11) (.c (.bool false)),.aj 13 (.t 12),.grd 13 true (.ay 14 (.t 2) 0),.grd 13 true (.load 15 none (.t 14)),.grd 13 true (.aj 16 (.t 1)),.grd 13 true (.bin 17 .leq (.t 15) (.t 16)),.pick 18 (.t 13) (.t 17) (.c (.bool false)),.aj 19 (.t 18),.grd 19 true (.ay 20 (.t 2) 1),.grd 19 true (.load 21 none (.t 20)),.grd 19 true (.aj 22 (.t 1)),.grd 19 true (.ay 23 (.t 2) 0),.grd 19 true (.load 24 none (.t 23)),.grd 19 true (.bin 25 .sub (.t 22) (.t 24)),.grd 19 true (.bin 26 .leq (.t 21) (.t 25)),.pick 27 (.t 19) (.t 26) (.c (.bool false)),.aH 4 (.t 27)]) .ret))⟩
def Wx:au:=(.ops [.alloc 5 [(.int .i64 0),(.int .i64 0)],.store none 2 (.t 5) (.t 7)])
def Wy:au:=(.block 1 (.ops [.load 8 none (.t 2),.load 9 (some 2) (.t 5),.gG 10 2 [(.t 9)],.app 11 2 (.t 8) (.t 10),.store none 1 (.t 2) (.t 11)]))
def WA:eX:=⟨2,13,[.tmp 4],(.seq (.ops [.box 2 (.t 0),.aH 4 (.nil 2)]) (.seq (.seq (.ops [.aj 6 (.t 1)]) (.block 0 (.rng (.t 6) [7] Wx Wy))) (.seq (.ops [.load 12 none (.t 2),.aH 4 (.t 12)]) .ret)))⟩
def WB:au:=(.seq (.ops [.bin 19 .lss (.t 18) (.t 17)]) (.seq (.cond (.t 19) .skip (.exit 0)) (.seq (.block 1 (.seq (.ops [.aj 20 (.t 18),.bI 21 3 (.t 16) (.t 18),.load 22 (some 3) (.t 21),.alloc 10 [(.int .i64 0),(.int .i64 0),(.int .i64 0)],.aH 9 (.t 20),.store none 3 (.t 10) (.t 22)]) (.seq (.sO [] [] (some ([0,1,2,3,4,5,6,7],[],8,[])) [] [.ay 23 (.t 10) 1,.load 24 none (.t 23),.sD 25 (.t 6) (.t 24) 2 1,.load 26 none (.t 25),.ay 27 (.t 10) 2,.load 28 none (.t 27),.bin 29 .add (.t 26) (.t 28),.sD 30 (.t 6) (.t 24) 2 1,.store none 1 (.t 30) (.t 29)]) (.seq (.seq (.sO [] [] none [0,1,2,3,4,5,6,7,8,9,10,11,12,13,14,15] [.aj 31 (.t 9),.bin 32 .add (.t 31) (.c (.int .i64 1)),.aj 33 (.t 5),.len 34 (.t 33),.bin 35 .lss (.t 32) (.t 34),.aj 36 (.t 35),.grd 36 true (.aj 37 (.t 5)),.grd 36 true (.aj 38 (.t 9)),.grd 36 true (.bin 39 .add (.t 38) (.c (.int .i64 1))),.grd 36 true (.bI 40 3 (.t 37) (.t 39)),.grd 36 true (.ay 41 (.t 40) 0),.grd 36 true (.load 42 none (.t 41)),.grd 36 true (.ay 43 (.t 10) 0),.grd 36 true (.load 44 none (.t 43)),.grd 36 true (.bin 45 .eql (.t 42) (.t 44)),.pick 46 (.t 36) (.t 45) (.c (.bool false))]) (.cond (.t 46) (.exit 1) .skip)) (.seq (.ops [.load 47 none (.t 3),.sD 48 (.t 6) (.c (.int .i64 0)) 2 1,.load 49 none (.t 48),.bin 50 .gtr (.t 49) (.c (.int .i64 0)),.sD 51 (.t 6) (.c (.int .i64 1)) 2 1,.load 52 none (.t 51),.bin 53 .gtr (.t 52) (.c (.int .i64 0)),.jw 54 (.t 47) [(.t 50),(.t 53)],.aH 11 (.t 54)]) (.seq (.seq (.ops [.aj 55 (.t 11),.aj 56 (.t 55),.grd 56 true (.aj 57 (.t 8)),.grd 56 true (.un 58 .not (.t 57)),.pick 59 (.t 56) (.t 58) (.c (.bool false))]) (.cond (.t 59) (.ops [.ay 60 (.t 10) 0,.load 61 none (.t 60),.aH 7 (.t 61)]) .skip)) (.seq (.seq (.ops [.aj 62 (.t 11),.un 63 .not (.t 62),.aj 64 (.t 63),.grd 64 true (.aj 65 (.t 8)),.pick 66 (.t 64) (.t 65) (.c (.bool false)),.aj 67 (.t 66),.grd 67 true (.aj 68 (.t 0)),.grd 67 true (.aj 69 (.t 7)),.grd 67 true (.ay 70 (.t 10) 0),.grd 67 true (.load 71 none (.t 70)),.grd 67 true (.aj 72 (.t 7)),.grd 67 true (.bin 73 .sub (.t 71) (.t 72)),.grd 67 true (.build 74 [(.int .i64 0),(.int .i64 0)] [(0,1,(.t 69)),(1,1,(.t 73))]),.grd 67 true (.yield 75 (.t 68) [(.t 74)]),.grd 67 true (.un 76 .not (.t 75)),.pick 77 (.t 67) (.t 76) (.c (.bool false))]) (.cond (.t 77) .ret .skip)) (.ops [.aj 78 (.t 11),.aH 8 (.t 78)])))))))) (.ops [.bin 79 .add (.t 18) (.c (.int .i64 1)),.aj 18 (.t 79)]))))
def WC:au :=
(.clean [0,3,5,6,7,8,15,16,17,18] [] (.block 0 (.loop [0,3,5,6,7,8,15,16,17,18] WB)))
def WE:eX:=⟨4,80,[],(.seq (.ops [.load 12 none (.t 1),.load 13 none (.t 2),.gG 14 1 [(.t 12),(.t 13)],.call 15 134 [(.t 14)],.aH 5 (.t 15)]) (.seq (.ops [.alloc 6 [(.int .i64 0),(.int .i64 0)]]) (.seq (.ops [.aH 7 (.c (.int .i64 0)),.aH 8 (.c (.bool false))]) (.seq (.ops [.aj 16 (.t 5),.len 17 (.t 16),.aj 18 (.c (.int .i64 0))])
   WC))))⟩
def WG:au:=(.seq (.ops [.bin 21 .lss (.t 20) (.t 19)]) (.seq (.cond (.t 21) .skip (.exit 2)) (.seq (.block 3 (.seq (.ops [.bI 22 2 (.t 18) (.t 20),.load 23 (some 2) (.t 22),.alloc 7 [(.int .i64 0),(.int .i64 0)],.store none 2 (.t 7) (.t 23)]) (.seq (.ops [.load 25 (some 2) (.t 7),.call 26 135 [(.t 25)],.aj 24 (.t 26),.ext 27 (.t 24) 0,.ext 28 (.t 24) 1,.ext 29 (.t 24) 2,.aH 8 (.t 27),.aH 9 (.t 28),.aH 10 (.t 29)]) (.seq (.ops [.aj 30 (.t 10)]) (.cond (.t 30) (.ops [.aj 31 (.t 3),.aj 32 (.t 8),.aj 33 (.t 4),.build 34 [(.int .i64 0),(.int .i64 0),(.int .i64 0)] [(0,1,(.t 32)),(1,1,(.t 33)),(2,1,(.c (.int .i64 1)))],.aj 35 (.t 9),.aj 36 (.t 4),.build 37 [(.int .i64 0),(.int .i64 0),(.int .i64 0)] [(0,1,(.t 35)),(1,1,(.t 36)),(2,1,(.c (.int .i64 (-1))))],.gG 38 3 [(.t 34),(.t 37)],.app 39 3 (.t 31) (.t 38),.aH 3 (.t 39)]) .skip))))) (.ops [.bin 40 .add (.t 20) (.c (.int .i64 1)),.aj 20 (.t 40)]))))
def WH:au :=
(.clean [0,3,4,5,11,12,13,17,18,19,20,39] [0,2,3,11,12,13,39] (.block 2 (.loop [0,3,4,5,11,12,13,17,18,19,20,39] WG)))
def WI:au:=(.seq (.ops [.bin 14 .lss (.t 13) (.t 12)]) (.seq (.cond (.t 14) .skip (.exit 0)) (.seq (.block 1 (.seq (.ops [.aj 15 (.t 13),.bI 16 1 (.t 11) (.t 13),.load 17 none (.t 16),.aH 4 (.t 15),.aH 5 (.t 17)]) (.seq (.ops [.aj 18 (.t 5),.len 19 (.t 18),.aj 20 (.c (.int .i64 0))])
    WH))) (.ops [.bin 41 .add (.t 13) (.c (.int .i64 1)),.aj 13 (.t 41)]))))
def WJ:au :=
(.clean [0,3,11,12,13,39] [2,3] (.block 0 (.loop [0,3,11,12,13,39] WI)))
def WL:eX:=⟨1,45,[.tmp 2],(.seq (.ops [.aH 2 (.nil 3)]) (.seq (.ops [.aH 3 (.nil 3)]) (.seq (.seq (.ops [.aj 11 (.t 0),.len 12 (.t 11),.aj 13 (.c (.int .i64 0))])
   WJ) (.seq (.ops [.aj 42 (.t 3),.Bg 43 136 (.t 42) (.c (.func 137 []))]) (.seq (.ops [.aj 44 (.t 3),.aH 2 (.t 44)]) .ret)))))⟩
def WM:eX:=⟨1,35,[.tmp 2,.tmp 3,.tmp 4],(.seq (.ops [.box 1 (.t 0),.aH 2 (.c (.int .i64 0)),.aH 3 (.c (.int .i64 0)),.aH 4 (.c (.bool false))]) (.seq (.seq (.ops [.ay 7 (.t 1) 1,.load 8 none (.t 7),.bin 9 .leq (.t 8) (.c (.int .i64 0))]) (.cond (.t 9) (.seq (.ops [.aH 2 (.c (.int .i64 0)),.aH 3 (.c (.int .i64 0)),.aH 4 (.c (.bool false))]) .ret) .skip)) (.seq (.ops [.ay 10 (.t 1) 0,.load 11 none (.t 10),.mn 12 true (.t 11) (.c (.int .i64 0)),.aH 5 (.t 12),.aH 6 (.c (.int .i64 4096))]) (.seq (.seq (.ops [.ay 13 (.t 1) 0,.load 14 none (.t 13),.bin 15 .lss (.t 14) (.c (.int .i64 0)),.aj 16 (.t 15),.grd 16 false (.ay 17 (.t 1) 1),.grd 16 false (.load 18 none (.t 17)),.grd 16 false (.ay 19 (.t 1) 0),.grd 16 false (.load 20 none (.t 19)),.grd 16 false (.bin 21 .sub (.c (.int .i64 4096)) (.t 20)),.grd 16 false (.bin 22 .lss (.t 18) (.t 21)),.pick 23 (.t 16) (.c (.bool true)) (.t 22)]) (.cond (.t 23) (.ops [.ay 24 (.t 1) 0,.load 25 none (.t 24),.ay 26 (.t 1) 1,.load 27 none (.t 26),.bin 28 .add (.t 25) (.t 27),.mn 29 false (.t 28) (.c (.int .i64 4096)),.aH 6 (.t 29)]) .skip)) (.seq (.ops [.aj 30 (.t 5),.aj 31 (.t 6),.aj 32 (.t 5),.aj 33 (.t 6),.bin 34 .lss (.t 32) (.t 33),.aH 2 (.t 30),.aH 3 (.t 31),.aH 4 (.t 34)]) .ret)))))⟩
def WO:eX:=⟨2,10,[.tmp 4],(.seq (.ops [.box 2 (.t 0),.box 3 (.t 1),.aH 4 (.c (.int .i64 0))]) (.seq (.ops [.ay 5 (.t 2) 0,.load 6 none (.t 5),.ay 7 (.t 3) 0,.load 8 none (.t 7),.call 9 138 [(.t 6),(.t 8)],.aH 4 (.t 9)]) .ret))⟩
def WQ:eX:=⟨2,20,[.tmp 4],(.seq (.ops [.aH 4 (.c (.int .i64 0))]) (.seq (.ops [.aj 7 (.t 0),.call 8 141 [(.t 7)],.aH 5 (.t 8)]) (.seq (.ops [.aj 9 (.t 1),.call 10 141 [(.t 9)],.aH 6 (.t 10)]) (.seq (.seq (.ops [.aj 11 (.t 5)]) (.cond (.t 11) (.seq (.seq (.ops [.aj 12 (.t 6)]) (.cond (.t 12) (.seq (.ops [.aH 4 (.c (.int .i64 0))]) .ret) .skip)) (.seq (.ops [.aH 4 (.c (.int .i64 (-1)))]) .ret)) .skip)) (.seq (.seq (.ops [.aj 13 (.t 6)]) (.cond (.t 13) (.seq (.ops [.aH 4 (.c (.int .i64 1))]) .ret) .skip)) (.seq (.seq (.ops [.aj 14 (.t 0),.aj 15 (.t 1),.bin 16 .lss (.t 14) (.t 15)]) (.cond (.t 16) (.seq (.ops [.aH 4 (.c (.int .i64 (-1)))]) .ret) .skip)) (.seq (.seq (.ops [.aj 17 (.t 0),.aj 18 (.t 1),.bin 19 .gtr (.t 17) (.t 18)]) (.cond (.t 19) (.seq (.ops [.aH 4 (.c (.int .i64 1))]) .ret) .skip)) (.seq (.ops [.aH 4 (.c (.int .i64 0))]) .ret))))))))⟩
def WR:eX:=⟨1,6,[.tmp 2],(.seq (.ops [.aH 2 (.c (.bool false))]) (.seq (.ops [.aj 3 (.t 0),.aj 4 (.t 0),.bin 5 .neq (.t 3) (.t 4),.aH 2 (.t 5)]) .ret))⟩
def tab:List (Nat × Tf):=[(6,.code fn6),(10,.code Vy),(11,.code ab5),(13,.code Vz),(14,.code Jg),(15,.code Nb),(16,.code ab6),(18,.code ab7),(20,.code vw),(21,.code qA),(22,.code VA),(23,.code ab8),(25,.code VB),(26,.code zX),(27,.code yF),(31,.code Rn),(35,.code VD),(36,.code ab9),(37,.code acd),(38,.code Ro),(39,.ext (jR 1)),(40,.code VE),(41,.code VF),(42,.code Fg),(43,.code ace),(44,.code Rq),(45,.code VG),(46,.code zY),(48,.code VH),(49,.code VI),(50,.code Rt),(51,.code VJ),(52,.code VK),(53,.code VL),(54,.code Ru),(55,.code VN),(56,.code VO),(57,.code VP),(58,.code VQ),(62,.code VR),(65,.code Nc),(66,.code VT),(68,.code VU),(69,.code VW),(70,.code VX),(71,.code Nh),(72,.code Rw),(73,.code Nj),(74,.code Rx),(75,.code acf),(76,.code acg),(77,.code ach),(78,.code aci),(79,.code acj),(80,.ext (jR 1)),(81,.code VY),(82,.code Ry),(86,.ext (jR 8)),(87,.code VZ),(88,.code Jh),(89,.code Rz),(90,.code RD),(91,.code BL),(92,.code Ji),(93,.code V3),(94,.code V4),(95,.code V5),(96,.code RF),(101,.code Jj),(102,.code Jk),(103,.code Jl),(104,.code Jm),(105,.code Jo),(106,.code Jp),(107,.code V8),(108,.code V9),(109,.code Jq),(111,.code Jr),(112,.code Js),(113,.code Jt),(114,.code Ju),(118,.code Dq),(119,.code Jv),(120,.code Wh),(121,.code Wi),(122,.code Wp),(124,.code Jw),(125,.code Dt),(126,.ext tzX),(128,.code Wq),(129,.code Ws),(130,.code Wu),(131,.code Wv),(132,.code WA),(133,.code WE),(134,.code WL),(135,.code WM),(136,.Bg (oQ 137)),(137,.code WO),(138,.code WQ),(141,.code WR)]
def env:Env:=fun f=>tab.lookup f
theorem acn:env 6=some (.code fn6):=rfl
theorem aeL:env 10=some (.code Vy):=rfl
theorem aeM:env 13=some (.code Vz):=rfl
theorem Ox:env 14=some (.code Jg):=rfl
theorem WS:env 15=some (.code Nb):=rfl
theorem sH:env 20=some (.code vw):=rfl
theorem nX:env 21=some (.code qA):=rfl
theorem aeN:env 22=some (.code VA):=rfl
theorem aeO:env 25=some (.code VB):=rfl
theorem Aj:env 26=some (.code zX):=rfl
theorem xX:env 27=some (.code yF):=rfl
theorem aaT:env 31=some (.code Rn):=rfl
theorem aeP:env 35=some (.code VD):=rfl
theorem aaU:env 38=some (.code Ro):=rfl
theorem aeQ:env 39=some (.ext (jR 1)):=rfl
theorem aeR:env 40=some (.code VE):=rfl
theorem aeS:env 41=some (.code VF):=rfl
theorem Jy:env 42=some (.code Fg):=rfl
theorem aaV:env 44=some (.code Rq):=rfl
theorem aeT:env 45=some (.code VG):=rfl
theorem Ak:env 46=some (.code zY):=rfl
theorem aeU:env 48=some (.code VH):=rfl
theorem aeV:env 49=some (.code VI):=rfl
theorem aaW:env 50=some (.code Rt):=rfl
theorem aeW:env 51=some (.code VJ):=rfl
theorem aeX:env 52=some (.code VK):=rfl
theorem aeY:env 53=some (.code VL):=rfl
theorem aaX:env 54=some (.code Ru):=rfl
theorem aeZ:env 55=some (.code VN):=rfl
theorem ae0:env 56=some (.code VO):=rfl
theorem ae1:env 57=some (.code VP):=rfl
theorem ae2:env 58=some (.code VQ):=rfl
theorem ae3:env 62=some (.code VR):=rfl
theorem WT:env 65=some (.code Nc):=rfl
theorem ae4:env 66=some (.code VT):=rfl
theorem ae5:env 68=some (.code VU):=rfl
theorem ae6:env 69=some (.code VW):=rfl
theorem ae7:env 70=some (.code VX):=rfl
theorem WU:env 71=some (.code Nh):=rfl
theorem aaY:env 72=some (.code Rw):=rfl
theorem WV:env 73=some (.code Nj):=rfl
theorem aaZ:env 74=some (.code Rx):=rfl
theorem ae8:env 80=some (.ext (jR 1)):=rfl
theorem ae9:env 81=some (.code VY):=rfl
theorem aa0:env 82=some (.code Ry):=rfl
theorem afa:env 86=some (.ext (jR 8)):=rfl
theorem afb:env 87=some (.code VZ):=rfl
theorem Oy:env 88=some (.code Jh):=rfl
theorem aa1:env 89=some (.code Rz):=rfl
theorem aa2:env 90=some (.code RD):=rfl
theorem Du:env 91=some (.code BL):=rfl
theorem Oz:env 92=some (.code Ji):=rfl
theorem afc:env 93=some (.code V3):=rfl
theorem afd:env 94=some (.code V4):=rfl
theorem afe:env 95=some (.code V5):=rfl
theorem aa3:env 96=some (.code RF):=rfl
theorem aco:env 101=some (.code Jj):=rfl
theorem acp:env 102=some (.code Jk):=rfl
theorem acr:env 103=some (.code Jl):=rfl
theorem acs:env 104=some (.code Jm):=rfl
theorem acu:env 105=some (.code Jo):=rfl
theorem acv:env 106=some (.code Jp):=rfl
theorem acw:env 109=some (.code Jq):=rfl
theorem acy:env 111=some (.code Jr):=rfl
theorem acz:env 112=some (.code Js):=rfl
theorem acA:env 113=some (.code Jt):=rfl
theorem acB:env 114=some (.code Ju):=rfl
theorem WX:env 118=some (.code Dq):=rfl
theorem acC:env 119=some (.code Jv):=rfl
theorem acD:env 124=some (.code Jw):=rfl
theorem WY:env 125=some (.code Dt):=rfl
theorem acE:env 126=some (.ext tzX):=rfl
end Go.Proofs.YtpcncggjmabnaaaGreatDoor

namespace Go.Proofs.YtpcncggjmabnaaaGreatDoor
open V
def Am:=(And.intro (And.intro (And.intro (And.intro (And.intro (And.intro (And.intro (And.intro @IV (And.intro @UM @UN)) (And.intro (And.intro @YV @IW) (And.intro @IX @UL))) (And.intro (And.intro (And.intro @EH @UU) (And.intro @YR @LM)) (And.intro (And.intro @LP @IK) (And.intro @IL @YS)))) (And.intro (And.intro (And.intro (And.intro @EG @IQ) (And.intro @Qp @Qq)) (And.intro (And.intro @cZ @List.foldl_nil.{0,0}) (And.intro @List.foldl_cons.{0,0} @YO))) (And.intro (And.intro (And.intro @YP @YT) (And.intro @UG @Dh)) (And.intro (And.intro @UJ @YU) (And.intro @IU @Qs))))) (And.intro (And.intro (And.intro (And.intro @UK (And.intro @yD @EI)) (And.intro (And.intro @BK @I4) (And.intro @UW @Qu))) (And.intro (And.intro (And.intro @LU @YW) (And.intro @LK @xU)) (And.intro (And.intro @I5 @LY) (And.intro @I7 @LZ)))) (And.intro (And.intro (And.intro (And.intro @eF.eq_1 @eF.eq_2) (And.intro @eF.eq_3 @resultList.eq_1)) (And.intro (And.intro @resultList.eq_2 @lG.eq_1) (And.intro @lG.eq_2 @lG.eq_3))) (And.intro (And.intro (And.intro @zBV.eq_1 @zBV.eq_2) (And.intro @splice.eq_1 @PV.qB.eq_1)) (And.intro (And.intro @PV.qB.eq_2 @PV.qB.eq_3) (And.intro @PV.qB.eq_4 @St.gK.eq_1)))))) (And.intro (And.intro (And.intro (And.intro (And.intro @St.bf.eq_1 (And.intro @St.dZ.eq_1 @St.dZ.eq_2)) (And.intro (And.intro @PV.single.eq_1 @PV.single.eq_2) (And.intro @UZ @Qx))) (And.intro (And.intro (And.intro @Y6 @U0) (And.intro @U1 @Qz)) (And.intro (And.intro @U2 @QA) (And.intro @Y8 @U4)))) (And.intro (And.intro (And.intro (And.intro @Y9 @U5) (And.intro @U6 @Za)) (And.intro (And.intro @Zb @Zc) (And.intro @Zd @Ze))) (And.intro (And.intro (And.intro @cZ @Zf) (And.intro @cZ @cZ)) (And.intro (And.intro @cZ @cZ) (And.intro @Zq @Zm))))) (And.intro (And.intro (And.intro (And.intro @Zk (And.intro @Zg @Zi)) (And.intro (And.intro @cZ @Zo) (And.intro @abY @U7))) (And.intro (And.intro (And.intro @U8 @U9) (And.intro @Va @Vb)) (And.intro (And.intro @cZ @Zu) (And.intro @Zv @Zw)))) (And.intro (And.intro (And.intro (And.intro @cZ @Zx) (And.intro @QB @abZ)) (And.intro (And.intro @Zy @QC) (And.intro @Zz @QD))) (And.intro (And.intro (And.intro @Vd @Ve) (And.intro @ZA @cZ)) (And.intro (And.intro @cZ @cZ) (And.intro @QE @ZB))))))) (And.intro (And.intro (And.intro (And.intro (And.intro (And.intro @ZC (And.intro @ZE @ZF)) (And.intro (And.intro @ZG @cZ) (And.intro @Zt @cZ))) (And.intro (And.intro (And.intro @cZ @cZ) (And.intro @cZ @Zr)) (And.intro (And.intro @Zn @Zl) (And.intro @Zh @Zj)))) (And.intro (And.intro (And.intro (And.intro @cZ @Zp) (And.intro @ab1 @Vf)) (And.intro (And.intro @Vg @Vh) (And.intro @Vj @Vk))) (And.intro (And.intro (And.intro @cZ @ZH) (And.intro @ZI @ZJ)) (And.intro (And.intro @cZ @ZK) (And.intro @QF @ab2))))) (And.intro (And.intro (And.intro (And.intro @ZL (And.intro @QG @ZM)) (And.intro (And.intro @QH @Vl) (And.intro @Vm @ZN))) (And.intro (And.intro (And.intro @cZ @cZ) (And.intro @cZ @QI)) (And.intro (And.intro @plain.eq_1 @plain.eq_2) (And.intro @plain.eq_3 @plain.eq_4)))) (And.intro (And.intro (And.intro (And.intro @plain.eq_5 @plain.eq_6) (And.intro @plain.eq_7 @plain.eq_8)) (And.intro (And.intro @plain.eq_9 @plain.eq_10) (And.intro @plain.eq_11 @plain.eq_12))) (And.intro (And.intro (And.intro @plain.eq_13 @plain.eq_14) (And.intro @plain.eq_15 @plain.eq_16)) (And.intro (And.intro @plain.eq_17 @plain.eq_18) (And.intro @plain.eq_19 @plain.eq_20)))))) (And.intro (And.intro (And.intro (And.intro (And.intro @plain.eq_21 (And.intro @plain.eq_22 @plain.eq_23)) (And.intro (And.intro @plain.eq_24 @plain.eq_25) (And.intro @plain.eq_26 @plain.eq_27))) (And.intro (And.intro (And.intro @plain.eq_28 @plain.eq_29) (And.intro @plain.eq_30 @plain.eq_31)) (And.intro (And.intro @plain.eq_32 @plain.eq_33) (And.intro @act.eq_1 @act.eq_2)))) (And.intro (And.intro (And.intro (And.intro @act.eq_3 @act.eq_4) (And.intro @act.eq_5 @act.eq_6)) (And.intro (And.intro @act.eq_7 @act.eq_8) (And.intro @act.eq_9 @act.eq_10))) (And.intro (And.intro (And.intro @act.eq_11 @act.eq_12) (And.intro @act.eq_13 @act.eq_14)) (And.intro (And.intro @act.eq_15 @act.eq_16) (And.intro @act.eq_17 @act.eq_18))))) (And.intro (And.intro (And.intro (And.intro (And.intro @act.eq_19 @bU.eq_1) (And.intro @bU.eq_2 @bU.eq_3)) (And.intro (And.intro @bU.eq_4 @bU.eq_5) (And.intro @bU.eq_6 @bU.eq_7))) (And.intro (And.intro (And.intro @bU.eq_8 @bU.eq_9) (And.intro @bU.eq_10 @bU.eq_11)) (And.intro (And.intro @bU.eq_12 @bU.eq_13) (And.intro @bU.eq_14 @bU.eq_15)))) (And.intro (And.intro (And.intro (And.intro @bU.eq_16 @bU.eq_17) (And.intro @bU.eq_18 @bU.eq_19)) (And.intro (And.intro @bU.eq_20 @bU.eq_21) (And.intro @bU.eq_22 @bU.eq_23))) (And.intro (And.intro (And.intro @bU.eq_24 @bU.eq_25) (And.intro @bU.eq_26 @bU.eq_27)) (And.intro (And.intro @bU.eq_28 @bU.eq_29) (And.intro @bU.eq_30 @bU.eq_31)))))))) (And.intro (And.intro (And.intro (And.intro (And.intro (And.intro (And.intro @bU.eq_32 (And.intro @bU.eq_33 @bU.eq_34)) (And.intro (And.intro @bU.eq_35 @bU.eq_36) (And.intro @bU.eq_37 @bU.eq_38))) (And.intro (And.intro (And.intro @bU.eq_39 @bU.eq_40) (And.intro @bU.eq_41 @bU.eq_42)) (And.intro (And.intro @bU.eq_43 @bU.eq_44) (And.intro @bU.eq_45 @bU.eq_46)))) (And.intro (And.intro (And.intro (And.intro @bU.eq_47 @bU.eq_48) (And.intro @bU.eq_49 @Bool.false_eq_true)) (And.intro (And.intro @if_true.{1} @if_false.{1}) (And.intro @L6 @I8))) (And.intro (And.intro (And.intro @St.get.eq_1 @St.get.eq_2) (And.intro @St.get.eq_3 @St.put.eq_1)) (And.intro (And.intro @St.bW.eq_1 @St.putRow.eq_1) (And.intro @St.consume.eq_1 @St.consume.eq_2))))) (And.intro (And.intro (And.intro (And.intro @St.consume.eq_3 (And.intro @St.freeze.eq_1 @St.row.eq_1)) (And.intro (And.intro @St.row.eq_2 @St.row.eq_3) (And.intro @St.elems.eq_1 @St.grab.eq_1))) (And.intro (And.intro (And.intro @St.grab.eq_2 @St.grab.eq_3) (And.intro @nN.eq_1 @nN.eq_2)) (And.intro (And.intro @nN.eq_3 @nN.eq_4) (And.intro @Pv.eq_1 @Pv.eq_2)))) (And.intro (And.intro (And.intro (And.intro @je.eq_1 @je.eq_2) (And.intro @je.eq_3 @je.eq_4)) (And.intro (And.intro @St.takeRow.eq_1 @St.takeRow.eq_2) (And.intro @St.takeRow.eq_3 @St.setRow.eq_1))) (And.intro (And.intro (And.intro @St.setRow.eq_2 @St.setRow.eq_3) (And.intro @St.place.eq_1 @St.place.eq_2)) (And.intro (And.intro @St.sF.eq_1 @St.sF.eq_2) (And.intro @St.setCell.eq_1 @St.jd.eq_1)))))) (And.intro (And.intro (And.intro (And.intro (And.intro @xw.eq_1 (And.intro @xw.eq_2 @xw.eq_3)) (And.intro (And.intro @xw.eq_4 @y9.eq_1) (And.intro @y9.eq_2 @y9.eq_3))) (And.intro (And.intro (And.intro @y9.eq_4 @fH.eq_1) (And.intro @fH.eq_2 @fH.eq_3)) (And.intro (And.intro @fH.eq_4 @fH.eq_5) (And.intro @fH.eq_6 @fH.eq_7)))) (And.intro (And.intro (And.intro (And.intro @fH.eq_8 @fH.eq_9) (And.intro @fH.eq_10 @fH.eq_11)) (And.intro (And.intro @fH.eq_12 @fH.eq_13) (And.intro @fH.eq_14 @fH.eq_15))) (And.intro (And.intro (And.intro @fH.eq_16 @fH.eq_17) (And.intro @Pq.eq_1 @Pq.eq_2)) (And.intro (And.intro @Pq.eq_3 @Pq.eq_4) (And.intro @BV.val.eq_1 @BV.val.eq_2))))) (And.intro (And.intro (And.intro (And.intro @BV.av.eq_1 (And.intro @BV.av.eq_2 @Rf)) (And.intro (And.intro @MX @Rh) (And.intro @MZ @cells_func))) (And.intro (And.intro (And.intro @Ri @Vx) (And.intro @Rj @Rk)) (And.intro (And.intro @Vo @QJ) (And.intro @QK @MF)))) (And.intro (And.intro (And.intro (And.intro @Vp @QM) (And.intro @QL @QN)) (And.intro (And.intro @MG @MH) (And.intro @MI @MJ))) (And.intro (And.intro (And.intro @Vq @QO) (And.intro @QS @MK)) (And.intro (And.intro @Vr @QU) (And.intro @QT @QV))))))) (And.intro (And.intro (And.intro (And.intro (And.intro (And.intro @MN (And.intro @ML @MP)) (And.intro (And.intro @MO @Vs) (And.intro @QW @QX))) (And.intro (And.intro (And.intro @MQ @Vt) (And.intro @QZ @QY)) (And.intro (And.intro @Q5 @MS) (And.intro @MR @MW)))) (And.intro (And.intro (And.intro (And.intro @MV @bound.eq_1) (And.intro @bound.eq_2 @bound.eq_3)) (And.intro (And.intro @dL.eq_1 @dL.eq_2) (And.intro @gq.eq_1 @gq.eq_2))) (And.intro (And.intro (And.intro @sQ.eq_1 @sQ.eq_2) (And.intro @capOf.eq_1 @Dj)) (And.intro (And.intro @abX @aG) (And.intro @aN @aC))))) (And.intro (And.intro (And.intro (And.intro @aK (And.intro @List.append_nil.{0} @aJ)) (And.intro (And.intro @aF @Nat.zero_add) (And.intro @Nat.add_zero @Jb))) (And.intro (And.intro (And.intro @Ja @I9) (And.intro @xW @decide_true)) (And.intro (And.intro @decide_false @Bool.not_true) (And.intro @Bool.not_false @Bool.true_eq_false)))) (And.intro (And.intro (And.intro (And.intro @beq_self_eq_true.{0} @Bool.true_and) (And.intro @Bool.and_true @Bool.false_and)) (And.intro (And.intro @Bool.and_false @Bool.true_or) (And.intro @Bool.false_or @Bool.or_false))) (And.intro (And.intro (And.intro @Bool.or_true @aeH) (And.intro @aeI @Df)) (And.intro (And.intro @Qo @List.length_map.{0,0}) (And.intro @Jc @UY)))))) (And.intro (And.intro (And.intro (And.intro (And.intro @Jd (And.intro @L8 @Y4)) (And.intro (And.intro @L9 @Mc) (And.intro @Y5 @Md))) (And.intro (And.intro (And.intro @dcall.eq_1 @wK.eq_1) (And.intro @Y7.eq_1 @Jf.eq_1)) (And.intro (And.intro @Dl.eq_1 @EK.eq_1) (And.intro @o9.eq_1 @lu.eq_1)))) (And.intro (And.intro (And.intro (And.intro @lu.eq_2 @lu.eq_3) (And.intro @LV @LW)) (And.intro (And.intro @LX @YX) (And.intro @YZ @Y0))) (And.intro (And.intro (And.intro @Y1 @Y2) (And.intro @Y3 @IY)) (And.intro (And.intro @UQ @yE) (And.intro @zT @List.mapM_cons.{0,0,0}))))) (And.intro (And.intro (And.intro (And.intro (And.intro @Me @St.iT.eq_1) (And.intro @St.iT.eq_2 @St.snap.eq_1)) (And.intro (And.intro @St.snap.eq_2 @St.snap.eq_3) (And.intro @St.snap.eq_4 @St.snap.eq_5))) (And.intro (And.intro (And.intro @St.snap.eq_6 @MB) (And.intro @Qv @MC)) (And.intro (And.intro @Qw @Vu) (And.intro @Q7 @Vw)))) (And.intro (And.intro (And.intro (And.intro @Q8 @Q9) (And.intro @St.layAll.eq_1 @St.layAll.eq_2)) (And.intro (And.intro @St.lay.eq_1 @St.lay.eq_2) (And.intro @St.lay.eq_3 @EJ))) (And.intro (And.intro (And.intro @Je @St.bP.eq_1) (And.intro @St.bn.eq_1 @St.bn.eq_2)) (And.intro (And.intro @St.bn.eq_3 @St.bn.eq_4) (And.intro @St.bn.eq_5 @St.bn.eq_6)))))))))
def WZ:=(And.intro (And.intro (And.intro (And.intro @List.isEmpty_nil.{0} (And.intro @Yv @Ky)) (And.intro @BP (And.intro @Px @Py))) (And.intro (And.intro @Kw (And.intro @Int.le_refl @EM)) (And.intro @Nat.le_refl (And.intro @St.bg.eq_1 @BV.frozen.eq_1)))) (And.intro (And.intro (And.intro @BV.frozen.eq_2 (And.intro @List.take_length.{0} @List.take_append_drop.{0})) (And.intro @aA (And.intro @Int.toNat_zero @true_and))) (And.intro (And.intro @and_true (And.intro @and_self @eq_self.{1})) (And.intro @xW (And.intro @List.drop_nil.{0} @List.take_nil.{0})))))
def bG:=(And.intro (And.intro @Nat.zero_le (And.intro @List.take_zero.{0} @List.take_nil.{0})) (And.intro (And.intro @List.take_succ_cons.{0} @List.length_cons.{0}) (And.intro @List.length_nil.{0} @Nat.le_refl)))
def aY:=And.intro @WZ @Am
end Go.Proofs.YtpcncggjmabnaaaGreatDoor

namespace Go.Proofs.YtpcncggjmabnaaaGreatDoor.V
theorem Nk:qE Yu=[.int .u8 0,.int .u8 0,.int .u8 0,.int .u8 0,.int .u8 0,.int .u8 0,.int .u8 0,.int .u8 0]:=rfl
theorem Jz (x:nK):part (qE x) 0 (some 8)=some (.agg (qE x)):=by
 simp only [part,kD,Nat.zero_add,List.drop_zero]
 rw [if_pos (Nat.le_refl _),List.take_of_length_le (by rw [kD];exact Nat.le_refl _)]
theorem Ap:∀ a b:List UInt8,a.length=b.length→iK (a.map fun b=>.int .u8 (b.toNat:Int)) (b.map fun b=>.int .u8 (b.toNat:Int))=some (decide (a=b))
 |[],[],_=>rfl
 |x :: a,y :: b,h=>by
  simp only [List.length_cons,Nat.add_right_cancel_iff] at h
  simp only [List.map_cons,iK,if_pos,Ap a b h,Option.map_some,List.cons.injEq]
  congr 1
  have:((x.toNat:Int)==(y.toNat:Int))=decide (x=y):=by
   by_cases e:x=y
   ·subst e;simp
   ·have:¬ x.toNat=y.toNat:=fun h=>e (UInt8.toNat_inj.1 h)
    simp [e];omega
  rw [this,Bool.decide_and]
 |[],_ :: _,h=>by simp at h
 |_ :: _,[],h=>by simp at h
theorem xY (a b:nK):iK (qE a) (qE b)=some (decide (a=b)):=by
 unfold qE
 rw [Ap _ _ (by simp)]
 congr 1
 apply decide_eq_decide.2
 exact ⟨fun h=>Vector.toList_inj.1 h,fun h=>by rw [h]⟩
end Go.Proofs.YtpcncggjmabnaaaGreatDoor.V

namespace Go.Proofs.YtpcncggjmabnaaaGreatDoor.V
def Z8 {α:Type} (p:α→Bool) (l:List α):Int:=if l.any p then (l.findIdx p:Int) else -1
theorem JA {α:Type} (p:α→Bool) (l:List α):decide (Z8 p l ≥ 0)=l.any p:=by
 unfold Z8
 cases l.any p
 ·rfl
 ·simp only [if_true];exact decide_eq_true (by omega)
def eqF {α β:Type} (eq:α→β→Bool) (l:List α) (m:List β):Bool:=decide (l.length=m.length)&&(l.zip m).all fun q=>eq q.1 q.2
--+
theorem Z9 {α:Type} {enc:α→PV} {l:List α} {p:α→Bool} {gf:Nat} {caps:List PV} (hp:∀ x∈l,cal env gf (enc x :: caps)=some [(.bool (p x),false)]) (hs:∀ x,part (enc x).cells 0 none=some (enc x)) (hl:l.length≤lim)
  {st:St} (h:st.head [0,1,7,8] st.boxes.length=some ⟨[.pv (.list 1 (l.map enc)),.pv (.func gf caps),.any,.any,.any,.any,.any,.pv (.int .i64 l.length),.pv (.int .i64 (0:Nat)),.any,.any,.any,.any,.any,.any,.any,.any,.any,.any],[],[],none⟩) :
  den env Ae st=if l.any p then some (.ret,⟨[.any,.any,.any,.any,.pv (.int .i64 (l.findIdx p)),.any,.any,.any,.any,.any,.any,.any,.any,.any,.any,.any,.any,.any,.any],[],[],none⟩) else some (.normal,⟨[.any,.any,.any,.any,.any,.any,.any,.any,.any,.any,.any,.any,.any,.any,.any,.any,.any,.any,.any],[],[],none⟩):=by
 unfold Ae
 rw [bF l.length (fun i=>⟨[.pv (.list 1 (l.map enc)),.pv (.func gf caps),.any,.any,.any,.any,.any,.pv (.int .i64 l.length),.pv (.int .i64 i),.any,.any,.any,.any,.any,.any,.any,.any,.any,.any],[],[],none⟩)
  (fun i=>if (l.drop i).any p then some (.ret,⟨[.any,.any,.any,.any,.pv (.int .i64 ((i+(l.drop i).findIdx p:Nat):Int)),.any,.any,.any,.any,.any,.any,.any,.any,.any,.any,.any,.any,.any,.any],[],[],none⟩) else some (.normal,⟨[.any,.any,.any,.any,.any,.any,.any,.any,.any,.any,.any,.any,.any,.any,.any,.any,.any,.any,.any],[],[],none⟩)) h (fun _=>rfl) (fun _=>rfl) ?_ ?_]
 ·simp only [List.drop_zero,Nat.zero_add]
 ·intro i rb hi ih
  have hi1:=bH hi hl
  have F1:((i:Int)<(l.length:Int))=True:=eq_true (by omega)
  simp only [Ad,F1,List.length_map,ak hi,List.getElem?_map,List.getElem?_eq_getElem hi,hp _ (List.getElem_mem hi),hs,Am,reduceCtorEq,Nat.reduceEqDiff,Nat.reduceAdd,Nat.reduceLT,Nat.reduceLeDiff,Nat.beq]
  (try simp only [dS,fF,dU]);refine dB (fun hb=>?_) (fun hb=>?_)<;>try simp only [hb,aY,reduceCtorEq,Nat.reduceEqDiff,Nat.reduceAdd,Nat.reduceLT,Nat.reduceLeDiff,Nat.beq]
  ·rw [List.drop_eq_getElem_cons hi]
   simp only [List.any_cons,hb,Bool.true_or,if_true,List.findIdx_cons,cond_true,Nat.add_zero]
   rfl
  ·rw [ih _ (by simp only [hi1];rfl),List.drop_eq_getElem_cons hi]
   simp only [List.any_cons,hb,Bool.false_or,List.findIdx_cons,cond_false,Nat.add_assoc,Nat.add_comm 1]
 ·intro rb
  simp only [Ad,Int.lt_irrefl,Am,reduceCtorEq,Nat.reduceEqDiff,Nat.reduceAdd,Nat.reduceLT,Nat.reduceLeDiff,Nat.beq]
  simp only [List.drop_length,List.any_nil,Bool.false_eq_true,if_false]
  rfl
theorem acF {α:Type} {enc:α→PV} {l:List α} {p:α→Bool} {gf:Nat} {caps:List PV} (hp:∀ x∈l,cal env gf (enc x :: caps)=some [(.bool (p x),false)]) (hs:∀ x,part (enc x).cells 0 none=some (enc x)) (hl:l.length≤lim) :
  cal env 119 [.list 1 (l.map enc),.func gf caps]=some [(.int .i64 (Z8 p l),false)]:=by
 rw [ah acC rfl];simp only [Jv];simp only [start,aG,aN,aC,aK,aA,aB,aF,aJ,Nat.reduceAdd,Nat.reduceSub]
 simp only [List.length_map,Am,reduceCtorEq,Nat.reduceEqDiff,Nat.reduceAdd,Nat.reduceLT,Nat.reduceLeDiff,Nat.beq]
 rw [Z9 hp hs hl]
 rotate_left
 ·rfl
 ·simp only [Z8]
  split<;>simp only [Am,reduceCtorEq,Nat.reduceEqDiff,Nat.reduceAdd,Nat.reduceLT,Nat.reduceLeDiff,Nat.beq]
--+
theorem W9 {α:Type} {enc:α→PV} {l:List α} {p:α→Bool} {gf:Nat} {caps:List PV} (hp:∀ x∈l,cal env gf (enc x :: caps)=some [(.bool (p x),false)]) (hs:∀ x,part (enc x).cells 0 none=some (enc x)) (hl:l.length≤lim) :
  cal env 101 [.list 1 (l.map enc),.func gf caps]=some [(.bool (l.any p),false)]:=by
 rw [ah aco rfl];simp only [Jj];simp only [start,aG,aN,aC,aK,aA,aB,aF,aJ,Nat.reduceAdd,Nat.reduceSub]
 simp only [acF hp hs hl,JA,Am,reduceCtorEq,Nat.reduceEqDiff,Nat.reduceAdd,Nat.reduceLT,Nat.reduceLeDiff,Nat.beq]
--+
end Go.Proofs.YtpcncggjmabnaaaGreatDoor.V

namespace Go.Proofs.YtpcncggjmabnaaaGreatDoor.V
def aX (l:List Int):Int:=if l.length<1∨8<l.length then 6 else if l.any (fun n=>decide (n<1) || decide (n > 4096)) then 2 else 0
def dD (im:jl):List Int:=im.map fun v=>(v.length:Int)
def kN (im:jl):Int:=aX (dD im)
def dF (im:jl) (w:jW):Int :=
 if w.volume<0∨(im.length:Int)≤w.volume then 7 else if w.data.length=0 then 1
 else if w.start<0∨((im.getD w.volume.toNat []).length:Int) - w.data.length<w.start then 2 else 0
def Aq (im:jl) (w:jW):Int:=if kN im≠0 then kN im else dF im w
def dH (l:List Int):jl:=l.map fun n=>List.replicate n.toNat Yu
theorem oG {α β:Type} (f:α→β) {l:List α} {i:Nat} (h:i<l.length):(l.take i).map f++[f l[i]]=(l.take (i+1)).map f:=by
 rw [List.take_succ,List.getElem?_eq_getElem h,List.map_append];rfl
theorem acG {α:Type} {enc:α→PV} {l:List α} {g:α→List nK} {gf:Nat} {caps:List PV} (hp:∀ x∈l,cal env gf (enc x :: caps)=some [(bC (g x),true)]) (hs:∀ x,part (enc x).cells 0 none=some (enc x)) (hs3:∀ x,(enc x).cells.length=1) (hl:l.length≤lim)
  {st:St} (h:st.head [0,1,5,10,11,12,13,22] st.boxes.length=some ⟨[.pv (.list 1 (l.map enc)),.pv (.func gf caps),.any,.any,.any,.row 1 [],.any,.any,.any,.any,.any,.pv (.list 1 (l.map enc)),.pv (.int .i64 l.length),.pv (.int .i64 (0:Nat)),.any,.any,.any,.any,.any,.any,.any,.any,.any,.any,.any],[],[],none⟩) :
  den env Gf st=some (.normal,⟨[.any,.any,.any,.any,.any,.row 1 (l.map fun x=>bC (g x)),.any,.any,.any,.any,.any,.any,.any,.any,.any,.any,.any,.any,.any,.any,.any,.any,.any,.any,.any],[],[],none⟩):=by
 unfold Gf
 rw [bF l.length (fun i=>⟨[.pv (.list 1 (l.map enc)),.pv (.func gf caps),.any,.any,.any,.row 1 ((l.take i).map fun x=>bC (g x)),.any,.any,.any,.any,.any,.pv (.list 1 (l.map enc)),.pv (.int .i64 l.length),.pv (.int .i64 i),.any,.any,.any,.any,.any,.any,.any,.any,.any,.any,.any],[],[],none⟩)
  (fun i=>some (.normal,⟨[.any,.any,.any,.any,.any,.row 1 (l.map fun x=>bC (g x)),.any,.any,.any,.any,.any,.any,.any,.any,.any,.any,.any,.any,.any,.any,.any,.any,.any,.any,.any],[],[],none⟩)) h (fun _=>rfl) (fun _=>rfl) ?_ ?_]
 ·intro i rb hi ih
  have hi1:=bH hi hl
  have F1:((i:Int)<(l.length:Int))=True:=eq_true (by omega)
  have F2:((l.take i).length+1≤lim)=True:=eq_true (by rw [List.length_take];omega)
  have hpi:cal env gf (enc l[i] :: caps)=some [((PV.list 8 ((g l[i]).map lW)),true)]:=hp _ (List.getElem_mem hi)
  try simp only [nG] at hpi
  simp only [F9,F1,F2,ak hi,List.getElem?_map,List.getElem?_eq_getElem hi,hpi,hs,hs3,aY,reduceCtorEq,Nat.reduceEqDiff,Nat.reduceAdd,Nat.reduceLT,Nat.reduceLeDiff,Nat.beq]
  rw [ih _ (by simp only [hi1];rw [← oG _ hi];rfl)]
 ·intro rb
  simp only [F9,Int.lt_irrefl,Am,reduceCtorEq,Nat.reduceEqDiff,Nat.reduceAdd,Nat.reduceLT,Nat.reduceLeDiff,Nat.beq]
  rw [List.take_length]
  rfl
theorem aff {α:Type} {enc:α→PV} {l:List α} {g:α→List nK} {gf:Nat} {caps:List PV} (hp:∀ x∈l,cal env gf (enc x :: caps)=some [(bC (g x),true)]) (hs:∀ x,part (enc x).cells 0 none=some (enc x)) (hs3:∀ x,(enc x).cells.length=1) (hl:l.length≤lim) :
  cal env 69 [.list 1 (l.map enc),.func gf caps]=some [(.list 1 (l.map fun x=>bC (g x)),true)]:=by
 rw [ah ae6 rfl];simp only [VW];simp only [start,aG,aN,aC,aK,aA,aB,aF,aJ,Nat.reduceAdd,Nat.reduceSub]
 have F1:((l.length:Int)≤(lim:Int))=True:=eq_true (by omega)
 have F2:((0:Int)≤(l.length:Int))=True:=eq_true (by omega)
 simp only [F1,F2,Int.le_refl,aY,reduceCtorEq,Nat.reduceEqDiff,Nat.reduceAdd,Nat.reduceLT,Nat.reduceLeDiff,Nat.beq]
 rw [acG hp hs hs3 hl]
 rotate_left
 ·rfl
 ·simp only [aY,reduceCtorEq,Nat.reduceEqDiff,Nat.reduceAdd,Nat.reduceLT,Nat.reduceLeDiff,Nat.beq]
--+
theorem aac {α:Type} {enc:α→PV} {l:List α} {g:α→Int} {gf:Nat} {caps:List PV} (hp:∀ x∈l,cal env gf (enc x :: caps)=some [(eI (g x),false)]) (hs:∀ x,part (enc x).cells 0 none=some (enc x)) (hs3:∀ x,(enc x).cells.length=1) (hl:l.length≤lim)
  {st:St} (h:st.head [0,1,5,10,11,12,13,22] st.boxes.length=some ⟨[.pv (.list 1 (l.map enc)),.pv (.func gf caps),.any,.any,.any,.row 1 [],.any,.any,.any,.any,.any,.pv (.list 1 (l.map enc)),.pv (.int .i64 l.length),.pv (.int .i64 (0:Nat)),.any,.any,.any,.any,.any,.any,.any,.any,.any,.any,.any],[],[],none⟩) :
  den env Ac st=some (.normal,⟨[.any,.any,.any,.any,.any,.row 1 (l.map fun x=>eI (g x)),.any,.any,.any,.any,.any,.any,.any,.any,.any,.any,.any,.any,.any,.any,.any,.any,.any,.any,.any],[],[],none⟩):=by
 unfold Ac
 rw [bF l.length (fun i=>⟨[.pv (.list 1 (l.map enc)),.pv (.func gf caps),.any,.any,.any,.row 1 ((l.take i).map fun x=>eI (g x)),.any,.any,.any,.any,.any,.pv (.list 1 (l.map enc)),.pv (.int .i64 l.length),.pv (.int .i64 i),.any,.any,.any,.any,.any,.any,.any,.any,.any,.any,.any],[],[],none⟩)
  (fun i=>some (.normal,⟨[.any,.any,.any,.any,.any,.row 1 (l.map fun x=>eI (g x)),.any,.any,.any,.any,.any,.any,.any,.any,.any,.any,.any,.any,.any,.any,.any,.any,.any,.any,.any],[],[],none⟩)) h (fun _=>rfl) (fun _=>rfl) ?_ ?_]
 ·intro i rb hi ih
  have hi1:=bH hi hl
  have F1:((i:Int)<(l.length:Int))=True:=eq_true (by omega)
  have F2:((l.take i).length+1≤lim)=True:=eq_true (by rw [List.length_take];omega)
  have hpi:cal env gf (enc l[i] :: caps)=some [((PV.int .i64 (g l[i])),false)]:=hp _ (List.getElem_mem hi)
  try simp only [nG] at hpi
  simp only [Aa,F1,F2,ak hi,List.getElem?_map,List.getElem?_eq_getElem hi,hpi,hs,hs3,aY,reduceCtorEq,Nat.reduceEqDiff,Nat.reduceAdd,Nat.reduceLT,Nat.reduceLeDiff,Nat.beq]
  rw [ih _ (by simp only [hi1];rw [← oG _ hi];rfl)]
 ·intro rb
  simp only [Aa,Int.lt_irrefl,Am,reduceCtorEq,Nat.reduceEqDiff,Nat.reduceAdd,Nat.reduceLT,Nat.reduceLeDiff,Nat.beq]
  rw [List.take_length]
  rfl
theorem acH {α:Type} {enc:α→PV} {l:List α} {g:α→Int} {gf:Nat} {caps:List PV} (hp:∀ x∈l,cal env gf (enc x :: caps)=some [(eI (g x),false)]) (hs:∀ x,part (enc x).cells 0 none=some (enc x)) (hs3:∀ x,(enc x).cells.length=1) (hl:l.length≤lim) :
  cal env 112 [.list 1 (l.map enc),.func gf caps]=some [(.list 1 (l.map fun x=>eI (g x)),true)]:=by
 rw [ah acz rfl];simp only [Js];simp only [start,aG,aN,aC,aK,aA,aB,aF,aJ,Nat.reduceAdd,Nat.reduceSub]
 have F1:((l.length:Int)≤(lim:Int))=True:=eq_true (by omega)
 have F2:((0:Int)≤(l.length:Int))=True:=eq_true (by omega)
 simp only [F1,F2,Int.le_refl,aY,reduceCtorEq,Nat.reduceEqDiff,Nat.reduceAdd,Nat.reduceLT,Nat.reduceLeDiff,Nat.beq]
 rw [aac hp hs hs3 hl]
 rotate_left
 ·rfl
 ·simp only [aY,reduceCtorEq,Nat.reduceEqDiff,Nat.reduceAdd,Nat.reduceLT,Nat.reduceLeDiff,Nat.beq]
theorem acI {x:Int}:cal env 102 [eI x]=some [(.bool (decide (x<1) || decide (x > 4096)),false)]:=by
 unfold eI
 rw [ah acp rfl];simp only [Jk];simp only [start,aG,aN,aC,aK,aA,aB,aF,aJ,Nat.reduceAdd,Nat.reduceSub]
 simp only [aY,reduceCtorEq,Nat.reduceEqDiff,Nat.reduceAdd,Nat.reduceLT,Nat.reduceLeDiff,Nat.beq]
 (try simp only [dS,fF,dU]);refine dB (fun hb=>?_) (fun hb=>?_)<;>try simp only [hb,aY,reduceCtorEq,Nat.reduceEqDiff,Nat.reduceAdd,Nat.reduceLT,Nat.reduceLeDiff,Nat.beq]
theorem aa4 {l:List Int} (hl:l.length≤lim):cal env 68 [.list 1 (l.map eI)]=some [(.int .i64 (aX l),false)]:=by
 have e1:=W9 (l:=l) (enc:=eI) (fun x _=>acI (x:=x)) (fun x=>rfl) hl
 rw [ah ae5 rfl];simp only [VU];simp only [start,aG,aN,aC,aK,aA,aB,aF,aJ,Nat.reduceAdd,Nat.reduceSub]
 simp only [e1,aY,reduceCtorEq,Nat.reduceEqDiff,Nat.reduceAdd,Nat.reduceLT,Nat.reduceLeDiff,Nat.beq]
 repeat' ((try simp only [dS,fF,dU]);refine dB (fun hb=>?_) (fun hb=>?_)<;>try simp only [hb,e1,aY,reduceCtorEq,Nat.reduceEqDiff,Nat.reduceAdd,Nat.reduceLT,Nat.reduceLeDiff,Nat.beq])
 all_goals grind [aX]
theorem acJ {v:List nK}:cal env 113 [bC v]=some [(eI v.length,false)]:=by
 unfold bC eI
 rw [ah acA rfl];simp only [Jt];simp only [start,aG,aN,aC,aK,aA,aB,aF,aJ,Nat.reduceAdd,Nat.reduceSub]
 simp only [aY,reduceCtorEq,Nat.reduceEqDiff,Nat.reduceAdd,Nat.reduceLT,Nat.reduceLeDiff,Nat.beq]
theorem afg {im:jl} (hl:im.length≤lim):cal env 94 [.list 1 (im.map bC)]=some [(.list 1 ((dD im).map eI),true)]:=by
 have e1:=acH (enc:=bC) (l:=im) (fun x _=>acJ (v:=x)) (fun x=>rfl) (fun x=>rfl) hl
 rw [ah afd rfl];simp only [V4];simp only [start,aG,aN,aC,aK,aA,aB,aF,aJ,Nat.reduceAdd,Nat.reduceSub]
 simp only [e1,aY,reduceCtorEq,Nat.reduceEqDiff,Nat.reduceAdd,Nat.reduceLT,Nat.reduceLeDiff,Nat.beq]
 simp [dD]
theorem aa5 {im:jl} (hl:im.length≤lim):cal env 53 [.list 1 (im.map bC)]=some [(.int .i64 (kN im),false)]:=by
 have h2:(dD im).length≤lim:=by simpa [dD] using hl
 have e1:=afg hl
 have e2:=aa4 h2
 rw [ah aeY rfl];simp only [VL];simp only [start,aG,aN,aC,aK,aA,aB,aF,aJ,Nat.reduceAdd,Nat.reduceSub]
 simp only [e1,e2,aY,reduceCtorEq,Nat.reduceEqDiff,Nat.reduceAdd,Nat.reduceLT,Nat.reduceLeDiff,Nat.beq]
 rfl
theorem afh {n:Int} (h0:0≤n) (h1:n≤4096):cal env 70 [eI n]=some [(bC (List.replicate n.toNat Yu),true)]:=by
 unfold eI bC
 rw [ah ae7 rfl];simp only [VX];simp only [start,aG,aN,aC,aK,aA,aB,aF,aJ,Nat.reduceAdd,Nat.reduceSub]
 have F1:(n≤(lim:Int))=True:=eq_true (by simp [lim];omega)
 simp only [F1,h0,← Nk,kD,aY,reduceCtorEq,Nat.reduceEqDiff,Nat.reduceAdd,Nat.reduceLT,Nat.reduceLeDiff,Nat.beq]
 simp only [List.map_replicate]
 rfl
theorem Xa {l:List Int} (hl:l.length≤lim):cal env 38 [.list 1 (l.map eI)]=some [(.list 1 ((if aX l=0 then dH l else []).map bC),true),(.int .i64 (aX l),false)]:=by
 have e0:=aa4 hl
 by_cases h:aX l=0
 ·have hs:∀ x∈l,1≤x∧x≤4096:=by
   intro x hx
   unfold aX at h
   split at h
   ·omega
   ·split at h
    ·omega
    ·rename_i h2
     simp only [List.any_eq_true,not_exists,not_and,Bool.not_eq_true] at h2
     have:=h2 x hx
     simp at this
     omega
  have e1:=aff (enc:=eI) (g:=fun n=>List.replicate n.toNat Yu) (l:=l) (fun x hx=>afh (n:=x) (by have:=hs x hx;omega) (by have:=hs x hx;omega)) (fun x=>rfl) (fun x=>rfl) hl
  rw [ah aaU rfl];simp only [Ro];simp only [start,aG,aN,aC,aK,aA,aB,aF,aJ,Nat.reduceAdd,Nat.reduceSub]
  simp only [e0,e1,aY,reduceCtorEq,Nat.reduceEqDiff,Nat.reduceAdd,Nat.reduceLT,Nat.reduceLeDiff,Nat.beq]
  (try simp only [dS,fF,dU]);refine dB (fun hb=>?_) (fun hb=>?_)<;>try simp only [hb,e0,e1,aY,reduceCtorEq,Nat.reduceEqDiff,Nat.reduceAdd,Nat.reduceLT,Nat.reduceLeDiff,Nat.beq]
  ·simp [dH,h]
  ·simp at hb;omega
 ·have e1:=e0
  rw [ah aaU rfl];simp only [Ro];simp only [start,aG,aN,aC,aK,aA,aB,aF,aJ,Nat.reduceAdd,Nat.reduceSub]
  simp only [e0,e1,aY,reduceCtorEq,Nat.reduceEqDiff,Nat.reduceAdd,Nat.reduceLT,Nat.reduceLeDiff,Nat.beq]
  (try simp only [dS,fF,dU]);refine dB (fun hb=>?_) (fun hb=>?_)<;>try simp only [hb,e0,e1,aY,reduceCtorEq,Nat.reduceEqDiff,Nat.reduceAdd,Nat.reduceLT,Nat.reduceLeDiff,Nat.beq]
  ·simp at hb;omega
  ·simp [h]
end Go.Proofs.YtpcncggjmabnaaaGreatDoor.V

namespace Go.Proofs.YtpcncggjmabnaaaGreatDoor.V
theorem acK {l:List Int} (hl:l.length≤lim) {st:St} (h:st.head [0,3] st.boxes.length=some ⟨[.pv (.list 1 (l.map eI)),.any,.any,.pv (.int .i64 (0:Nat)),.any,.any,.any,.any,.any,.any,.any,.any,.any,.any,.any,.any,.any,.any,.any,.any,.any,.any,.any,.any,.any,.any,.any,.any,.any,.any],[],[],none⟩) :
  den env FX st=if l.any (fun n=>decide (n<1) || decide (n > 4096)) then some (.ret,⟨[.any,.any,.pv (.int .i64 2),.any,.any,.any,.any,.any,.any,.any,.any,.any,.any,.any,.any,.any,.any,.any,.any,.any,.any,.any,.any,.any,.any,.any,.any,.any,.any,.any],[],[],none⟩) else some (.normal,⟨[.any,.any,.any,.any,.any,.any,.any,.any,.any,.any,.any,.any,.any,.any,.any,.any,.any,.any,.any,.any,.any,.any,.any,.any,.any,.any,.any,.any,.any,.any],[],[],none⟩):=by
 unfold FX
 rw [ bF (env:=env) (l.length) (fun i=>⟨[.pv (.list 1 (l.map eI)),.any,.any,.pv (.int .i64 i),.any,.any,.any,.any,.any,.any,.any,.any,.any,.any,.any,.any,.any,.any,.any,.any,.any,.any,.any,.any,.any,.any,.any,.any,.any,.any],[],[],none⟩) (fun i=>if (l.drop i).any (fun n=>decide (n<1) || decide (n > 4096)) then some (.ret,⟨[.any,.any,.pv (.int .i64 2),.any,.any,.any,.any,.any,.any,.any,.any,.any,.any,.any,.any,.any,.any,.any,.any,.any,.any,.any,.any,.any,.any,.any,.any,.any,.any,.any],[],[],none⟩) else some (.normal,⟨[.any,.any,.any,.any,.any,.any,.any,.any,.any,.any,.any,.any,.any,.any,.any,.any,.any,.any,.any,.any,.any,.any,.any,.any,.any,.any,.any,.any,.any,.any],[],[],none⟩)) h (fun _=>rfl) (fun _=>rfl) ?_ ?_]
 ·first|rfl|simp only [List.drop_zero,List.take_zero,List.map_nil,Nat.zero_add,List.nil_append,List.foldl_nil]
 ·intro i rb hi ih
  have hi1:=bH hi hl;have F1:((i:Int)<(l.length:Int))=True:=eq_true (by omega)
  simp only [FW,eI,F1,ak hi,List.getElem?_map,List.getElem?_eq_getElem hi,aY,reduceCtorEq,Nat.reduceEqDiff,Nat.reduceAdd,Nat.reduceLT,Nat.reduceLeDiff,Nat.beq]
  rw [List.drop_eq_getElem_cons hi]
  repeat' ((try simp only [dS,fF,dU]);refine dB (fun hb=>?_) (fun hb=>?_)<;>try simp only [hb,eI,ak hi,List.getElem?_map,List.getElem?_eq_getElem hi,aY,reduceCtorEq,Nat.reduceEqDiff,Nat.reduceAdd,Nat.reduceLT,Nat.reduceLeDiff,Nat.beq])
  ·rfl
  ·rfl
  ·rw [ih _ (by simp only [hi1];rfl)]
 ·intro rb
  simp only [FW,Int.lt_irrefl,eI,aY,reduceCtorEq,Nat.reduceEqDiff,Nat.reduceAdd,Nat.reduceLT,Nat.reduceLeDiff,Nat.beq]
  rw [List.drop_length]
  rfl
theorem OA {l:List Int} (hl:l.length≤lim):cal env 62 [.list 1 (l.map eI)]=some [(.int .i64 (aX l),false)]:=by
 rw [ah ae3 rfl];simp only [VR];simp only [start,aG,aN,aC,aK,aA,aB,aF,aJ,Nat.reduceAdd,Nat.reduceSub]
 simp only [eI,aY,reduceCtorEq,Nat.reduceEqDiff,Nat.reduceAdd,Nat.reduceLT,Nat.reduceLeDiff,Nat.beq]
 repeat' ((try simp only [dS,fF,dU]);refine dB (fun hb=>?_) (fun hb=>?_)<;>try simp only [hb,eI,aY,reduceCtorEq,Nat.reduceEqDiff,Nat.reduceAdd,Nat.reduceLT,Nat.reduceLeDiff,Nat.beq])
 ·grind [aX]
 ·grind [aX]
 ·rw [acK hl]
  rotate_left
  ·rfl
  ·by_cases h:l.any (fun n=>decide (n<1) || decide (n > 4096))=true
   ·simp only [h,Am,reduceCtorEq,Nat.reduceEqDiff,Nat.reduceAdd,Nat.reduceLT,Nat.reduceLeDiff,Nat.beq]
    grind [aX]
   ·simp only [h,Am,reduceCtorEq,Nat.reduceEqDiff,Nat.reduceAdd,Nat.reduceLT,Nat.reduceLeDiff,Nat.beq]
    grind [aX]
theorem acL {im:jl} (hl:im.length≤lim) {st:St} (h:st.head [0,3,4,18] st.boxes.length=some ⟨[.pv (.list 1 (im.map bC)),.any,.any,.row 1 ((im.take (0:Nat)).map fun v=>eI (v.length:Int)),.pv (.int .i64 (0:Nat)),.any,.any,.any,.any,.any,.any,.any,.any,.any,.any,.any,.any,.any,.any,.any],[],[],none⟩) :
  den env FZ st=some (.normal,⟨[.any,.any,.any,.row 1 (im.map fun v=>eI (v.length:Int)),.any,.any,.any,.any,.any,.any,.any,.any,.any,.any,.any,.any,.any,.any,.any,.any],[],[],none⟩):=by
 unfold FZ
 refine bF (env:=env) (im.length) (fun i=>⟨[.pv (.list 1 (im.map bC)),.any,.any,.row 1 ((im.take i).map fun v=>eI (v.length:Int)),.pv (.int .i64 i),.any,.any,.any,.any,.any,.any,.any,.any,.any,.any,.any,.any,.any,.any,.any],[],[],none⟩) (fun i=>some (.normal,⟨[.any,.any,.any,.row 1 (im.map fun v=>eI (v.length:Int)),.any,.any,.any,.any,.any,.any,.any,.any,.any,.any,.any,.any,.any,.any,.any,.any],[],[],none⟩)) h (fun _=>rfl) (fun _=>rfl) ?_ ?_
 ·intro i rb hi ih
  have hi1:=bH hi hl
  have F1:((i:Int)<(im.length:Int))=True:=eq_true (by omega)
  have F2:((im.take i).length+1≤lim)=True:=eq_true (by rw [List.length_take];omega)
  simp only [FY,F1,F2,bC,ak hi,List.getElem?_map,List.getElem?_eq_getElem hi,aY,reduceCtorEq,Nat.reduceEqDiff,Nat.reduceAdd,Nat.reduceLT,Nat.reduceLeDiff,Nat.beq]
  rw [ih _ (by simp only [hi1];rw [← oG _ hi];rfl)]
 ·intro rb
  simp only [FY,Int.lt_irrefl,aY,reduceCtorEq,Nat.reduceEqDiff,Nat.reduceAdd,Nat.reduceLT,Nat.reduceLeDiff,Nat.beq]
  try rw [List.take_length]
  rfl
theorem afi {im:jl} (hl:im.length≤lim):cal env 66 [.list 1 (im.map bC)]=some [(.list 1 ((dD im).map eI),true)]:=by
 rw [ah ae4 rfl];simp only [VT];simp only [start,aG,aN,aC,aK,aA,aB,aF,aJ,Nat.reduceAdd,Nat.reduceSub]
 simp only [aY,reduceCtorEq,Nat.reduceEqDiff,Nat.reduceAdd,Nat.reduceLT,Nat.reduceLeDiff,Nat.beq]
 rw [acL hl]
 rotate_left
 ·rfl
 ·simp only [aY,reduceCtorEq,Nat.reduceEqDiff,Nat.reduceAdd,Nat.reduceLT,Nat.reduceLeDiff,Nat.beq]
  simp [dD]
theorem afj {im:jl} (hl:im.length≤lim):cal env 57 [.list 1 (im.map bC)]=some [(.int .i64 (kN im),false)]:=by
 have h2:(dD im).length≤lim:=by simpa [dD] using hl
 have e1:=afi hl
 have e2:=OA h2
 rw [ah ae1 rfl];simp only [VP];simp only [start,aG,aN,aC,aK,aA,aB,aF,aJ,Nat.reduceAdd,Nat.reduceSub]
 simp only [e1,e2,aY,reduceCtorEq,Nat.reduceEqDiff,Nat.reduceAdd,Nat.reduceLT,Nat.reduceLeDiff,Nat.beq]
 rfl
theorem getD_get {α:Type} {l:List α} {i:Nat} {d:α} (h:i<l.length):l.getD i d=l[i]:=by simp [List.getD_eq_getElem?_getD,List.getElem?_eq_getElem h]
theorem acM {im:jl} {w:jW} (hl:im.length≤lim) (hr:∀ v∈im,v.length≤lim) (hd:w.data.length≤lim):cal env 118 [.list 1 (im.map bC),iL w]=some [(.int .i64 (dF im w),false)]:=by
 obtain ⟨v,s,d⟩:=w
 simp only [iL] at *
 by_cases h0:0≤v∧v<im.length
 ·have h1:=Dn (k:=.i64) h0.1 h0.2
  have h2:v.toNat<im.length:=by omega
  have h3:=List.getElem?_eq_getElem h2
  have h4:im[v.toNat].length≤lim:=hr _ (List.getElem_mem h2)
  have h5:IntKind.i64.wrap ((im[v.toNat].length:Int) - d.length)=im[v.toNat].length - d.length:=bJ (by unfold lim at *;omega)
  rw [ah WX rfl];simp only [Dq];simp only [start,aG,aN,aC,aK,aA,aB,aF,aJ,Nat.reduceAdd,Nat.reduceSub]
  simp only [h1,h3,h5,bC,List.getElem?_map,aY,reduceCtorEq,Nat.reduceEqDiff,Nat.reduceAdd,Nat.reduceLT,Nat.reduceLeDiff,Nat.beq]
  repeat' ((try simp only [dS,fF,dU]);refine dB (fun hb=>?_) (fun hb=>?_)<;>try simp only [hb,h1,h3,h5,bC,List.getElem?_map,aY,reduceCtorEq,Nat.reduceEqDiff,Nat.reduceAdd,Nat.reduceLT,Nat.reduceLeDiff,Nat.beq])
  all_goals clear h1 h3 h5
  all_goals simp only [dF,getD_get h2,decide_eq_true_eq,decide_eq_false_iff_not,beq_iff_eq,beq_eq_false_iff_ne,ne_eq,ge_iff_le,gt_iff_lt,Bool.and_eq_true,Bool.or_eq_true,Bool.not_eq_true',Bool.not_eq_false'] at *
  all_goals ((repeat' split)<;>first|rfl|(exfalso;omega))
 ·rw [ah WX rfl];simp only [Dq];simp only [start,aG,aN,aC,aK,aA,aB,aF,aJ,Nat.reduceAdd,Nat.reduceSub]
  simp only [bC,List.getElem?_map,yN,aY,reduceCtorEq,Nat.reduceEqDiff,Nat.reduceAdd,Nat.reduceLT,Nat.reduceLeDiff,Nat.beq]
  repeat' ((try simp only [dS,fF,dU]);refine dB (fun hb=>?_) (fun hb=>?_)<;>try simp only [hb,bC,List.getElem?_map,yN,aY,reduceCtorEq,Nat.reduceEqDiff,Nat.reduceAdd,Nat.reduceLT,Nat.reduceLeDiff,Nat.beq])
  all_goals simp only [dF,decide_eq_true_eq,decide_eq_false_iff_not,beq_iff_eq,beq_eq_false_iff_ne,ne_eq,ge_iff_le,gt_iff_lt,Bool.and_eq_true,Bool.or_eq_true,Bool.not_eq_true',Bool.not_eq_false'] at *
  all_goals ((repeat' split)<;>first|rfl|(exfalso;omega))
theorem afk {im:jl} {w:jW} (hl:im.length≤lim) (hr:∀ v∈im,v.length≤lim) (hd:w.data.length≤lim):cal env 65 [.list 1 ((dD im).map eI),iL w]=some [(.int .i64 (dF im w),false)]:=by
 obtain ⟨v,s,d⟩:=w
 simp only [iL,dD,List.map_map] at *
 by_cases h0:0≤v∧v<im.length
 ·have h1:=Dn (k:=.i64) h0.1 h0.2
  have h2:v.toNat<im.length:=by omega
  have h3:=List.getElem?_eq_getElem h2
  have h4:im[v.toNat].length≤lim:=hr _ (List.getElem_mem h2)
  by_cases h6:0≤s∧s<im[v.toNat].length
  ·have h5:IntKind.i64.wrap ((im[v.toNat].length:Int) - s)=im[v.toNat].length - s:=bJ (by unfold lim at *;omega)
   rw [ah WT rfl];simp only [Nc];simp only [start,aG,aN,aC,aK,aA,aB,aF,aJ,Nat.reduceAdd,Nat.reduceSub]
   simp only [h1,h3,h5,eI,List.getElem?_map,Function.comp_apply,aY,reduceCtorEq,Nat.reduceEqDiff,Nat.reduceAdd,Nat.reduceLT,Nat.reduceLeDiff,Nat.beq]
   repeat' ((try simp only [dS,fF,dU]);refine dB (fun hb=>?_) (fun hb=>?_)<;>try simp only [hb,h1,h3,h5,eI,List.getElem?_map,Function.comp_apply,aY,reduceCtorEq,Nat.reduceEqDiff,Nat.reduceAdd,Nat.reduceLT,Nat.reduceLeDiff,Nat.beq])
   all_goals clear h1 h3 h5
   all_goals simp only [dF,getD_get h2,decide_eq_true_eq,decide_eq_false_iff_not,beq_iff_eq,beq_eq_false_iff_ne,ne_eq,ge_iff_le,gt_iff_lt,Bool.and_eq_true,Bool.or_eq_true,Bool.not_eq_true',Bool.not_eq_false'] at *
   all_goals ((repeat' split)<;>first|rfl|(exfalso;omega))
  ·--
   rw [ah WT rfl];simp only [Nc];simp only [start,aG,aN,aC,aK,aA,aB,aF,aJ,Nat.reduceAdd,Nat.reduceSub]
   simp only [h1,h3,eI,List.getElem?_map,Function.comp_apply,aY,reduceCtorEq,Nat.reduceEqDiff,Nat.reduceAdd,Nat.reduceLT,Nat.reduceLeDiff,Nat.beq]
   repeat' ((try simp only [dS,fF,dU]);refine dB (fun hb=>?_) (fun hb=>?_)<;>try simp only [hb,h1,h3,eI,List.getElem?_map,Function.comp_apply,aY,reduceCtorEq,Nat.reduceEqDiff,Nat.reduceAdd,Nat.reduceLT,Nat.reduceLeDiff,Nat.beq])
   all_goals clear h1 h3
   all_goals simp only [dF,getD_get h2,decide_eq_true_eq,decide_eq_false_iff_not,beq_iff_eq,beq_eq_false_iff_ne,ne_eq,ge_iff_le,gt_iff_lt,Bool.and_eq_true,Bool.or_eq_true,Bool.not_eq_true',Bool.not_eq_false'] at *
   all_goals first|(exfalso;omega)|((repeat' split)<;>first|rfl|(exfalso;omega))
 ·rw [ah WT rfl];simp only [Nc];simp only [start,aG,aN,aC,aK,aA,aB,aF,aJ,Nat.reduceAdd,Nat.reduceSub]
  simp only [eI,List.getElem?_map,yN,Function.comp_apply,aY,reduceCtorEq,Nat.reduceEqDiff,Nat.reduceAdd,Nat.reduceLT,Nat.reduceLeDiff,Nat.beq]
  repeat' ((try simp only [dS,fF,dU]);refine dB (fun hb=>?_) (fun hb=>?_)<;>try simp only [hb,eI,List.getElem?_map,yN,Function.comp_apply,aY,reduceCtorEq,Nat.reduceEqDiff,Nat.reduceAdd,Nat.reduceLT,Nat.reduceLeDiff,Nat.beq])
  all_goals simp only [dF,decide_eq_true_eq,decide_eq_false_iff_not,beq_iff_eq,beq_eq_false_iff_ne,ne_eq,ge_iff_le,gt_iff_lt,Bool.and_eq_true,Bool.or_eq_true,Bool.not_eq_true',Bool.not_eq_false'] at *
  all_goals first|(exfalso;omega)|((repeat' split)<;>first|rfl|(exfalso;omega))
theorem acN {im:jl} {w:jW} (hl:im.length≤lim) (hr:∀ v∈im,v.length≤lim) (hd:w.data.length≤lim):cal env 106 [.list 1 (im.map bC),iL w]=some [(.int .i64 (Aq im w),false)]:=by
 have e1:=aa5 hl
 have e2:=acM (w:=w) hl hr hd
 simp only [iL] at *
 rw [ah acv rfl];simp only [Jp];simp only [start,aG,aN,aC,aK,aA,aB,aF,aJ,Nat.reduceAdd,Nat.reduceSub]
 simp only [e1,e2,aY,reduceCtorEq,Nat.reduceEqDiff,Nat.reduceAdd,Nat.reduceLT,Nat.reduceLeDiff,Nat.beq]
 repeat' ((try simp only [dS,fF,dU]);refine dB (fun hb=>?_) (fun hb=>?_)<;>try simp only [hb,e1,e2,aY,reduceCtorEq,Nat.reduceEqDiff,Nat.reduceAdd,Nat.reduceLT,Nat.reduceLeDiff,Nat.beq])
 all_goals simp only [Aq,decide_eq_true_eq,decide_eq_false_iff_not,beq_iff_eq,beq_eq_false_iff_ne,ne_eq,ge_iff_le,gt_iff_lt,Bool.and_eq_true,Bool.or_eq_true,Bool.not_eq_true',Bool.not_eq_false'] at *
 all_goals ((repeat' split)<;>first|rfl|(exfalso;omega))
end Go.Proofs.YtpcncggjmabnaaaGreatDoor.V

namespace Go.Proofs.YtpcncggjmabnaaaGreatDoor
noncomputable def iter (env:Env) (f:Nat) (caps:List PV) (stop:Option Nat):Option (List (List PV)):=iY (den env) env f caps stop
def Xb (n:Nat) (caps:List PV) (stop:Option Nat):St:=⟨.o8 :: (caps.map .pv++List.replicate (n - (caps.length+1)) .any),[],[],some stop⟩
def acO:Ex × St→Option (List (List PV))
 |(.exit _,_)=>none
 |(.lU _ _,_)=>none
 |(_,st)=>some st.ys
section
variable {env:Env}
theorem JB (st:St):acO (.normal,st)=some st.ys:=(rfl)
theorem Xc (st:St):acO (.ret,st)=some st.ys:=(rfl)
theorem RG {f:Nat} {fn:eX} {caps:List PV} {stop:Option Nat} (h:env f=some (.code fn)) (hl:caps.length+1=fn.nargs) (hr:fn.results.isEmpty=true):iter env f caps stop=(den env fn.body (Xb fn.ntmps caps stop)).bind acO:=by
 unfold iter iY
 rw [h]
 simp only [if_pos (And.intro hl hr)]
 show (den env fn.body _).bind _=_
 congr 1
 funext ⟨e,st⟩
 cases e<;>rfl
noncomputable def Ar (env:Env) (slots:List AV) (ps:List Nat) (assign body:au) (nb:Nat) (x:List PV) (st:St):Option (Ex × St) :=
 (eG slots ps x).bind fun sl=>(den env assign { st with slots:=sl }).bind fun p=>match p with
  |(.normal,st)=>(den env body st).bind fun p=>match p with
   |(.normal,st)=>if nb≤st.boxes.length then some (.normal,{ st with boxes:=st.boxes.take nb }) else none
   |(.lU _ _,_)=>none
   |p=>some p
  |_=>none
theorem JC {slots:List AV} {ps:List Nat} {assign body:au} {nb k:Nat} {x:List PV} {xs:List (List PV)} {st:St} :
  rounds (den env) slots ps assign body nb k (x :: xs) st=(Ar env slots ps assign body nb x st).bind fun p=>match p with
   |(.normal,st)=>rounds (den env) slots ps assign body nb (k+1) xs st
   |(e,st)=>some (some (e,k+1),st):=by
 conv=>lhs;unfold rounds
 unfold Ar
 show (eG slots ps x).bind _=_
 cases eG slots ps x with
 |none=>rfl
 |some sl =>
  simp only [Option.bind_some]
  show (den env assign _).bind _=_
  cases den env assign { st with slots:=sl } with
  |none=>rfl
  |some p =>
   obtain ⟨e,s⟩:=p
   simp only [Option.bind_some]
   cases e with
   |normal =>
    simp only
    show (den env body _).bind _=_
    cases den env body s with
    |none=>rfl
    |some p =>
     obtain ⟨e,s⟩:=p
     simp only [Option.bind_some]
     cases e with
     |normal =>
      simp only
      split<;>rfl
     |exit i=>rfl
     |ret=>rfl
     |lU t n=>rfl
   |exit i=>rfl
   |ret=>rfl
   |lU t n=>rfl
theorem aad {g:bM} {ps:List Nat} {assign body:au} {st st1:St} {f:Nat} {caps:List PV} {xs:List (List PV)} (hg:st.bW g=some (.func f caps)) (hi:iter env f caps none=some xs)
  (hr:rounds (den env) (st.slots.map AV.froze) ps assign body st.boxes.length 0 xs { st with slots:=st.slots.map AV.froze }=some (none,st1)):den env (.rng g ps assign body) st=some (.normal,{ st1 with slots:=st.slots.map AV.froze }):=by
 rw [kL]
 show ranged (den env) env g ps assign body st=_
 unfold ranged
 rw [hg]
 unfold iter at hi
 simp only [Dj,Option.bind_some,hi,hr]
theorem aae (B:Nat→List Box) {g:bM} {ps:List Nat} {assign body:au} {st:St} {f:Nat} {caps:List PV} {xs:List (List PV)} (hg:st.bW g=some (.func f caps)) (hi:iter env f caps none=some xs) (hB:st.boxes=B 0)
  (h:∀ j x,xs[j]?=some x→∀ sl0,∃ sl1,Ar env (st.slots.map AV.froze) ps assign body st.boxes.length x ⟨sl0,B j,st.ys,st.stop⟩=some (.normal,⟨sl1,B (j+1),st.ys,st.stop⟩)) :
  den env (.rng g ps assign body) st=some (.normal,⟨st.slots.map AV.froze,B xs.length,st.ys,st.stop⟩):=by
 have key:∀ (l:List (List PV)) (j:Nat),xs.drop j=l→∀ (k:Nat) (sl0:List AV),∃ sl1,rounds (den env) (st.slots.map AV.froze) ps assign body st.boxes.length k l ⟨sl0,B j,st.ys,st.stop⟩=some (none,⟨sl1,B (j+l.length),st.ys,st.stop⟩):=by
  intro l
  induction l with
  |nil=>intro j _ k sl0;exact ⟨sl0,rfl⟩
  |cons x l ih =>
   intro j hj k sl0
   have hx:xs[j]?=some x:=by rw [← List.head?_drop,hj];rfl
   have hd:xs.drop (j+1)=l:=by rw [← List.drop_drop,hj];rfl
   obtain ⟨sl1,q⟩:=h j x hx sl0
   obtain ⟨sl2,q2⟩:=ih (j+1) hd (k+1) sl1
   refine ⟨sl2,?_⟩
   rw [JC,q]
   simp only [Option.bind_some,q2,List.length_cons]
   rw [show j+1+l.length=j+(l.length+1) by omega]
 obtain ⟨sl1,q⟩:=key xs 0 (by simp) 0 (st.slots.map AV.froze)
 rw [← hB,Nat.zero_add] at q
 have r:=aad hg hi q
 exact r
theorem Dv {keep post:List Nat} {id nb:Nat} {b:au} (n:Nat) (P:Nat→Prop) (S:Nat→St) (R:Nat→Option (Ex × St)) {st:St} (h:st.head keep st.boxes.length=some (S 0)) (hP:P 0) (hS:∀ i,(S i).boxes.length=nb) (hh:∀ i,(S i).head keep nb=some (S i))
  (step:∀ i rb,i<n→P i→(P (i+1)→∀ s,s.head keep nb=some (S (i+1))→jE env id post nb (den env rb s)=R (i+1))→jE env id post nb ((den env b (S i)).bind (next env rb))=R i)
  (last:∀ rb,P n→jE env id post nb ((den env b (S n)).bind (next env rb))=R n) :
  den env (.clean keep post (.block id (.loop keep b))) st=R 0:=by
 refine wJ S R (fun i=>i≤n∧P i) (fun i=>n - i) 0 h ⟨Nat.zero_le _,hP⟩ hS hh fun i rb hi ih=>?_
 by_cases hn:i=n
 ·subst hn;exact last rb hi.2
 ·exact step i rb (by omega) hi.2 fun hp s hs=>ih (i+1) (by omega) ⟨by omega,hp⟩ s hs
noncomputable def OB (env:Env) (body:au) (nb:Nat):Ex × St→Option (Ex × St)
 |(.normal,st)=>(den env body st).bind fun p=>match p with
  |(.normal,st)=>if nb≤st.boxes.length then some (.normal,{ st with boxes:=st.boxes.take nb }) else none
  |(.lU _ _,_)=>none
  |p=>some p
 |_=>none
def rend (nb:Nat):Ex × St→Option (Ex × St)
 |(.normal,st)=>if nb≤st.boxes.length then some (.normal,{ st with boxes:=st.boxes.take nb }) else none
 |(.lU _ _,_)=>none
 |p=>some p
theorem RH (slots:List AV) (ps:List Nat) (assign body:au) (nb:Nat) (x:List PV) (st:St):Ar env slots ps assign body nb x st=(eG slots ps x).bind fun sl=>(den env assign { st with slots:=sl }).bind (OB env body nb):=by
 unfold Ar
 rfl
theorem Au (body:au) (nb:Nat) (st:St):OB env body nb (.normal,st)=(den env body st).bind (rend nb):=by
 rfl
theorem JD (nb:Nat) (st:St):rend nb (.normal,st)=if nb≤st.boxes.length then some (.normal,{ st with boxes:=st.boxes.take nb }) else none:=(rfl)
theorem RI (nb i:Nat) (st:St):rend nb (.exit i,st)=some (.exit i,st):=(rfl)
theorem Xd (nb:Nat) (st:St):rend nb (.ret,st)=some (.ret,st):=(rfl)
theorem Xe (slots:List AV):eG slots [] []=some slots:=(rfl)
theorem RJ (slots:List AV) (p:Nat) (ps:List Nat) (v:PV) (vs:List PV):eG slots (p :: ps) (v :: vs)=eG (slots.set p (.pv v)) ps vs:=(rfl)
theorem Xf (v:PV):AV.froze (.pv v)=.pv v:=(rfl)
theorem RN (sz:Nat) (es:List PV):AV.froze (.row sz es)=.pv (.list sz es):=(rfl)
theorem RP:AV.froze .any=.any:=(rfl)
theorem RQ (k:Bool) (l:List AV):AV.froze (.jA k l)=.any:=(rfl)
theorem RS (r:Root) (i j:Nat):AV.froze (.ref r i j)=.any:=(rfl)
theorem RU (r:Root) (i j:Nat):AV.froze (.lM r i j)=.any:=(rfl)
theorem Nl (i j:Nat):AV.froze (.aS i j)=.aS i j:=(rfl)
theorem Xg (f:Nat) (l:List AV):AV.froze (.fn f l)=.fn f l:=(rfl)
theorem RV:AV.froze .o8=.o8:=(rfl)
end
def RX:=And.intro @RH (And.intro @Au (And.intro @JD (And.intro @RI (And.intro @Xd (And.intro @Xe (And.intro @RJ (And.intro @Xf (And.intro @RN (And.intro @RP (And.intro @RQ (And.intro @RS (And.intro @RU (And.intro @Nl (And.intro @Xg (And.intro @RV (And.intro @JB @Xc))))))))))))))))
end Go.Proofs.YtpcncggjmabnaaaGreatDoor

namespace Go.Proofs.YtpcncggjmabnaaaGreatDoor.V
def xZ (out:List uw) (i:Nat):List uw:=match out.getLast? with
 |some x=>if x.start+x.count=(i:Int) then out.dropLast++[⟨x.start,x.count+1⟩] else out++[⟨i,1⟩]
 |none=>[⟨i,1⟩]
def exts (l:List Nat):List uw:=l.foldl xZ []
theorem jS (pre:List uw) (x:uw) (i:Nat):xZ (pre++[x]) i=if x.start+x.count=(i:Int) then pre++[⟨x.start,x.count+1⟩] else pre++[x]++[⟨i,1⟩]:=by
 simp [xZ]
theorem kY (l:List Nat) (i:Nat):exts (l++[i])=xZ (exts l) i:=by simp [exts]
theorem ng {α:Type} (l:List α):l=[]∨∃ p x,l=p++[x]:=by
 rcases List.eq_nil_or_concat l with h|⟨p,x,h⟩
 ·exact .inl h
 ·exact .inr ⟨p,x,by rw [h];simp⟩
theorem Dw:∀ (n:Nat) (l:List Nat),l.length=n→∀ i:Nat,∃ pre x,exts (l++[i])=pre++[x]∧x.start+x.count=(i:Int)+1∧0≤x.start∧1≤x.count∧pre.length≤l.length:=by
 intro n
 induction n with
 |zero =>
  intro l hl i
  have:=List.eq_nil_of_length_eq_zero hl
  subst this
  exact ⟨[],⟨i,1⟩,rfl,rfl,by simp,by simp,by simp⟩
 |succ n ih =>
  intro l hl i
  rcases ng l with rfl|⟨p,j,rfl⟩
  ·simp at hl
  ·obtain ⟨pre,x,e,h1,h2,h3,h4⟩:=ih p (by simpa using hl) j
   rw [kY,e,jS]
   split
   ·rename_i hx
    exact ⟨pre,_,rfl,by simp;omega,h2,by simp;omega,by simp;omega⟩
   ·exact ⟨pre++[x],_,rfl,by simp,by simp,by simp,by simp;omega⟩
theorem Dx {n:Nat} (h:n≤lim):IntKind.i64.wrap (((n+1:Nat):Int) - 1)=(n:Int):=by
 rw [bJ (by unfold lim at h;omega)];omega
def yI (l:List Nat):List (List PV):=l.map fun (i:Nat)=>[PV.int .i64 (i:Int)]
end Go.Proofs.YtpcncggjmabnaaaGreatDoor.V

namespace Go.Proofs.YtpcncggjmabnaaaGreatDoor.V
def ext (p:Nat→Bool) (n:Nat):List uw:=exts ((List.range n).filter p)
theorem JE (p:Nat→Bool) (n:Nat):ext p (n+1)=if p n then xZ (ext p n) n else ext p n:=by
 unfold ext
 rw [List.range_succ,List.filter_append]
 cases h:p n
 ·simp [h]
 ·rw [List.filter_cons_of_pos h,List.filter_nil,kY];rfl
def dep (i:Nat) (s:Nat):List End→Int
 |[]=>0
 |x :: l=>(if x.list=i∧x.pos≤s then x.step else 0)+dep i s l
def Asc:List End→Prop
 |[]=>True
 |[_]=>True
 |x :: y :: l=>x.pos≤y.pos∧Asc (y :: l)
theorem Asc.tail {x:End} {l:List End} (h:Asc (x :: l)):Asc l:=by
 cases l with
 |nil=>trivial
 |cons y l=>exact h.2
end Go.Proofs.YtpcncggjmabnaaaGreatDoor.V

namespace Go.Proofs.YtpcncggjmabnaaaGreatDoor.V
abbrev Wd:=BitVec 64
structure Bm where
 size:Int
 ws:List Wd
 deriving DecidableEq
def eW (w:Wd):PV:=.int .u64 (w.toNat:Int)
def iZ (b:Bm):PV:=.agg [.int .i64 b.size,.list 1 (b.ws.map eW)]
def bit (ws:List Wd) (i:Nat):Bool:=(ws.getD (i / 64) 0).getLsbD (i % 64)
theorem Np {ws:List Wd} {k:Nat} (h:k<ws.length) {j:Nat} (hj:j<64):bit ws (64 * k+j)=ws[k].getLsbD j:=by
 unfold bit
 have e1:(64 * k+j) / 64=k:=by omega
 have e2:(64 * k+j) % 64=j:=by omega
 rw [e1,e2];simp [h]
theorem acP {ws:List Wd} {i:Nat} (h:i / 64<ws.length):bit ws i=ws[i / 64].getLsbD (i % 64):=by
 unfold bit;simp [h]
theorem Gq {ws:List Wd} {i:Nat} (h:64 * ws.length≤i):bit ws i=false:=by
 unfold bit
 have:ws.length≤i / 64:=by omega
 rw [List.getD_eq_getElem?_getD,List.getElem?_eq_none this];simp
theorem afl (w:Wd):BitVec.ofInt 64 (w.toNat:Int)=w:=by
 apply BitVec.eq_of_toNat_eq
 have:=w.isLt
 rw [BitVec.toNat_ofInt]
 omega
theorem JF (n:Int):IntKind.u64.wrap n=n % 2 ^ 64:=by
 simp only [IntKind.wrap,IntKind.bits,IntKind.signed,Bool.false_and,Bool.false_eq_true,if_false]
theorem acQ (w:Wd):IntKind.u64.wrap (w.toNat:Int)=(w.toNat:Int):=by
 have:=w.isLt
 simp only [IntKind.wrap,IntKind.bits,IntKind.signed,Bool.false_and,Bool.false_eq_true,if_false]
 omega
theorem Xh (a b:Wd):IntKind.u64.wrap ((BitVec.ofInt IntKind.u64.bits (a.toNat:Int) &&& BitVec.ofInt IntKind.u64.bits (b.toNat:Int)).toNat:Int)=((a &&& b).toNat:Int):=by
 show IntKind.u64.wrap ((BitVec.ofInt 64 (a.toNat:Int) &&& BitVec.ofInt 64 (b.toNat:Int)).toNat:Int)=_
 rw [afl,afl,acQ]
theorem Xi (w:Wd) {s:Int} {n:Nat} (hs:s=(n:Int)):(w.toNat:Int).fdiv (2 ^ (min s.toNat IntKind.u64.bits))=((w >>> n).toNat:Int):=by
 subst hs
 rw [BitVec.toNat_ushiftRight,Nat.shiftRight_eq_div_pow,Int.toNat_natCast]
 have hw:=w.isLt
 show (w.toNat:Int).fdiv (2 ^ (min n 64))=_
 by_cases h:n≤64
 ·have h2:(0:Int)≤2 ^ n:=by have:=Int.natCast_nonneg (2 ^ n);push_cast at this;exact this
  rw [Nat.min_eq_left h,Int.fdiv_eq_ediv_of_nonneg _ h2]
  push_cast
  rfl
 ·rw [Nat.min_eq_right (by omega),Int.fdiv_eq_ediv_of_nonneg _ (by decide)]
  have h1:w.toNat / 2 ^ n=0:=Nat.div_eq_of_lt (Nat.lt_of_lt_of_le hw (Nat.pow_le_pow_right (by decide) (by omega)))
  rw [h1]
  omega
theorem afm (w:Wd) {s:Int} {n:Nat} (hs:s=(n:Int)):IntKind.u64.wrap ((w.toNat:Int) * 2 ^ (min s.toNat IntKind.u64.bits))=((w <<< n).toNat:Int):=by
 subst hs
 rw [BitVec.toNat_shiftLeft,Nat.shiftLeft_eq,Int.toNat_natCast]
 have hw:=w.isLt
 rw [JF]
 show ((w.toNat:Int) * 2 ^ (min n 64)) % 2 ^ 64=_
 by_cases h:n≤64
 ·have e2:((2 ^ n:Nat):Int)=2 ^ n:=by push_cast;rfl
  have e3:((2 ^ 64:Nat):Int)=2 ^ 64:=by decide
  rw [Nat.min_eq_left h,Int.natCast_emod,Int.natCast_mul,e2,e3]
 ·rw [Nat.min_eq_right (by omega)]
  have e:2 ^ n=2 ^ 64 * 2 ^ (n - 64):=by rw [← Nat.pow_add];congr 1;omega
  have:w.toNat * 2 ^ n % 2 ^ 64=0:=by
   rw [e,Nat.mul_left_comm];exact Nat.mul_mod_right _ _
  rw [this]
  exact Int.mul_emod_left _ _
theorem afn (a b:Wd):IntKind.u64.wrap ((a.toNat:Int) - (b.toNat:Int))=((a - b).toNat:Int):=by
 have h1:=a.isLt
 have h2:=b.isLt
 simp only [IntKind.wrap,IntKind.bits,IntKind.signed,Bool.false_and,Bool.false_eq_true,if_false]
 rw [BitVec.toNat_sub]
 omega
theorem OC (a b:Wd):((a.toNat:Int)==(b.toNat:Int))=decide (a=b):=by
 by_cases h:a=b
 ·subst h;simp
 ·have:a.toNat≠b.toNat:=fun e=>h (BitVec.eq_of_toNat_eq e)
  simp [h];omega
def Aw (k:Nat) (a b:Int):Wd :=
 if max (a - 64 * (k:Int)) 0 ≥ min (b - 64 * (k:Int)) 64 then 0
 else (BitVec.allOnes 64 >>> (64 - (min (b - 64 * (k:Int)) 64 - max (a - 64 * (k:Int)) 0)).toNat) <<< (max (a - 64 * (k:Int)) 0).toNat
theorem Xj (k:Nat) (a b:Int) {j:Nat} (hj:j<64):(Aw k a b).getLsbD j=decide (a≤64 * (k:Int)+j∧64 * (k:Int)+j<b):=by
 unfold Aw
 split
 ·rename_i h
  rw [show (0:Wd).getLsbD j=false by simp]
  symm
  apply decide_eq_false
  omega
 ·rename_i h
  rw [BitVec.getLsbD_shiftLeft,BitVec.getLsbD_ushiftRight,BitVec.getLsbD_allOnes]
  rw [Bool.eq_iff_iff]
  simp only [Bool.and_eq_true,decide_eq_true_eq,Bool.not_eq_true',decide_eq_false_iff_not]
  omega
def bitsOf (w:Wd):List Nat:=(List.range 64).filter fun j=>w.getLsbD j
theorem RY:bitsOf 0=[]:=by
 unfold bitsOf
 rw [List.filter_eq_nil_iff]
 intro j _
 simp
theorem OD {w:Wd} (h:w≠0):Lib.ctz 64 w.toNat<64∧(∀ j,j<Lib.ctz 64 w.toNat→w.getLsbD j=false)∧w.getLsbD (Lib.ctz 64 w.toNat)=true∧∀ j,j<64→(w &&& (w - 1)).getLsbD j=(w.getLsbD j&&decide (j≠Lib.ctz 64 w.toNat)):=by
 have h0:0<w.toNat:=by
  rcases Nat.eq_zero_or_pos w.toNat with e|e
  ·exact absurd (BitVec.eq_of_toNat_eq (by simpa using e)) h
  ·exact e
 have hl:Lib.ctz 64 w.toNat=Lib.ctzFrom 64 w.toNat:=by unfold Lib.ctz;rw [if_neg (by omega)]
 rw [hl]
 obtain ⟨m,h1,h2⟩:=Lib.ctzFrom_spec 64 w.toNat h0 w.isLt
 generalize Lib.ctzFrom 64 w.toNat=c at h1 h2
 have hbit:∀ j,w.getLsbD j=if j<c then false else (2 * m+1).testBit (j - c):=fun j=>by
  rw [← BitVec.testBit_toNat,h1,Nat.testBit_two_pow_mul]
  by_cases hc:j<c
  ·rw [if_pos hc,decide_eq_false (by omega),Bool.false_and]
  ·rw [if_neg hc,decide_eq_true (by omega),Bool.true_and]
 have hsub:(w - 1).toNat=2 ^ c * (2 * m)+(2 ^ c - 1):=by
  have hp:0<2 ^ c:=Nat.pow_pos (by decide)
  rw [BitVec.toNat_sub]
  have:=w.isLt
  have e1:(1:Wd).toNat=1:=rfl
  rw [e1,show 2 ^ 64 - 1+w.toNat=(w.toNat - 1)+2 ^ 64 by omega,Nat.add_mod_right,Nat.mod_eq_of_lt (by omega),h1,Nat.mul_add,Nat.mul_one]
  omega
 have afo:∀ j,(w - 1).getLsbD j=if j<c then true else (2 * m).testBit (j - c):=fun j=>by
  rw [← BitVec.testBit_toNat,hsub]
  have hp:2 ^ c - 1<2 ^ c:=by have:0<2 ^ c:=Nat.pow_pos (by decide);omega
  by_cases hc:j<c
  ·rw [if_pos hc,Nat.testBit_two_pow_mul_add _ hp,if_pos hc,Nat.testBit_two_pow_sub_one]
   simp [hc]
  ·rw [if_neg hc,Nat.testBit_two_pow_mul_add _ hp,if_neg hc]
 refine ⟨h2,fun j hj=>by rw [hbit,if_pos hj],by rw [hbit,if_neg (Nat.lt_irrefl _),Nat.sub_self];simp,fun j hj=>?_⟩
 rw [BitVec.getLsbD_and,hbit,afo]
 by_cases hc:j<c
 ·simp [hc]
 ·rw [if_neg hc,if_neg hc]
  by_cases he:j=c
  ·subst he;simp
  ·obtain ⟨d,hd⟩:∃ d,j - c=d+1:=⟨j - c - 1,by omega⟩
   rw [hd,Nat.testBit_succ,Nat.testBit_succ,show (2 * m+1) / 2=m by omega,show 2 * m / 2=m by omega]
   simp [he]
theorem Gs {p q:Nat→Bool} {c n:Nat} (hc:c<n) (hlow:∀ j,j<c→p j=false) (hp:p c=true) (hq:∀ j,j<n→q j=(p j&&decide (j≠c))):(List.range n).filter p=c :: (List.range n).filter q:=by
 have e:List.range n=List.range c++(c :: (List.range (n - c - 1)).map (c+1+·)):=by
  apply List.ext_getElem
  ·simp;omega
  ·intro i h1 h2
   simp only [List.length_range] at h1
   rw [List.getElem_range,List.getElem_append]
   split
   ·simp
   ·rename_i h
    simp only [List.length_range] at h ⊢
    obtain ⟨d,hd⟩:∃ d,i=c+d:=⟨i - c,by omega⟩
    subst hd
    cases d with
    |zero=>simp
    |succ d=>simp [show c+(d+1) - c=d+1 by omega];omega
 have hq':∀ j,j∈List.range n→q j=(p j&&decide (j≠c)):=fun j hj=>hq j (List.mem_range.1 hj)
 rw [List.filter_congr hq',e,List.filter_append,List.filter_append]
 have h1:(List.range c).filter p=[]:=by
  rw [List.filter_eq_nil_iff];intro j hj;rw [hlow j (List.mem_range.1 hj)];simp
 have h2:(List.range c).filter (fun j=>p j&&decide (j≠c))=[]:=by
  rw [List.filter_eq_nil_iff];intro j hj;rw [hlow j (List.mem_range.1 hj)];simp
 rw [h1,h2,List.nil_append,List.nil_append,List.filter_cons_of_pos hp,List.filter_cons_of_neg (by simp)]
 congr 1
 apply List.filter_congr
 intro j hj
 obtain ⟨d,_,rfl⟩:=List.mem_map.1 hj
 simp;omega
theorem RZ {w:Wd} (h:w≠0):bitsOf w=Lib.ctz 64 w.toNat :: bitsOf (w &&& (w - 1)):=by
 obtain ⟨h1,h2,h3,h4⟩:=OD h
 exact Gs h1 h2 h3 h4
def qY (ws:List Wd) (a b:Int):List Nat:=(List.range (64 * ws.length)).filter fun (i:Nat)=>bit ws i&&decide (a≤(i:Int)∧(i:Int)<b)
theorem range_add (n m:Nat):List.range (n+m)=List.range n++(List.range m).map (n+·):=List.range_add
theorem Nq {ws:List Wd} {k:Nat} (h:k<ws.length) (a b:Int):(List.range (64 * (k+1))).filter (fun (i:Nat)=>bit ws i&&decide (a≤(i:Int)∧(i:Int)<b))
  = (List.range (64 * k)).filter (fun (i:Nat)=>bit ws i&&decide (a≤(i:Int)∧(i:Int)<b))++(bitsOf (ws[k] &&& Aw k a b)).map (64 * k+·):=by
 rw [show 64 * (k+1)=64 * k+64 by omega,List.range_add,List.filter_append,List.filter_map]
 congr 2
 unfold bitsOf
 apply List.filter_congr
 intro j hj
 have hj:=List.mem_range.1 hj
 rw [BitVec.getLsbD_and,Xj k a b hj]
 show (bit ws (64 * k+j)&&_)=_
 rw [Np h hj]
 push_cast
 rfl
def mF (n:Int):Int:=(n+63) / 64
def okB (b:Bm):Bool:=decide (0≤b.size∧b.size≤4096∧(b.ws.length:Int)=mF b.size)&&(List.range (64 * b.ws.length)).all fun (i:Nat)=>decide ((i:Int)<b.size) || !bit b.ws i
theorem rX {b:Bm}:okB b=true ↔ (0≤b.size∧b.size≤4096∧(b.ws.length:Int)=mF b.size)∧∀ i:Nat,b.size≤(i:Int)→bit b.ws i=false:=by
 unfold okB
 simp only [Bool.and_eq_true,decide_eq_true_eq,List.all_eq_true,List.mem_range,Bool.or_eq_true,Bool.not_eq_true']
 refine and_congr Iff.rfl ⟨fun h i hi=>?_,fun h i hi=>?_⟩
 ·by_cases c:i<64 * b.ws.length
  ·exact (h i c).resolve_left (by omega)
  ·exact Gq (by omega)
 ·by_cases c:(i:Int)<b.size
  ·exact .inl c
  ·exact .inr (h i (by omega))
theorem lK {b:Bm} (h:okB b=true):0≤b.size∧b.size≤4096∧b.ws.length≤64∧b.size≤64 * (b.ws.length:Int)∧64 * (b.ws.length:Int)<b.size+64:=by
 have:=(rX.1 h).1
 unfold mF at this
 omega
theorem Xk {b:Bm} (h:0≤b.size∧b.size≤4096∧(b.ws.length:Int)=mF b.size):okB b=true ↔ (b.size % 64=0∨∀ (hw:b.ws.length - 1<b.ws.length),b.ws[b.ws.length - 1] >>> (b.size % 64).toNat=0):=by
 rw [rX]
 unfold mF at h ⊢
 constructor
 ·rintro ⟨_,h2⟩
  by_cases c:b.size % 64=0
  ·exact .inl c
  ·refine .inr fun hw=>?_
   apply BitVec.eq_of_getLsbD_eq
   intro j hj
   rw [BitVec.getLsbD_ushiftRight]
   by_cases cj:(b.size % 64).toNat+j<64
   ·rw [← Np hw cj,h2 _ (by omega)];simp
   ·rw [BitVec.getLsbD_of_ge _ _ (by omega)];simp
 ·intro hr
  refine ⟨by omega,fun i hi=>?_⟩
  by_cases c:i<64 * b.ws.length
  ·have hw:b.ws.length - 1<b.ws.length:=by omega
   have hk:i / 64=b.ws.length - 1:=by omega
   rcases hr with hr|hr
   ·omega
   ·have:=congrArg (fun w:Wd=>w.getLsbD (i % 64 - (b.size % 64).toNat)) (hr hw)
    simp only [BitVec.getLsbD_ushiftRight,BitVec.getLsbD_zero] at this
    rw [show (b.size % 64).toNat+(i % 64 - (b.size % 64).toNat)=i % 64 by omega] at this
    rw [show i=64 * (b.ws.length - 1)+i % 64 by omega,Np hw (Nat.mod_lt _ (by decide))]
    simpa using this
  ·exact Gq (by omega)
def Az (b:Bm):List uw:=ext (bit b.ws) b.size.toNat
def Bf (b:Bm):Int:=if okB b then 0 else 3
theorem Xl {b:Bm} (h:okB b=true) (a:Int) (ha:a≤0):qY b.ws a b.size=(List.range b.size.toNat).filter (bit b.ws):=by
 unfold qY
 obtain ⟨h1,h2,h3,h4,h5⟩:=lK h
 rw [show 64 * b.ws.length=b.size.toNat+(64 * b.ws.length - b.size.toNat) by omega,List.range_add,List.filter_append]
 have e:(((List.range (64 * b.ws.length - b.size.toNat)).map (b.size.toNat+·)).filter fun (i:Nat)=>bit b.ws i&&decide (a≤(i:Int)∧(i:Int)<b.size))=[]:=by
  rw [List.filter_eq_nil_iff]
  intro i hi
  obtain ⟨d,_,rfl⟩:=List.mem_map.1 hi
  rw [decide_eq_false (by omega)];simp
 rw [e,List.append_nil]
 apply List.filter_congr
 intro i hi
 have hi:=List.mem_range.1 hi
 rw [decide_eq_true (by omega),Bool.and_true]
end Go.Proofs.YtpcncggjmabnaaaGreatDoor.V

namespace Go.Proofs.YtpcncggjmabnaaaGreatDoor.V
theorem AA {b:Bm} (h:okB b=true):Bf b=0:=by unfold Bf;rw [if_pos h]
theorem ni {b:Bm} (h:okB b=false):Bf b=3:=by unfold Bf;rw [if_neg (by rw [h];exact Bool.false_ne_true)]
theorem q64 {n:Int} (h:0≤n):(n+64 - 1).tdiv 64=mF n:=by
 unfold mF;rw [Int.tdiv_eq_ediv_of_nonneg (by omega)];congr 1;omega
theorem q63 {n:Int} (h:0≤n):(n+63).tdiv 64=mF n:=by
 unfold mF;rw [Int.tdiv_eq_ediv_of_nonneg (by omega)]
theorem z64:((64:Int)=0)=False:=eq_false (by decide)
theorem acR {n:Int} (h:0≤n∧n≤4096):cal env 109 [.int .i64 n]=some [(.int .i64 (mF n),false)]:=by
 have W1:IntKind.i64.wrap (n+64)=n+64:=bJ (by omega)
 have W2:IntKind.i64.wrap (n+64 - 1)=n+64 - 1:=bJ (by omega)
 have W3:IntKind.i64.wrap (mF n)=mF n:=bJ (by unfold mF;omega)
 rw [ah acw rfl];simp only [Jq];simp only [start,aG,aN,aC,aK,aA,aB,aF,aJ,Nat.reduceAdd,Nat.reduceSub]
 simp only [W1,W2,q64 h.1,W3,z64,aY,reduceCtorEq,Nat.reduceEqDiff,Nat.reduceAdd,Nat.reduceLT,Nat.reduceLeDiff,Nat.beq]
theorem aa6 {b:Bm}:cal env 91 [iZ b]=some [(.int .i64 (Bf b),false)]:=by
 unfold iZ
 have P:∀ x y:PV,part [x,y] 0 (some 2)=some (.agg [x,y]):=fun _ _=>rfl
 by_cases c0:b.size<0
 ·have hE:Bf b=3:=ni (by rw [Bool.eq_false_iff];intro h;have:=lK h;omega)
  rw [hE]
  rw [ah Du rfl];simp only [BL];simp only [start,aG,aN,aC,aK,aA,aB,aF,aJ,Nat.reduceAdd,Nat.reduceSub]
  simp only [c0,P,aY,reduceCtorEq,Nat.reduceEqDiff,Nat.reduceAdd,Nat.reduceLT,Nat.reduceLeDiff,Nat.beq]
 ·by_cases c1:b.size > 4096
  ·have hE:Bf b=3:=ni (by rw [Bool.eq_false_iff];intro h;have:=lK h;omega)
   rw [hE]
   have F1:(b.size > 4096)=True:=eq_true c1
   rw [ah Du rfl];simp only [BL];simp only [start,aG,aN,aC,aK,aA,aB,aF,aJ,Nat.reduceAdd,Nat.reduceSub]
   simp only [c0,F1,P,aY,reduceCtorEq,Nat.reduceEqDiff,Nat.reduceAdd,Nat.reduceLT,Nat.reduceLeDiff,Nat.beq]
  ·have F1:(b.size > 4096)=False:=eq_false c1
   have e1:=acR (n:=b.size) (by omega)
   by_cases c2:(b.ws.length:Int)=mF b.size
   ·have F2:((b.ws.length:Int) != mF b.size)=false:=by simp [c2]
    have hr:=Xk (b:=b) ⟨by omega,by omega,c2⟩
    have hw:=c2
    unfold mF at hw
    have M:b.size.tmod 64=b.size % 64:=Int.tmod_eq_emod_of_nonneg (by omega)
    by_cases c3:b.size % 64=0
    ·have hE:Bf b=0:=AA (hr.2 (.inl c3))
     rw [hE]
     have F3:(b.size % 64 > 0)=False:=eq_false (by omega)
     rw [ah Du rfl];simp only [BL];simp only [start,aG,aN,aC,aK,aA,aB,aF,aJ,Nat.reduceAdd,Nat.reduceSub]
     simp only [c0,F1,F2,F3,M,e1,z64,P,aY,reduceCtorEq,Nat.reduceEqDiff,Nat.reduceAdd,Nat.reduceLT,Nat.reduceLeDiff,Nat.beq]
    ·have F3:(b.size % 64 > 0)=True:=eq_true (by omega)
     have hi:b.ws.length - 1<b.ws.length:=by omega
     have W:IntKind.i64.wrap ((b.ws.length:Int) - 1)=((b.ws.length - 1:Nat):Int):=by rw [bJ (by omega)];omega
     have S0:(b.size % 64<0)=False:=eq_false (by omega)
     have S:=Xi b.ws[b.ws.length - 1] (s:=b.size % 64) (n:=(b.size % 64).toNat) (by omega)
     have B:=OC (b.ws[b.ws.length - 1] >>> (b.size % 64).toNat) 0
     have B0:((0:Wd).toNat:Int)=0:=rfl
     rw [B0] at B
     have B':(((b.ws[b.ws.length - 1] >>> (b.size % 64).toNat).toNat:Int) != 0)=!decide (b.ws[b.ws.length - 1] >>> (b.size % 64).toNat=0):=by unfold bne;rw [B]
     by_cases c4:b.ws[b.ws.length - 1] >>> (b.size % 64).toNat=0
     ·have hE:Bf b=0:=AA (hr.2 (.inr fun _=>c4))
      rw [hE]
      rw [decide_eq_true c4] at B'
      rw [ah Du rfl];simp only [BL];simp only [start,aG,aN,aC,aK,aA,aB,aF,aJ,Nat.reduceAdd,Nat.reduceSub]
      simp only [c0,F1,F2,F3,M,e1,z64,P,W,S0,S,B',ak hi,eW,List.getElem?_map,List.getElem?_eq_getElem hi,aY,reduceCtorEq,Nat.reduceEqDiff,Nat.reduceAdd,Nat.reduceLT,Nat.reduceLeDiff,Nat.beq]
     ·have hE:Bf b=3:=ni (by
       rw [Bool.eq_false_iff];intro h
       rcases hr.1 h with h|h
       ·exact c3 h
       ·exact c4 (h hi))
      rw [hE]
      rw [decide_eq_false c4] at B'
      rw [ah Du rfl];simp only [BL];simp only [start,aG,aN,aC,aK,aA,aB,aF,aJ,Nat.reduceAdd,Nat.reduceSub]
      simp only [c0,F1,F2,F3,M,e1,z64,P,W,S0,S,B',ak hi,eW,List.getElem?_map,List.getElem?_eq_getElem hi,aY,reduceCtorEq,Nat.reduceEqDiff,Nat.reduceAdd,Nat.reduceLT,Nat.reduceLeDiff,Nat.beq]
   ·have F2:((b.ws.length:Int) != mF b.size)=true:=by simp [c2]
    have hE:Bf b=3:=ni (by rw [Bool.eq_false_iff];intro h;exact c2 (rX.1 h).1.2.2)
    rw [hE]
    rw [ah Du rfl];simp only [BL];simp only [start,aG,aN,aC,aK,aA,aB,aF,aJ,Nat.reduceAdd,Nat.reduceSub]
    simp only [c0,F1,F2,e1,P,aY,reduceCtorEq,Nat.reduceEqDiff,Nat.reduceAdd,Nat.reduceLT,Nat.reduceLeDiff,Nat.beq]
theorem acS {k:Nat} {a b:Int} (hk:k≤100000) (ha:-1000000≤a∧a≤1000000) (hb':-1000000≤b∧b≤1000000):cal env 125 [.int .i64 (k:Nat),.int .i64 a,.int .i64 b]=some [(eW (Aw k a b),false)]:=by
 have W0:IntKind.i64.wrap ((k:Int) * 64)=64 * (k:Int):=by rw [bJ (by omega)];omega
 have W1:IntKind.i64.wrap (a - 64 * (k:Int))=a - 64 * (k:Int):=bJ (by omega)
 have W2:IntKind.i64.wrap (b - 64 * (k:Int))=b - 64 * (k:Int):=bJ (by omega)
 have X1:(if a - 64 * (k:Int)<0 then 0 else a - 64 * (k:Int))=max (a - 64 * (k:Int)) 0:=by split<;>omega
 have X2:(if 64<b - 64 * (k:Int) then 64 else b - 64 * (k:Int))=min (b - 64 * (k:Int)) 64:=by split<;>omega
 unfold Aw eW
 generalize hf:max (a - 64 * (k:Int)) 0=f at X1 ⊢
 generalize ht:min (b - 64 * (k:Int)) 64=t at X2 ⊢
 by_cases c:f ≥ t
 ·have F1:(f ≥ t)=True:=eq_true c
  rw [if_pos c]
  have B0:((0:Wd).toNat:Int)=0:=rfl
  rw [B0]
  rw [ah WY rfl];simp only [Dt];simp only [start,aG,aN,aC,aK,aA,aB,aF,aJ,Nat.reduceAdd,Nat.reduceSub]
  simp only [W0,W1,W2,X1,X2,F1,aY,reduceCtorEq,Nat.reduceEqDiff,Nat.reduceAdd,Nat.reduceLT,Nat.reduceLeDiff,Nat.beq]
 ·have F1:(f ≥ t)=False:=eq_false c
  rw [if_neg c]
  have W3:IntKind.i64.wrap (t - f)=t - f:=bJ (by omega)
  have W4:IntKind.i64.wrap (64 - (t - f))=64 - (t - f):=bJ (by omega)
  have A:(18446744073709551615:Int)=((BitVec.allOnes 64).toNat:Int):=rfl
  have S0:(64 - (t - f)<0)=False:=eq_false (by omega)
  have S1:(f<0)=False:=eq_false (by omega)
  have S2:=Xi (BitVec.allOnes 64) (s:=64 - (t - f)) (n:=(64 - (t - f)).toNat) (by omega)
  have S3:=afm (BitVec.allOnes 64 >>> (64 - (t - f)).toNat) (s:=f) (n:=f.toNat) (by omega)
  rw [← A] at S2
  rw [ah WY rfl];simp only [Dt];simp only [start,aG,aN,aC,aK,aA,aB,aF,aJ,Nat.reduceAdd,Nat.reduceSub]
  simp only [W0,W1,W2,W3,W4,X1,X2,F1,S0,S1,S2,S3,aY,reduceCtorEq,Nat.reduceEqDiff,Nat.reduceAdd,Nat.reduceLT,Nat.reduceLeDiff,Nat.beq]
end Go.Proofs.YtpcncggjmabnaaaGreatDoor.V

namespace Go.Proofs.YtpcncggjmabnaaaGreatDoor.V
def SV (b:Bm):List PV:=[.int .i64 b.size,.list 1 (b.ws.map eW)]
def tz (w:Wd):Nat:=Lib.ctz 64 w.toNat
theorem acT {w:Wd}:cal env 126 [.int .u64 (w.toNat:Int)]=some [(.int .i64 (tz w:Nat),false)]:=by
 rw [yM acE]
 have:=w.isLt
 have e:tzX [.int .u64 (w.toNat:Int)]=if (0:Int)≤(w.toNat:Int)∧(w.toNat:Int)<18446744073709551616 then some [(.int .i64 (Lib.ctz 64 (w.toNat:Int).toNat:Nat),false)] else none:=rfl
 rw [e,if_pos (by omega),Int.toNat_natCast]
 rfl
theorem aaf {b:Bm} {a:Int} {k:Nat} {w0:Wd} {ys0:List (List PV)} (hk:k≤100000)
  {st:St} (h:st.head [0,1,2,4,5,10,11,12] st.boxes.length=some ⟨[.o8,.pv (.fG (SV b) 0),.pv (.fG [.int .i64 a] 0),.any,.pv (.int .i64 (k:Nat)),.pv (eW w0),.any,.any,.any,.any,.pv (.list 1 (b.ws.map eW)),.pv (.int .i64 b.ws.length),.pv (.int .i64 (k:Nat)),.any,.any,.any,.any,.any,.any,.any,.any,.any,.any,.any,.any,.any,.any,.any,.any,.any,.any,.any,.any,.any,.any,.any,.any,.any,.any],[],ys0,some none⟩) :
  den env Ag st=some (.normal,⟨[.o8,.pv (.fG (SV b) 0),.pv (.fG [.int .i64 a] 0),.any,.any,.any,.any,.any,.any,.any,.pv (.list 1 (b.ws.map eW)),.pv (.int .i64 b.ws.length),.pv (.int .i64 (k:Nat)),.any,.any,.any,.any,.any,.any,.any,.any,.any,.any,.any,.any,.any,.any,.any,.any,.any,.any,.any,.any,.any,.any,.any,.any,.any,.any],[],ys0++yI ((bitsOf w0).map (64 * k+·)),some none⟩):=by
 unfold Ag
 refine wJ (env:=env) (fun p:Wd × List (List PV)=>⟨[.o8,.pv (.fG (SV b) 0),.pv (.fG [.int .i64 a] 0),.any,.pv (.int .i64 (k:Nat)),.pv (eW p.1),.any,.any,.any,.any,.pv (.list 1 (b.ws.map eW)),.pv (.int .i64 b.ws.length),.pv (.int .i64 (k:Nat)),.any,.any,.any,.any,.any,.any,.any,.any,.any,.any,.any,.any,.any,.any,.any,.any,.any,.any,.any,.any,.any,.any,.any,.any,.any,.any],[],p.2,some none⟩)
  (fun p=>some (.normal,⟨[.o8,.pv (.fG (SV b) 0),.pv (.fG [.int .i64 a] 0),.any,.any,.any,.any,.any,.any,.any,.pv (.list 1 (b.ws.map eW)),.pv (.int .i64 b.ws.length),.pv (.int .i64 (k:Nat)),.any,.any,.any,.any,.any,.any,.any,.any,.any,.any,.any,.any,.any,.any,.any,.any,.any,.any,.any,.any,.any,.any,.any,.any,.any,.any],[],p.2++yI ((bitsOf p.1).map (64 * k+·)),some none⟩)) (fun _=>True) (fun p=>(bitsOf p.1).length) (w0,ys0) h trivial (fun _=>rfl) (fun _=>rfl) ?_
 rintro ⟨w,ys⟩ rb _ ih
 simp only [eW] at ih ⊢
 have B:=OC w 0
 have B0:((0:Wd).toNat:Int)=0:=rfl
 rw [B0] at B
 have B':((w.toNat:Int) != 0)=!decide (w=0):=by unfold bne;rw [B]
 by_cases c:w=0
 ·rw [decide_eq_true c] at B'
  subst c
  simp only [Af,B',RY,List.map_nil,aY,reduceCtorEq,Nat.reduceEqDiff,Nat.reduceAdd,Nat.reduceLT,Nat.reduceLeDiff,Nat.beq]
  simp only [yI,List.map_nil,List.append_nil]
  rfl
 ·rw [decide_eq_false c] at B'
  have e1:=acT (w:=w)
  have ht:=(OD c).1
  have W0:IntKind.i64.wrap ((k:Int) * 64)=64 * (k:Int):=by rw [bJ (by omega)];omega
  have W1:IntKind.i64.wrap (64 * (k:Int)+((tz w:Nat):Int))=((64 * k+tz w:Nat):Int):=by unfold tz;rw [bJ (by omega)];omega
  have W2:=afn w 1
  have W3:=Xh w (w - 1)
  have B1:((1:Wd).toNat:Int)=1:=rfl
  rw [B1] at W2
  have hc:=RZ c
  simp only [Af,B',e1,W0,W1,W2,W3,aY,reduceCtorEq,Nat.reduceEqDiff,Nat.reduceAdd,Nat.reduceLT,Nat.reduceLeDiff,Nat.beq]
  rw [ih (w &&& (w - 1),ys++[[.int .i64 ((64 * k+tz w:Nat):Int)]]) (by simp only;rw [hc,List.length_cons];omega) trivial _ rfl]
  rw [hc]
  simp only [yI,List.map_cons,List.append_assoc,List.cons_append,List.nil_append]
  rfl
theorem Xm {b:Bm} {a:Int} (hb:b.ws.length≤64) (hs:0≤b.size∧b.size≤4096) (ha:-1000000≤a∧a≤1000000)
  {st:St} (h:st.head [0,1,2,10,11,12] st.boxes.length=some ⟨[.o8,.pv (.fG (SV b) 0),.pv (.fG [.int .i64 a] 0),.any,.any,.any,.any,.any,.any,.any,.pv (.list 1 (b.ws.map eW)),.pv (.int .i64 b.ws.length),.pv (.int .i64 (0:Nat)),.any,.any,.any,.any,.any,.any,.any,.any,.any,.any,.any,.any,.any,.any,.any,.any,.any,.any,.any,.any,.any,.any,.any,.any,.any,.any],[],[],some none⟩) :
  den env Ai st=some (.normal,⟨[.any,.any,.any,.any,.any,.any,.any,.any,.any,.any,.any,.any,.any,.any,.any,.any,.any,.any,.any,.any,.any,.any,.any,.any,.any,.any,.any,.any,.any,.any,.any,.any,.any,.any,.any,.any,.any,.any,.any],[],yI (qY b.ws a b.size),some none⟩):=by
 unfold Ai
 refine bF (env:=env) b.ws.length (fun k=>⟨[.o8,.pv (.fG (SV b) 0),.pv (.fG [.int .i64 a] 0),.any,.any,.any,.any,.any,.any,.any,.pv (.list 1 (b.ws.map eW)),.pv (.int .i64 b.ws.length),.pv (.int .i64 k),.any,.any,.any,.any,.any,.any,.any,.any,.any,.any,.any,.any,.any,.any,.any,.any,.any,.any,.any,.any,.any,.any,.any,.any,.any,.any],[],yI ((List.range (64 * k)).filter fun (i:Nat)=>bit b.ws i&&decide (a≤(i:Int)∧(i:Int)<b.size)),some none⟩)
  (fun _=>some (.normal,⟨[.any,.any,.any,.any,.any,.any,.any,.any,.any,.any,.any,.any,.any,.any,.any,.any,.any,.any,.any,.any,.any,.any,.any,.any,.any,.any,.any,.any,.any,.any,.any,.any,.any,.any,.any,.any,.any,.any,.any],[],yI (qY b.ws a b.size),some none⟩)) h (fun _=>rfl) (fun _=>rfl) ?_ ?_
 ·intro k rb hi ih
  have hi1:=bH hi (by unfold lim;omega)
  have F1:((k:Int)<(b.ws.length:Int))=True:=eq_true (by omega)
  have e1:=acS (k:=k) (a:=a) (b:=b.size) (by omega) ha (by omega)
  have W3:=Xh b.ws[k] (Aw k a b.size)
  rw [Nq hi] at ih
  unfold eW at e1
  simp only [Ah,F1,e1,W3,SV,eW,ak hi,List.getElem?_map,List.getElem?_eq_getElem hi,aY,reduceCtorEq,Nat.reduceEqDiff,Nat.reduceAdd,Nat.reduceLT,Nat.reduceLeDiff,Nat.beq]
  rw [aaf (b:=b) (a:=a) (k:=k) (w0:=b.ws[k] &&& Aw k a b.size) (ys0:=yI ((List.range (64 * k)).filter fun (i:Nat)=>bit b.ws i&&decide (a≤(i:Int)∧(i:Int)<b.size))) (by omega)]
  rotate_left
  ·rfl
  simp only [aY,reduceCtorEq,Nat.reduceEqDiff,Nat.reduceAdd,Nat.reduceLT,Nat.reduceLeDiff,Nat.beq]
  rw [ih _ (by simp only [hi1];simp only [yI,List.map_append];rfl)]
 ·intro rb
  simp only [Ah,Int.lt_irrefl,aY,reduceCtorEq,Nat.reduceEqDiff,Nat.reduceAdd,Nat.reduceLT,Nat.reduceLeDiff,Nat.beq]
  rfl
theorem aag {b:Bm} {a:Int} (ha:-1000000≤a∧a≤1000000):iter env 124 [.fG (SV b) 0,.fG [.int .i64 a] 0] none=some (yI (if okB b then qY b.ws a b.size else [])):=by
 have P:part (SV b) 0 (some 2)=some (iZ b):=rfl
 have e1:=aa6 (b:=b)
 rw [RG acD rfl rfl]
 simp only [Jw,Xb,aG,aN,aC,aK,aA,aB,aF,aJ,Nat.reduceAdd,Nat.reduceSub]
 cases c:okB b with
 |false =>
  rw [ni c] at e1
  have Z:((3:Int) != 0)=true:=rfl
  simp only [P,e1,Z,RX,aY,reduceCtorEq,Nat.reduceEqDiff,Nat.reduceAdd,Nat.reduceLT,Nat.reduceLeDiff,Nat.beq]
  rfl
 |true =>
  rw [AA c] at e1
  have Z:((0:Int) != 0)=false:=rfl
  obtain ⟨h1,h2,h3,_⟩:=lK c
  have P2:part (SV b) 1 none=some (.list 1 (b.ws.map eW)):=rfl
  simp only [P,P2,e1,Z,List.length_map,RX,aY,reduceCtorEq,Nat.reduceEqDiff,Nat.reduceAdd,Nat.reduceLT,Nat.reduceLeDiff,Nat.beq]
  rw [Xm (a:=a) h3 ⟨h1,h2⟩ ha]
  rotate_left
  ·rfl
  ·rfl
theorem acU {b:Bm} {a:Int}:cal env 114 [iZ b,.int .i64 a]=some [(.func 124 [.fG (SV b) 0,.fG [.int .i64 a] 0],false)]:=by
 unfold iZ SV
 rw [ah acB rfl];simp only [Ju];simp only [start,aG,aN,aC,aK,aA,aB,aF,aJ,Nat.reduceAdd,Nat.reduceSub]
 simp only [aY,reduceCtorEq,Nat.reduceEqDiff,Nat.reduceAdd,Nat.reduceLT,Nat.reduceLeDiff,Nat.beq]
end Go.Proofs.YtpcncggjmabnaaaGreatDoor.V

namespace Go.Proofs.YtpcncggjmabnaaaGreatDoor
def look:List (Nat × AV)→Nat→AV
 |[],_=>.any
 |(j,v) :: l,i=>dA (Nat.beq i j) v (look l i)
def sl (n:Nat) (l:List (Nat × AV)):List AV:=(List.range n).map (look l)
def mapA (f:AV→AV):List (Nat × AV)→List (Nat × AV)
 |[]=>[]
 |(j,v) :: l=>(j,f v) :: mapA f l
def keepA (l:List (Nat × AV)):List Nat→List (Nat × AV)
 |[]=>[]
 |k :: ks=>(k,look l k) :: keepA l ks
def x9:Nat→List PV→List (Nat × AV)
 |_,[]=>[]
 |k,v :: l=>(k,.pv v) :: x9 (k+1) l
def JG (nb:Nat):List (Nat × AV)→Bool
 |[]=>true
 |(_,v) :: l=>AV.low nb v&&JG nb l
def Nr (n:Nat):List Nat→Bool
 |[]=>true
 |k :: ks=>decide (k<n)&&Nr n ks
theorem Xn (i:Nat) (v:AV) (l:List (Nat × AV)):look ((i,v) :: l) i=v:=by
 show dA (Nat.beq i i) v _=v
 rw [Nat.beq_refl];rfl
theorem look_nil (i:Nat):look [] i=.any:=(rfl)
theorem acV {n i:Nat} {l:List (Nat × AV)} (h':i<n):(sl n l).getD i .any=look l i:=by
 simp [sl,List.getD_eq_getElem?_getD,h']
theorem aah {n i:Nat} {l:List (Nat × AV)} (h':i<n):(sl n l)[i]?=some (look l i):=by
 simp [sl,h']
theorem kZ (l:List (Nat × AV)) (i j:Nat) (v:AV):look ((j,v) :: l) i=if i=j then v else look l i:=by
 show dA (Nat.beq i j) v _=_
 by_cases h:i=j
 ·subst h;rw [Nat.beq_refl,if_pos rfl];rfl
 ·rw [if_neg h]
  have:Nat.beq i j=false:=by
   cases e:Nat.beq i j with
   |false=>rfl
   |true=>exact absurd (Nat.eq_of_beq_eq_true e) h
  rw [this];rfl
theorem acW (n i:Nat) (v:AV) (l:List (Nat × AV)):(sl n l).set i v=sl n ((i,v) :: l):=by
 apply List.ext_getElem (by simp [sl])
 intro k h1 h2
 have hk:k<n:=by simpa [sl] using h2
 simp only [sl,List.getElem_set,List.getElem_map,List.getElem_range,kZ]
 by_cases h:i=k
 ·subst h;simp
 ·rw [if_neg h,if_neg (fun e=>h e.symm)]
theorem Si {i j:Nat} {v:AV} {l:List (Nat × AV)} (h:(i==j)=false):look ((j,v) :: l) i=look l i:=by
 rw [kZ,if_neg (by simpa using h)]
theorem Dy (f:AV→AV) (hf:f .any=.any):∀ (l:List (Nat × AV)) (i:Nat),look (mapA f l) i=f (look l i)
 |[],i=>hf.symm
 |(j,v) :: l,i=>by
  show look ((j,f v) :: mapA f l) i=_
  rw [kZ,kZ,Dy f hf l i]
  split<;>rfl
theorem Gt {f:AV→AV} (hf:f .any=.any) (n:Nat) (l:List (Nat × AV)):(sl n l).map f=sl n (mapA f l):=by
 unfold sl
 rw [List.map_map]
 apply List.map_congr_left
 intro i _
 exact (Dy f hf l i).symm
theorem aai (n d:Nat) (l:List (Nat × AV)):(sl n l).map (AV.kill d)=sl n (mapA (AV.kill d) l):=Gt rfl n l
theorem Xo (n d:Nat) (l:List (Nat × AV)):(sl n l).map (AV.bZ d)=sl n (mapA (AV.bZ d) l):=Gt rfl n l
theorem Xp (n d y:Nat) (l:List (Nat × AV)):(sl n l).map (AV.gI d y)=sl n (mapA (AV.gI d y) l):=Gt rfl n l
theorem Xq (n:Nat) (l:List (Nat × AV)):(sl n l).map AV.froze=sl n (mapA AV.froze l):=Gt rfl n l
theorem Xr (f:AV→AV):mapA f []=[]:=(rfl)
theorem Sj (f:AV→AV) (j:Nat) (v:AV) (l:List (Nat × AV)):mapA f ((j,v) :: l)=(j,f v) :: mapA f l:=(rfl)
theorem Sm (l:List (Nat × AV)):keepA l []=[]:=(rfl)
theorem tN (l:List (Nat × AV)) (k:Nat) (ks:List Nat):keepA l (k :: ks)=(k,look l k) :: keepA l ks:=(rfl)
theorem Xt (nb:Nat):JG nb []=true:=(rfl)
theorem Dz (nb k:Nat) (v:AV) (l:List (Nat × AV)):JG nb ((k,v) :: l)=(AV.low nb v&&JG nb l):=(rfl)
theorem Xu (n:Nat):Nr n []=true:=(rfl)
theorem DC (n k:Nat) (l:List Nat):Nr n (k :: l)=(decide (k<n)&&Nr n l):=(rfl)
theorem Sr (k:Nat):x9 k []=[]:=(rfl)
theorem AB (k:Nat) (v:PV) (l:List PV):x9 k (v :: l)=(k,.pv v) :: x9 (k+1) l:=(rfl)
theorem tV (l:List (Nat × AV)):∀ (ks:List Nat) (i:Nat),look (keepA l ks) i=if ks.contains i then look l i else .any
 |[],i=>rfl
 |k :: ks,i=>by
  rw [tN,kZ,tV l ks i,List.contains_cons]
  by_cases h:i=k
  ·subst h;simp
  ·have:(i==k)=false:=by simpa using h
   rw [if_neg h,this,Bool.false_or]
theorem JH (nb n:Nat) (l:List (Nat × AV)):∀ ks:List Nat,Nr n ks=true→(JG nb (keepA l ks)=true ↔ ∀ k∈ks,(look l k).low nb=true)
 |[],_=>by simp [keepA,JG]
 |k :: ks,h=>by
  rw [DC,Bool.and_eq_true] at h
  rw [tN,Dz,Bool.and_eq_true,JH nb n l ks h.2]
  simp
theorem OE {n nb:Nat} {l:List (Nat × AV)} {keep:List Nat} {bx:List Box} {ys:List (List PV)} {sp:Option (Option Nat)} (h:Nr n keep=true) (hb:nb≤bx.length) (hl:JG nb (keepA l keep)=true) :
  St.head ⟨sl n l,bx,ys,sp⟩ keep nb=some ⟨sl n (keepA l keep),bx.take nb,ys,sp⟩:=by
 have e:((sl n l).zipIdx.map fun (v,i)=>if keep.contains i then v else AV.any)=sl n (keepA l keep):=by
  apply List.ext_getElem (by simp [sl])
  intro i h1 h2
  simp only [sl,List.getElem_map,List.getElem_zipIdx,List.getElem_range,tV,Nat.zero_add]
 unfold St.head
 simp only
 rw [e,if_pos]
 rw [Bool.and_eq_true,decide_eq_true_eq]
 refine ⟨?_,hb⟩
 rw [List.all_eq_true]
 intro v hv
 unfold sl at hv
 obtain ⟨i,hi,rfl⟩:=List.mem_map.1 hv
 rw [tV]
 split
 ·rename_i hc
  exact (JH nb n l keep h).1 hl i (by simpa using hc)
 ·rfl
theorem Xv {n nb:Nat} {e:Ex} {l:List (Nat × AV)} {keep:List Nat} {bx:List Box} {ys:List (List PV)} {sp:Option (Option Nat)} (h:Nr n keep=true) (hb:nb≤bx.length) (hl:JG nb (keepA l keep)=true) :
  kM keep nb (e,⟨sl n l,bx,ys,sp⟩)=some (e,⟨sl n (keepA l keep),bx.take nb,ys,sp⟩):=by
 unfold kM
 simp only
 rw [OE h hb hl]
 rfl
theorem AL:∀ (l:List PV) (k i:Nat),look (x9 k l) i=if k≤i then ((l[i - k]?).map AV.pv).getD .any else .any:=by
 intro l
 induction l with
 |nil=>intro k i;simp [x9,look]
 |cons v l ih =>
  intro k i
  rw [AB,kZ,ih]
  by_cases h1:i=k
  ·subst h1;simp
  ·rw [if_neg h1]
   by_cases h2:k≤i
   ·rw [if_pos (by omega),if_pos h2,show i - k=(i - (k+1))+1 by omega,List.getElem?_cons_succ]
   ·rw [if_neg (by omega),if_neg h2]
theorem Sv {n:Nat} {x:jM} {args:List PV} (hn:args.length+1≤n):UO n x args=⟨sl n ((0,x.av) :: x9 1 args),x.boxes,[],none⟩:=by
 unfold UO
 congr 1
 apply List.ext_getElem (by simp [sl];omega)
 intro i h1 h2
 simp only [sl,List.getElem_map,List.getElem_range,kZ,AL]
 cases i with
 |zero=>simp
 |succ i =>
  rw [List.getElem_cons_succ,if_neg (by omega),if_pos (by omega),show i+1 - 1=i by omega]
  by_cases hi:i<args.length
  ·rw [List.getElem_append_left (by simpa using hi)]
   simp [hi]
  ·rw [List.getElem_append_right (by simp;omega)]
   simp [hi]
theorem Xw {n:Nat} {args:List PV} (hn:args.length≤n):start n args=⟨sl n (x9 0 args),[],[],none⟩:=by
 have key:=AL
 unfold start
 congr 1
 apply List.ext_getElem (by simp [sl];omega)
 intro i h1 h2
 simp only [sl,List.getElem_map,List.getElem_range,key,Nat.zero_le,if_true,Nat.sub_zero]
 by_cases hi:i<args.length
 ·rw [List.getElem_append_left (by simpa using hi)]
  simp [hi]
 ·rw [List.getElem_append_right (by simp;omega)]
  simp [hi]
theorem acX (nb:Nat) (v:PV):AV.low nb (.pv v)=true:=(rfl)
theorem aaj (nb:Nat):AV.low nb .any=true:=(rfl)
theorem aak (nb:Nat):AV.low nb .o8=true:=(rfl)
theorem aal (nb sz:Nat) (es:List PV):AV.low nb (.row sz es)=true:=(rfl)
theorem Xx (nb o j:Nat):AV.low nb (.aS o j)=decide (o<nb):=(rfl)
theorem Xy (nb t off len:Nat):AV.low nb (.ref (.slot t) off len)=true:=(rfl)
theorem Xz (nb o j off len:Nat):AV.low nb (.ref (.cell o j) off len)=decide (o<nb):=(rfl)
theorem XA (nb t i j:Nat):AV.low nb (.lM (.slot t) i j)=true:=(rfl)
theorem XB (nb o q i j:Nat):AV.low nb (.lM (.cell o q) i j)=decide (o<nb):=(rfl)
theorem acY (nb f:Nat) (caps:List AV):AV.low nb (.fn f caps)=caps.all fun c=>match c with
  |.pv _=>true
  |.aS o _=>o<nb
  |_=>false:=(rfl)
def aO:=And.intro @Xn (And.intro @Si (And.intro @look_nil (And.intro @acV (And.intro @aah (And.intro @acW (And.intro @aai (And.intro (And.intro @Xo @Xp) (And.intro @Xq (And.intro @Xr (And.intro @Sj (And.intro @Sm (And.intro @tN (And.intro @Xt (And.intro @Dz (And.intro @Xu (And.intro @DC (And.intro @Sr (And.intro @AB (And.intro @OE (And.intro @Xv (And.intro @Xw (And.intro @Sv (And.intro @acX (And.intro @aaj (And.intro @aak (And.intro @aal (And.intro @Xx (And.intro @Xy (And.intro @Xz (And.intro @XA (And.intro @XB (@acY))))))))))))))))))))))))))))))))
def aI:=And.intro @aO (And.intro @bG (And.intro @WZ @Am))
end Go.Proofs.YtpcncggjmabnaaaGreatDoor

namespace Go.Proofs.YtpcncggjmabnaaaGreatDoor.V
end Go.Proofs.YtpcncggjmabnaaaGreatDoor.V

namespace Go.Proofs.YtpcncggjmabnaaaGreatDoor.V
theorem sorted_at {l:List Nat} (hs:l.Pairwise (·<·)) {j i:Nat} (h:l[j]?=some i):j≤i∧∀ k∈l.take j,k<i:=by
 obtain ⟨hj,rfl⟩:=List.getElem?_eq_some_iff.1 h
 have hp:=List.pairwise_iff_getElem.1 hs
 refine ⟨?_,fun k hk=>?_⟩
 ·clear h
  induction j with
  |zero=>exact Nat.zero_le _
  |succ j ih =>
   have h1:=ih (by omega)
   have h2:=hp j (j+1) (by omega) hj (by omega)
   omega
 ·obtain ⟨m,hm,rfl⟩:=List.mem_iff_getElem.1 hk
  rw [List.getElem_take]
  simp only [List.length_take] at hm
  exact hp m j (by omega) hj (by omega)
def AO (b:Bm):List Nat:=if okB b then qY b.ws 0 b.size else []
theorem aam {b:Bm} {j i:Nat} (h:(AO b)[j]?=some i):i<4096∧j≤i∧∀ k∈(AO b).take j,k<i:=by
 unfold AO at h ⊢
 split at h
 ·rename_i c
  rw [if_pos c]
  have hs:(qY b.ws 0 b.size).Pairwise (·<·):=List.pairwise_lt_range.filter _
  have hm:=List.mem_of_getElem? h
  simp only [qY,List.mem_filter,List.mem_range,Bool.and_eq_true,decide_eq_true_eq] at hm
  have:=lK c
  exact ⟨by omega,sorted_at hs h⟩
 ·simp at h
def nJ (b:Bm):List uw:=if okB b then Az b else []
theorem acZ (b:Bm):exts (AO b)=nJ b:=by
 unfold AO nJ Az ext
 split
 ·rename_i c;rw [Xl c 0 (by omega)]
 ·rfl
theorem afp {b:Bm}:cal env 95 [iZ b]=some [(.list 2 ((nJ b).map nG),true)]:=by
 have e1:=acU (b:=b) (a:=0)
 have eA:∀ a:Bm,iZ a=.agg [.int .i64 a.size,.list 1 (a.ws.map eW)]:=fun _=>rfl
 rw [eA] at e1 ⊢
 rw [ah afe rfl];simp only [V5];simp only [start,aG,aN,aC,aK,aA,aB,aF,aJ,Nat.reduceAdd,Nat.reduceSub]
 simp only [e1,aY,reduceCtorEq,Nat.reduceEqDiff,Nat.reduceAdd,Nat.reduceLT,Nat.reduceLeDiff,Nat.beq]
 rw [aae (env:=env) (fun j=>[⟨false,[.pv (.int .i64 b.size),.pv (.list 1 (b.ws.map eW))]⟩,⟨false,[.row 2 ((exts ((AO b).take j)).map nG)]⟩]) (xs:=yI (AO b)) rfl (by have:=aag (b:=b) (a:=0) (by omega);exact this) rfl ?_]
 ·simp only [yI,List.length_map,List.take_length,RX,aY,reduceCtorEq,Nat.reduceEqDiff,Nat.reduceAdd,Nat.reduceLT,Nat.reduceLeDiff,Nat.beq]
  rw [acZ]
 ·intro j x hx sl0
  simp only [yI,List.getElem?_map,Option.map_eq_some_iff] at hx
  obtain ⟨i,hi,rfl⟩:=hx
  obtain ⟨k1,k2,k3⟩:=aam hi
  have hlim:lim=1073741824:=rfl
  have hj:=(List.getElem?_eq_some_iff.1 hi).1
  have ht:(AO b).take (j+1)=(AO b).take j++[i]:=by rw [List.take_add_one,hi];rfl
  have hlen:((AO b).take j).length=j:=by simp;omega
  rw [ht]
  rcases ng ((AO b).take j) with h0|⟨p,q,h0⟩
  ·have F2:(((0:Nat):Int) > 0)=False:=eq_false (by omega)
   have F3:(0+1≤lim)=True:=eq_true (by omega)
   have e0:exts ([]:List Nat)=[]:=rfl
   have e2:exts [i]=[⟨i,1⟩]:=rfl
   refine ⟨?_,?_⟩
   rotate_left
   ·simp only [h0,List.nil_append,yY,yZ,F2,F3,e0,e2,nG,List.map_nil,List.map_cons,RX,aY,reduceCtorEq,Nat.reduceEqDiff,Nat.reduceAdd,Nat.reduceLT,Nat.reduceLeDiff,Nat.beq]
    rfl
  ·obtain ⟨pre,⟨s,c⟩,e0,h1,h2,h3,h4⟩:=Dw _ p rfl q
   have hqi:q<i:=k3 q (by rw [h0];simp)
   simp only at h1 h2 h3
   have hpl:p.length+1=j:=by rw [h0] at hlen;simpa using hlen
   have F2:(((pre.length+1:Nat):Int) > 0)=True:=eq_true (by omega)
   have F3:=Dx (n:=pre.length) (by omega)
   have F4:IntKind.i64.wrap (s+c)=s+c:=bJ (by omega)
   have F5:IntKind.i64.wrap (c+1)=c+1:=bJ (by omega)
   have F6:(pre.length+1+1≤lim)=True:=eq_true (by omega)
   have F7:index (.int .i64 (pre.length:Int)) (pre.length+1)=some pre.length:=ak (by omega)
   by_cases hc:s+c=(i:Int)
   ·have F8:(s+c==(i:Int))=true:=by simpa using hc
    have e2:exts (p++[q]++[i])=pre++[⟨s,c+1⟩]:=by rw [kY,e0,jS,if_pos hc]
    refine ⟨?_,?_⟩
    rotate_left
    ·simp only [h0,yY,yZ,e0,e2,F2,F3,F4,F5,F6,F7,F8,nG,List.map_append,List.map_cons,List.map_nil,RX,aY,reduceCtorEq,Nat.reduceEqDiff,Nat.reduceAdd,Nat.reduceLT,Nat.reduceLeDiff,Nat.beq]
     rfl
   ·have F8:(s+c==(i:Int))=false:=by simpa using hc
    have e2:exts (p++[q]++[i])=pre++[⟨s,c⟩]++[⟨i,1⟩]:=by rw [kY,e0,jS,if_neg hc]
    refine ⟨?_,?_⟩
    rotate_left
    ·simp only [h0,yY,yZ,e0,e2,F2,F3,F4,F5,F6,F7,F8,nG,List.map_append,List.map_cons,List.map_nil,RX,aY,reduceCtorEq,Nat.reduceEqDiff,Nat.reduceAdd,Nat.reduceLT,Nat.reduceLeDiff,Nat.beq]
     rfl
theorem afq (w:Wd) (s:Nat):(w >>> s &&& 1==(1:Wd))=w.getLsbD s:=by
 have h:w >>> s &&& 1=if w.getLsbD s then 1 else 0:=by
  apply BitVec.eq_of_getLsbD_eq
  intro j hj
  rw [BitVec.getLsbD_and,BitVec.getLsbD_ushiftRight]
  cases j with
  |zero=>cases h:w.getLsbD s<;>simp [h]
  |succ j =>
   have:(1:Wd).getLsbD (j+1)=false:=by
    rw [show (1:Wd)=1#64 from rfl,BitVec.getLsbD_one];simp
   rw [this,Bool.and_false]
   cases w.getLsbD s<;>simp
 rw [h]
 cases w.getLsbD s<;>rfl
theorem XC {b:Bm} {i:Nat} (h:i / 64<b.ws.length) (hi:i≤1000000):cal env 111 [iZ b,.int .i64 (i:Nat)]=some [(.bool (bit b.ws i),false)]:=by
 unfold iZ
 have T1:(i:Int).tdiv 64=((i / 64:Nat):Int):=by rw [Int.tdiv_eq_ediv_of_nonneg (by omega)];omega
 have T2:(i:Int).tmod 64=((i % 64:Nat):Int):=by rw [Int.tmod_eq_emod_of_nonneg (by omega)];omega
 have W1:IntKind.i64.wrap ((i / 64:Nat):Int)=((i / 64:Nat):Int):=bJ (by omega)
 have W2:IntKind.u64.wrap ((i % 64:Nat):Int)=((i % 64:Nat):Int):=by rw [JF];omega
 have S0:(((i % 64:Nat):Int)<0)=False:=eq_false (by omega)
 have S1:=Xi b.ws[i / 64] (s:=((i % 64:Nat):Int)) (n:=i % 64) rfl
 have S2:=Xh (b.ws[i / 64] >>> (i % 64)) 1
 have B1:((1:Wd).toNat:Int)=1:=rfl
 have S3:=OC (b.ws[i / 64] >>> (i % 64) &&& 1) 1
 rw [B1] at S2 S3
 have S4:decide (b.ws[i / 64] >>> (i % 64) &&& 1=(1:Wd))=bit b.ws i:=by rw [acP h,← afq];rfl
 rw [S4] at S3
 rw [ah acy rfl];simp only [Jr];simp only [start,aG,aN,aC,aK,aA,aB,aF,aJ,Nat.reduceAdd,Nat.reduceSub]
 simp only [z64,T1,T2,W1,W2,S0,S1,S2,S3,eW,ak h,List.getElem?_map,List.getElem?_eq_getElem h,aY,reduceCtorEq,Nat.reduceEqDiff,Nat.reduceAdd,Nat.reduceLT,Nat.reduceLeDiff,Nat.beq]
def ql (ws:List Wd) (k:Nat):Bool:=(List.range (64 * ws.length)).any fun i=>decide (k≤i)&&bit ws i
theorem jV {ws:List Wd} {k:Nat}:ql ws k=true ↔ ∃ i,k≤i∧i<64 * ws.length∧bit ws i=true:=by
 simp only [ql,List.any_eq_true,List.mem_range,Bool.and_eq_true,decide_eq_true_eq]
 exact ⟨fun ⟨i,h1,h2,h3⟩=>⟨i,h2,h1,h3⟩,fun ⟨i,h1,h2,h3⟩=>⟨i,h2,h1,h3⟩⟩
theorem Gu {ws:List Wd} {k:Nat} (h:bit ws k=false):ql ws k=ql ws (k+1):=by
 rw [Bool.eq_iff_iff,jV,jV]
 constructor
 ·rintro ⟨j,h1,h2,h3⟩
  have:j≠k:=fun e=>by rw [e,h] at h3;cases h3
  exact ⟨j,by omega,h2,h3⟩
 ·rintro ⟨j,h1,h2,h3⟩
  exact ⟨j,by omega,h2,h3⟩
theorem ac0 {b:Bm} {s:Nat} (hs:b.size=(s:Int)) (hl:b.ws.length≤64) (hsl:s≤64 * b.ws.length) {st:St} (h:st.head [1,3] st.boxes.length=some ⟨[.any,.aS 0 0,.any,.pv (.int .i64 ((s+(0:Nat):Nat):Int)),.any,.any,.any,.any,.any,.any,.any,.any,.any,.any,.any,.any,.any,.any,.any,.any,.any,.any,.any,.any,.any,.any,.any,.any,.any,.any,.any,.any,.any,.any,.any],[⟨false,[.pv (.int .i64 b.size),.pv (.list 1 (b.ws.map eW))]⟩],[],none⟩) :
  den env Gm st=if ql b.ws (s+(0:Nat)) then some (.ret,⟨[.any,.any,.pv (.int .i64 3),.any,.any,.any,.any,.any,.any,.any,.any,.any,.any,.any,.any,.any,.any,.any,.any,.any,.any,.any,.any,.any,.any,.any,.any,.any,.any,.any,.any,.any,.any,.any,.any],[⟨false,[.pv (.int .i64 b.size),.pv (.list 1 (b.ws.map eW))]⟩],[],none⟩) else some (.normal,⟨[.any,.any,.any,.any,.any,.any,.any,.any,.any,.any,.any,.any,.any,.any,.any,.any,.any,.any,.any,.any,.any,.any,.any,.any,.any,.any,.any,.any,.any,.any,.any,.any,.any,.any,.any],[⟨false,[.pv (.int .i64 b.size),.pv (.list 1 (b.ws.map eW))]⟩],[],none⟩):=by
 unfold Gm
 refine bF (env:=env) (64 * b.ws.length - s) (fun i=>⟨[.any,.aS 0 0,.any,.pv (.int .i64 ((s+i:Nat):Int)),.any,.any,.any,.any,.any,.any,.any,.any,.any,.any,.any,.any,.any,.any,.any,.any,.any,.any,.any,.any,.any,.any,.any,.any,.any,.any,.any,.any,.any,.any,.any],[⟨false,[.pv (.int .i64 b.size),.pv (.list 1 (b.ws.map eW))]⟩],[],none⟩) (fun i=>if ql b.ws (s+i) then some (.ret,⟨[.any,.any,.pv (.int .i64 3),.any,.any,.any,.any,.any,.any,.any,.any,.any,.any,.any,.any,.any,.any,.any,.any,.any,.any,.any,.any,.any,.any,.any,.any,.any,.any,.any,.any,.any,.any,.any,.any],[⟨false,[.pv (.int .i64 b.size),.pv (.list 1 (b.ws.map eW))]⟩],[],none⟩) else some (.normal,⟨[.any,.any,.any,.any,.any,.any,.any,.any,.any,.any,.any,.any,.any,.any,.any,.any,.any,.any,.any,.any,.any,.any,.any,.any,.any,.any,.any,.any,.any,.any,.any,.any,.any,.any,.any],[⟨false,[.pv (.int .i64 b.size),.pv (.list 1 (b.ws.map eW))]⟩],[],none⟩)) h (fun _=>rfl) (fun _=>rfl) ?_ ?_
 ·intro i rb hi ih
  have hi1:IntKind.i64.wrap (((s+i:Nat):Int)+1)=((s+(i+1):Nat):Int):=by rw [bJ (by omega)];omega
  have W1:IntKind.i64.wrap (64 * (b.ws.length:Int))=64 * (b.ws.length:Int):=bJ (by omega)
  have F1:(((s+i:Nat):Int)<64 * (b.ws.length:Int))=True:=eq_true (by omega)
  have e1:=XC (b:=b) (i:=s+i) (by omega) (by omega)
  have P2:part [PV.int .i64 b.size,.list 1 (b.ws.map fun w=>PV.int .u64 (w.toNat:Int))] 0 (some 2)=some (.agg [PV.int .i64 b.size,.list 1 (b.ws.map fun w=>PV.int .u64 (w.toNat:Int))]):=rfl
  unfold iZ at e1
  unfold eW at e1 ih ⊢
  cases c:bit b.ws (s+i) with
  |true =>
   rw [c] at e1
   have h:ql b.ws (s+i)=true:=jV.2 ⟨s+i,by omega,by omega,c⟩
   rw [if_pos h]
   simp only [yV,F1,W1,e1,P2,List.length_map,aY,reduceCtorEq,Nat.reduceEqDiff,Nat.reduceAdd,Nat.reduceLT,Nat.reduceLeDiff,Nat.beq]
   rfl
  |false =>
   rw [c] at e1
   have h:=Gu c
   simp only [yV,F1,W1,e1,P2,List.length_map,aY,reduceCtorEq,Nat.reduceEqDiff,Nat.reduceAdd,Nat.reduceLT,Nat.reduceLeDiff,Nat.beq]
   rw [ih _ (by simp only [hi1];rfl),h]
   rfl
 ·intro rb
  have W1:IntKind.i64.wrap (64 * (b.ws.length:Int))=64 * (b.ws.length:Int):=bJ (by omega)
  have F1:(((s+(64 * b.ws.length - s):Nat):Int)<64 * (b.ws.length:Int))=False:=eq_false (by omega)
  rw [if_neg (by rw [jV];rintro ⟨j,h1,h2,_⟩;omega)]
  simp only [yV,F1,W1,List.length_map,aY,reduceCtorEq,Nat.reduceEqDiff,Nat.reduceAdd,Nat.reduceLT,Nat.reduceLeDiff,Nat.beq]
  rfl
end Go.Proofs.YtpcncggjmabnaaaGreatDoor.V

namespace Go.Proofs.YtpcncggjmabnaaaGreatDoor.V
theorem aa7 {b:Bm}:cal env 92 [iZ b]=some [(.int .i64 (Bf b),false)]:=by
 unfold iZ
 have P:∀ x y:PV,part [x,y] 0 (some 2)=some (.agg [x,y]):=fun _ _=>rfl
 by_cases c0:b.size<0
 ·have hE:Bf b=3:=ni (by rw [Bool.eq_false_iff];intro h;have:=lK h;omega)
  rw [hE]
  rw [ah Oz rfl];simp only [Ji];simp only [start,aG,aN,aC,aK,aA,aB,aF,aJ,Nat.reduceAdd,Nat.reduceSub]
  simp only [c0,P,aY,reduceCtorEq,Nat.reduceEqDiff,Nat.reduceAdd,Nat.reduceLT,Nat.reduceLeDiff,Nat.beq]
 ·by_cases c1:b.size > 4096
  ·have hE:Bf b=3:=ni (by rw [Bool.eq_false_iff];intro h;have:=lK h;omega)
   rw [hE]
   have F1:(b.size > 4096)=True:=eq_true c1
   rw [ah Oz rfl];simp only [Ji];simp only [start,aG,aN,aC,aK,aA,aB,aF,aJ,Nat.reduceAdd,Nat.reduceSub]
   simp only [c0,F1,P,aY,reduceCtorEq,Nat.reduceEqDiff,Nat.reduceAdd,Nat.reduceLT,Nat.reduceLeDiff,Nat.beq]
  ·have F1:(b.size > 4096)=False:=eq_false c1
   have W0:IntKind.i64.wrap (b.size+63)=b.size+63:=bJ (by omega)
   have W3:IntKind.i64.wrap (mF b.size)=mF b.size:=bJ (by unfold mF;omega)
   have T:=q63 (n:=b.size) (by omega)
   by_cases c2:(b.ws.length:Int)=mF b.size
   ·have F2:((b.ws.length:Int) != mF b.size)=false:=by simp [c2]
    have hw:=c2
    unfold mF at hw
    have hs:b.size=((b.size.toNat:Nat):Int):=by omega
    rw [ah Oz rfl];simp only [Ji];simp only [start,aG,aN,aC,aK,aA,aB,aF,aJ,Nat.reduceAdd,Nat.reduceSub]
    simp only [c0,F1,F2,W0,W3,T,z64,P,List.length_map,aY,reduceCtorEq,Nat.reduceEqDiff,Nat.reduceAdd,Nat.reduceLT,Nat.reduceLeDiff,Nat.beq]
    rw [ac0 (b:=b) (s:=b.size.toNat) hs (by omega) (by omega)]
    rotate_left
    ·rw [Nat.add_zero,← hs];rfl
    ·cases c:okB b with
     |true =>
      rw [AA c,if_neg]
      ·simp only [c0,F1,F2,W0,W3,T,z64,P,List.length_map,aY,reduceCtorEq,Nat.reduceEqDiff,Nat.reduceAdd,Nat.reduceLT,Nat.reduceLeDiff,Nat.beq]
      ·rw [jV]
       rintro ⟨i,h1,h2,h3⟩
       rw [(rX.1 c).2 i (by omega)] at h3
       cases h3
     |false =>
      rw [ni c,if_pos]
      ·simp only [c0,F1,F2,W0,W3,T,z64,P,List.length_map,aY,reduceCtorEq,Nat.reduceEqDiff,Nat.reduceAdd,Nat.reduceLT,Nat.reduceLeDiff,Nat.beq]
      ·rw [jV]
       apply Classical.byContradiction
       intro hn
       have:okB b=true:=rX.2 ⟨⟨by omega,by omega,c2⟩,fun i hi=>by
        by_cases hl:i<64 * b.ws.length
        ·cases hb:bit b.ws i with
         |false=>rfl
         |true=>exact absurd ⟨i,by omega,hl,hb⟩ hn
        ·exact Gq (by omega)⟩
       rw [this] at c;cases c
   ·have F2:((b.ws.length:Int) != mF b.size)=true:=by simp [c2]
    have hE:Bf b=3:=ni (by rw [Bool.eq_false_iff];intro h;exact c2 (rX.1 h).1.2.2)
    rw [hE]
    rw [ah Oz rfl];simp only [Ji];simp only [start,aG,aN,aC,aK,aA,aB,aF,aJ,Nat.reduceAdd,Nat.reduceSub]
    simp only [c0,F1,F2,W0,W3,T,z64,P,List.length_map,aY,reduceCtorEq,Nat.reduceEqDiff,Nat.reduceAdd,Nat.reduceLT,Nat.reduceLeDiff,Nat.beq]
end Go.Proofs.YtpcncggjmabnaaaGreatDoor.V

namespace Go.Proofs.YtpcncggjmabnaaaGreatDoor.V
def Ns (b:Bm) (n:Nat):List Nat:=(List.range n).filter (bit b.ws)
theorem vM (b:Bm) (n:Nat):Ns b (n+1)=if bit b.ws n then Ns b n++[n] else Ns b n:=by
 unfold Ns
 rw [List.range_succ,List.filter_append]
 cases h:bit b.ws n<;>simp [h]
theorem ac1 {b:Bm} {n i:Nat} (h:i∈Ns b n):i<n:=by
 simp only [Ns,List.mem_filter,List.mem_range] at h;exact h.1
theorem aan (b:Bm) (n:Nat):(Ns b n).length≤n:=by
 have:=List.length_filter_le (bit b.ws) (List.range n);simpa [Ns] using this
theorem ac2 {b:Bm} {n:Nat} (hs:b.size=(n:Int)) (hn:n≤4096) (hw:n≤64 * b.ws.length) {st:St} (h:st.head [1,3,4,53] st.boxes.length=some ⟨[.any,.aS 0 0,.any,.row 2 ((exts (Ns b (0:Nat))).map nG),.pv (.int .i64 (0:Nat)),.any,.any,.any,.any,.any,.any,.any,.any,.any,.any,.any,.any,.any,.any,.any,.any,.any,.any,.any,.any,.any,.any,.any,.any,.any,.any,.any,.any,.any,.any,.any,.any,.any,.any,.any,.any,.any,.any,.any,.any,.any,.any,.any,.any,.any,.any,.any,.any,.any,.any],[⟨false,[.pv (.int .i64 b.size),.pv (.list 1 (b.ws.map eW))]⟩],[],none⟩) :
  den env Gp st=some (.normal,⟨[.any,.any,.any,.row 2 ((exts (Ns b n)).map nG),.any,.any,.any,.any,.any,.any,.any,.any,.any,.any,.any,.any,.any,.any,.any,.any,.any,.any,.any,.any,.any,.any,.any,.any,.any,.any,.any,.any,.any,.any,.any,.any,.any,.any,.any,.any,.any,.any,.any,.any,.any,.any,.any,.any,.any,.any,.any,.any,.any,.any,.any],[⟨false,[.pv (.int .i64 b.size),.pv (.list 1 (b.ws.map eW))]⟩],[],none⟩):=by
 unfold Gp
 refine bF (env:=env) (n) (fun i=>⟨[.any,.aS 0 0,.any,.row 2 ((exts (Ns b i)).map nG),.pv (.int .i64 i),.any,.any,.any,.any,.any,.any,.any,.any,.any,.any,.any,.any,.any,.any,.any,.any,.any,.any,.any,.any,.any,.any,.any,.any,.any,.any,.any,.any,.any,.any,.any,.any,.any,.any,.any,.any,.any,.any,.any,.any,.any,.any,.any,.any,.any,.any,.any,.any,.any,.any],[⟨false,[.pv (.int .i64 b.size),.pv (.list 1 (b.ws.map eW))]⟩],[],none⟩) (fun i=>some (.normal,⟨[.any,.any,.any,.row 2 ((exts (Ns b n)).map nG),.any,.any,.any,.any,.any,.any,.any,.any,.any,.any,.any,.any,.any,.any,.any,.any,.any,.any,.any,.any,.any,.any,.any,.any,.any,.any,.any,.any,.any,.any,.any,.any,.any,.any,.any,.any,.any,.any,.any,.any,.any,.any,.any,.any,.any,.any,.any,.any,.any,.any,.any],[⟨false,[.pv (.int .i64 b.size),.pv (.list 1 (b.ws.map eW))]⟩],[],none⟩)) h (fun _=>rfl) (fun _=>rfl) ?_ ?_
 ·intro i rb hi ih
  have hi1:=bH hi (by unfold lim;omega)
  have hlim:lim=1073741824:=rfl
  have F1:((i:Int)<b.size)=True:=eq_true (by omega)
  have e1:=XC (b:=b) (i:=i) (by omega) (by omega)
  have P2:part [PV.int .i64 b.size,.list 1 (b.ws.map eW)] 0 (some 2)=some (.agg [PV.int .i64 b.size,.list 1 (b.ws.map eW)]):=rfl
  unfold iZ at e1
  cases c:bit b.ws i with
  |false =>
   rw [c] at e1
   simp only [vK,F1,e1,P2,aY,reduceCtorEq,Nat.reduceEqDiff,Nat.reduceAdd,Nat.reduceLT,Nat.reduceLeDiff,Nat.beq]
   rw [ih _ (by simp only [hi1];rw [vM,if_neg (by rw [c];decide)];rfl)]
  |true =>
   rw [c] at e1
   rcases ng (Ns b i) with h0|⟨p,j,h0⟩
   ·have e0:exts (Ns b i)=[]:=by rw [h0];rfl
    have F2:(((0:Nat):Int) > 0)=False:=eq_false (by omega)
    have F3:(0+1≤lim)=True:=eq_true (by unfold lim;omega)
    simp only [vK,F1,e1,P2,e0,nG,List.map_nil,F2,F3,aY,reduceCtorEq,Nat.reduceEqDiff,Nat.reduceAdd,Nat.reduceLT,Nat.reduceLeDiff,Nat.beq]
    rw [ih _ (by simp only [hi1];rw [vM,if_pos c,kY,e0];rfl)]
   ·obtain ⟨pre,⟨s,q⟩,e0,h1,h2,h3,h4⟩:=Dw _ p rfl j
    rw [← h0] at e0
    have hji:j<i:=ac1 (show j∈Ns b i by rw [h0];simp)
    have hpl:p.length+1≤i:=by have:=aan b i;rw [h0] at this;simpa using this
    simp only at h1 h2 h3
    have F2:(((pre.length+1:Nat):Int) > 0)=True:=eq_true (by omega)
    have F3:=Dx (n:=pre.length) (by omega)
    have F4:IntKind.i64.wrap (s+q)=s+q:=bJ (by omega)
    have F5:IntKind.i64.wrap (q+1)=q+1:=bJ (by omega)
    have F6:(pre.length+1+1≤lim)=True:=eq_true (by omega)
    have F7:index (.int .i64 (pre.length:Int)) (pre.length+1)=some pre.length:=ak (by omega)
    simp only [vK,F1,e1,P2,e0,List.map_append,List.map_cons,List.map_nil,nG,F2,F3,F4,F5,F6,F7,aY,reduceCtorEq,Nat.reduceEqDiff,Nat.reduceAdd,Nat.reduceLT,Nat.reduceLeDiff,Nat.beq]
    (try simp only [dS,fF,dU]);refine dB (fun hb=>?_) (fun hb=>?_)<;>try simp only [hb,nG,aY,reduceCtorEq,Nat.reduceEqDiff,Nat.reduceAdd,Nat.reduceLT,Nat.reduceLeDiff,Nat.beq]
    ·rw [ih _ (by simp only [hi1];rw [vM,if_pos c,kY,e0,jS,if_pos (by simpa using hb)];simp only [List.map_append,List.map_cons,List.map_nil,nG];rfl)]
    ·rw [ih _ (by simp only [hi1];rw [vM,if_pos c,kY,e0,jS,if_neg (by simpa using hb)];simp only [List.map_append,List.map_cons,List.map_nil,nG];rfl)]
 ·intro rb
  have F1:((n:Int)<b.size)=False:=eq_false (by omega)
  simp only [vK,F1,aY,reduceCtorEq,Nat.reduceEqDiff,Nat.reduceAdd,Nat.reduceLT,Nat.reduceLeDiff,Nat.beq]
  rfl
theorem afr {b:Bm}:cal env 96 [iZ b]=some [(.list 2 ((nJ b).map nG),true)]:=by
 have e1:=aa7 (b:=b)
 have eA:∀ a:Bm,iZ a=.agg [.int .i64 a.size,.list 1 (a.ws.map eW)]:=fun _=>rfl
 unfold nJ
 cases c:okB b with
 |false =>
  rw [ni c] at e1
  rw [if_neg Bool.false_ne_true]
  rw [eA] at e1 ⊢
  have Z3:((3:Int) != 0)=true:=rfl
  rw [ah aa3 rfl];simp only [RF];simp only [start,aG,aN,aC,aK,aA,aB,aF,aJ,Nat.reduceAdd,Nat.reduceSub]
  simp only [e1,Z3,List.map_nil,aY,reduceCtorEq,Nat.reduceEqDiff,Nat.reduceAdd,Nat.reduceLT,Nat.reduceLeDiff,Nat.beq]
 |true =>
  rw [AA c] at e1
  rw [if_pos rfl]
  rw [eA] at e1 ⊢
  have Z0:((0:Int) != 0)=false:=rfl
  obtain ⟨h1,h2,h3,h4,h5⟩:=lK c
  rw [ah aa3 rfl];simp only [RF];simp only [start,aG,aN,aC,aK,aA,aB,aF,aJ,Nat.reduceAdd,Nat.reduceSub]
  simp only [e1,Z0,List.map_nil,aY,reduceCtorEq,Nat.reduceEqDiff,Nat.reduceAdd,Nat.reduceLT,Nat.reduceLeDiff,Nat.beq]
  rw [ac2 (b:=b) (n:=b.size.toNat) (by omega) (by omega) (by omega)]
  rotate_left
  ·rfl
  ·simp only [e1,Z0,List.map_nil,aY,reduceCtorEq,Nat.reduceEqDiff,Nat.reduceAdd,Nat.reduceLT,Nat.reduceLeDiff,Nat.beq]
   rfl
end Go.Proofs.YtpcncggjmabnaaaGreatDoor.V

namespace Go.Proofs.YtpcncggjmabnaaaGreatDoor.V
theorem XD {n a b:Int}:cal env 72 [.int .i64 n,.int .i64 a,.int .i64 b]=some [(.bool (decide (a≤n)&&decide (n≤b)),false)]:=by
 by_cases h:a≤n
 ·have F1:(a≤n)=True:=eq_true h
  rw [ah aaY rfl];simp only [Rw,aO,Nat.reduceBEq,Nat.reduceLeDiff,Nat.reduceAdd,List.length_cons,List.length_nil]
  simp only [F1,aI,Nat.reduceMul,Nat.reduceBEq,Nat.reduceLT,Nat.reduceLeDiff,reduceCtorEq,Nat.reduceEqDiff,Nat.reduceAdd,Nat.beq]
 ·have F1:(a≤n)=False:=eq_false h
  rw [ah aaY rfl];simp only [Rw,aO,Nat.reduceBEq,Nat.reduceLeDiff,Nat.reduceAdd,List.length_cons,List.length_nil]
  simp only [F1,aI,Nat.reduceMul,Nat.reduceBEq,Nat.reduceLT,Nat.reduceLeDiff,reduceCtorEq,Nat.reduceEqDiff,Nat.reduceAdd,Nat.beq]
def tX (n:Int):Bool:=!(decide (0≤n)&&decide (n≤1073741824))
def Sz (l:List Int):Int:=if 8<l.length then 6 else if l.any tX then 2 else 0
theorem ac3 {n:Int}:cal env 103 [eI n]=some [(.bool (tX n),false)]:=by
 have e1:=XD (n:=n) (a:=0) (b:=1073741824)
 unfold eI
 rw [ah acr rfl];simp only [Jl,aO,Nat.reduceBEq,Nat.reduceLeDiff,Nat.reduceAdd,List.length_cons,List.length_nil]
 simp only [e1,tX,aI,Nat.reduceMul,Nat.reduceBEq,Nat.reduceLT,Nat.reduceLeDiff,reduceCtorEq,Nat.reduceEqDiff,Nat.reduceAdd,Nat.beq]
theorem afs {l:List Int} (hl:l.length≤20):cal env 73 [.list 1 (l.map eI),.int .i64 0]=some [(.int .i64 (Sz l),false)]:=by
 have e1:=XD (n:=(l.length:Int)) (a:=0) (b:=8)
 have e2:=W9 (l:=l) (enc:=eI) (caps:=[]) (fun x _=>ac3 (n:=x)) (fun x=>rfl) (Nat.le_trans hl (by decide))
 unfold Sz
 by_cases h:8<l.length
 ·have G:(decide ((0:Int)≤l.length)&&decide ((l.length:Int)≤8))=false:=by simp;omega
  rw [G] at e1
  rw [if_pos h]
  rw [ah WV rfl];simp only [Nj,aO,Nat.reduceBEq,Nat.reduceLeDiff,Nat.reduceAdd,List.length_cons,List.length_nil]
  simp only [e1,List.length_map,aI,Nat.reduceMul,Nat.reduceBEq,Nat.reduceLT,Nat.reduceLeDiff,reduceCtorEq,Nat.reduceEqDiff,Nat.reduceAdd,Nat.beq]
 ·have G:(decide ((0:Int)≤l.length)&&decide ((l.length:Int)≤8))=true:=by simp;omega
  rw [G] at e1
  rw [if_neg h]
  cases hb:l.any tX with
  |true =>
   rw [hb] at e2
   rw [ah WV rfl];simp only [Nj,aO,Nat.reduceBEq,Nat.reduceLeDiff,Nat.reduceAdd,List.length_cons,List.length_nil]
   simp only [e1,e2,List.length_map,aI,Nat.reduceMul,Nat.reduceBEq,Nat.reduceLT,Nat.reduceLeDiff,reduceCtorEq,Nat.reduceEqDiff,Nat.reduceAdd,Nat.beq]
  |false =>
   rw [hb] at e2
   rw [ah WV rfl];simp only [Nj,aO,Nat.reduceBEq,Nat.reduceLeDiff,Nat.reduceAdd,List.length_cons,List.length_nil]
   simp only [e1,e2,List.length_map,aI,Nat.reduceMul,Nat.reduceBEq,Nat.reduceLT,Nat.reduceLeDiff,reduceCtorEq,Nat.reduceEqDiff,Nat.reduceAdd,Nat.beq]
theorem ac4 {l:List Int} (hl:l.length≤lim) {st:St} (h:st.head [0,3] st.boxes.length=some ⟨[.pv (.list 1 (l.map eI)),.any,.any,.pv (.int .i64 (0:Nat)),.any,.any,.any,.any,.any,.any,.any,.any,.any,.any,.any,.any,.any,.any,.any,.any,.any,.any],[],[],none⟩) :
  den env Gh st=if l.any tX then some (.ret,⟨[.any,.any,.pv (.int .i64 2),.any,.any,.any,.any,.any,.any,.any,.any,.any,.any,.any,.any,.any,.any,.any,.any,.any,.any,.any],[],[],none⟩) else some (.normal,⟨[.any,.any,.any,.any,.any,.any,.any,.any,.any,.any,.any,.any,.any,.any,.any,.any,.any,.any,.any,.any,.any,.any],[],[],none⟩):=by
 unfold Gh
 rw [ bF (env:=env) (l.length) (fun i=>⟨[.pv (.list 1 (l.map eI)),.any,.any,.pv (.int .i64 i),.any,.any,.any,.any,.any,.any,.any,.any,.any,.any,.any,.any,.any,.any,.any,.any,.any,.any],[],[],none⟩) (fun i=>if (l.drop i).any tX then some (.ret,⟨[.any,.any,.pv (.int .i64 2),.any,.any,.any,.any,.any,.any,.any,.any,.any,.any,.any,.any,.any,.any,.any,.any,.any,.any,.any],[],[],none⟩) else some (.normal,⟨[.any,.any,.any,.any,.any,.any,.any,.any,.any,.any,.any,.any,.any,.any,.any,.any,.any,.any,.any,.any,.any,.any],[],[],none⟩)) h (fun _=>rfl) (fun _=>rfl) ?_ ?_]
 ·first|rfl|simp only [List.drop_zero,List.take_zero,List.map_nil,Nat.zero_add,List.nil_append,List.foldl_nil]
 ·intro i rb hi ih
  have hi1:=bH hi hl
  have F1:((i:Int)<(l.length:Int))=True:=eq_true (by omega)
  rw [List.drop_eq_getElem_cons hi]
  by_cases c1:l[i]<0
  ·have G1:(l[i]<0)=True:=eq_true c1
   have G2:tX l[i]=true:=by simp [tX];omega
   simp only [vI,F1,G1,eI,ak hi,List.getElem?_map,List.getElem?_eq_getElem hi,aY,reduceCtorEq,Nat.reduceEqDiff,Nat.reduceAdd,Nat.reduceLT,Nat.reduceLeDiff,Nat.beq]
   simp only [List.any_cons,G2,Bool.true_or,if_true]
   rfl
  ·have G1:(l[i]<0)=False:=eq_false c1
   by_cases c2:l[i] > 1073741824
   ·have G3:(l[i] > 1073741824)=True:=eq_true c2
    have G2:tX l[i]=true:=by simp [tX];omega
    simp only [vI,F1,G1,G3,eI,ak hi,List.getElem?_map,List.getElem?_eq_getElem hi,aY,reduceCtorEq,Nat.reduceEqDiff,Nat.reduceAdd,Nat.reduceLT,Nat.reduceLeDiff,Nat.beq]
    simp only [List.any_cons,G2,Bool.true_or,if_true]
    rfl
   ·have G3:(l[i] > 1073741824)=False:=eq_false c2
    have G2:tX l[i]=false:=by simp [tX];omega
    simp only [vI,F1,G1,G3,eI,ak hi,List.getElem?_map,List.getElem?_eq_getElem hi,aY,reduceCtorEq,Nat.reduceEqDiff,Nat.reduceAdd,Nat.reduceLT,Nat.reduceLeDiff,Nat.beq]
    rw [ih _ (by simp only [hi1];rfl)]
    simp only [List.any_cons,G2,Bool.false_or]
 ·intro rb
  simp only [vI,Int.lt_irrefl,aY,reduceCtorEq,Nat.reduceEqDiff,Nat.reduceAdd,Nat.reduceLT,Nat.reduceLeDiff,Nat.beq]
  rw [List.drop_length]
  rfl
theorem aft {l:List Int} (hl:l.length≤lim):cal env 81 [.list 1 (l.map eI)]=some [(.int .i64 (if l.any tX then 2 else 0),false)]:=by
 rw [ah ae9 rfl];simp only [VY];simp only [start,aG,aN,aC,aK,aA,aB,aF,aJ,Nat.reduceAdd,Nat.reduceSub]
 simp only [aY,reduceCtorEq,Nat.reduceEqDiff,Nat.reduceAdd,Nat.reduceLT,Nat.reduceLeDiff,Nat.beq]
 rw [ac4 hl]
 rotate_left
 ·rfl
 ·cases l.any tX<;>simp only [aY,reduceCtorEq,Nat.reduceEqDiff,Nat.reduceAdd,Nat.reduceLT,Nat.reduceLeDiff,Nat.beq]
def wM (b n t:Int) (p:List Int) (w:List jW):PV:=.agg [.int .i64 b,.int .i64 n,.int .i64 t,.list 1 (p.map eI),.list 3 (w.map iL)]
def JI (b n t:Int) (p:List Int):Int:=if b<0∨n≤b∨n > 1073741824 then 2 else if t<0∨t > 1073741824 then 24 else Sz p
end Go.Proofs.YtpcncggjmabnaaaGreatDoor.V

namespace Go.Proofs.YtpcncggjmabnaaaGreatDoor.V
structure nY where
 base:Int
 num:Int
 time:Int
 pos:List Int
 ws:List jW
def jc (c:nY):PV:=.agg [.int .i64 c.base,.int .i64 c.num,.int .i64 c.time,.list 1 (c.pos.map eI),.list 3 (c.ws.map iL)]
theorem Gv (c:nY):jc c=.agg [.int .i64 c.base,.int .i64 c.num,.int .i64 c.time,.list 1 (c.pos.map eI),.list 3 (c.ws.map iL)]:=rfl
theorem vN {l:List nY} {i:Nat} (h:i<l.length):(l.map jc)[i]?=some (.agg [.int .i64 l[i].base,.int .i64 l[i].num,.int .i64 l[i].time,.list 1 (l[i].pos.map eI),.list 3 (l[i].ws.map iL)]):=by rw [List.getElem?_map,List.getElem?_eq_getElem h];rfl
theorem wO {l:List jW} {i:Nat} (h:i<l.length):(l.map iL)[i]?=some (.agg [.int .i64 l[i].volume,.int .i64 l[i].start,.list 8 (l[i].data.map lW)]):=by rw [List.getElem?_map,List.getElem?_eq_getElem h];rfl
end Go.Proofs.YtpcncggjmabnaaaGreatDoor.V

namespace Go.Proofs.YtpcncggjmabnaaaGreatDoor.V
def oU (x w:jW):Bool:=decide (w.volume<x.volume) || (decide (w.volume=x.volume)&&decide (w.start≤x.start+(x.data.length:Int)))
def DF (im:jl):Option jW→List jW→Int
 |_,[]=>0
 |p,w :: l=>if dF im w≠0 then dF im w else if (match p with|none=>false|some x=>oU x w) then 3 else DF im (some w) l
theorem XE (im:jl) (p:Option jW) (w:jW) (l:List jW):DF im p (w :: l)=if dF im w≠0 then dF im w else if (match p with|none=>false|some x=>oU x w) then 3 else DF im (some w) l:=by cases p<;>rfl
def ny (l:List jW):Nat→Option jW
 |0=>none
 |i+1=>l[i]?
def wcI (im:jl) (l:List jW) (i:Nat):Prop:=DF im none l=DF im (ny l i) (l.drop i)∧∀ x,ny l i=some x→dF im x=0
theorem afu (im:jl) (l:List jW):wcI im l 0:=⟨rfl,fun x h=>by cases h⟩
theorem Nu {im:jl} {l:List jW} {i:Nat} (hp:wcI im l i) (h:i<l.length):DF im none l=if dF im l[i]≠0 then dF im l[i] else if (match ny l i with|none=>false|some x=>oU x l[i]) then 3 else DF im (ny l (i+1)) (l.drop (i+1)):=by
 rw [hp.1,List.drop_eq_getElem_cons h,XE,show ny l (i+1)=some l[i] from List.getElem?_eq_getElem h]
theorem oV {im:jl} {l:List jW} {i:Nat} (hp:wcI im l i) (h:i<l.length) (h1:dF im l[i]=0) (h2:(match ny l i with|none=>false|some x=>oU x l[i])=false):wcI im l (i+1):=by
 refine ⟨?_,?_⟩
 ·rw [Nu hp h,if_neg (by simpa using h1),if_neg (by rw [h2];exact Bool.false_ne_true)]
 ·intro x hx
  simp only [ny,List.getElem?_eq_getElem h,Option.some.injEq] at hx
  rw [← hx];exact h1
def resE (n d:Nat) (e:Int):Option (Ex × St):=if e=0 then some (.normal,⟨sl n [(d,.any)],[],[],none⟩) else some (.ret,⟨sl n [(d,.pv (.int .i64 e))],[],[],none⟩)
theorem rY {n d:Nat} {e:Int} (h:e≠0):resE n d e=some (.ret,⟨sl n [(d,.pv (.int .i64 e))],[],[],none⟩):=if_neg h
theorem OG {n d:Nat}:resE n d 0=some (.normal,⟨sl n [(d,.any)],[],[],none⟩):=if_pos rfl
theorem OH {im:jl} {w:jW} (h:dF im w=0):0≤w.volume∧w.volume<im.length∧0≤w.start∧w.start+w.data.length≤((im.getD w.volume.toNat []).length:Int):=by
 unfold dF at h
 split at h
 ·omega
 ·split at h
  ·omega
  ·split at h
   ·omega
   ·omega
theorem DI {im:jl} {n:Nat} (hr:∀ v∈im,v.length≤n) (v:Nat):(im.getD v []).length≤n:=by
 by_cases h:v<im.length
 ·have e:im.getD v []=im[v]:=by simp [h]
  rw [e];exact hr _ (List.getElem_mem h)
 ·have e:im.getD v []=[]:=by simp [List.getD_eq_getElem?_getD,List.getElem?_eq_none (Nat.le_of_not_lt h)]
  rw [e];simp
theorem iR (x:jW):part [PV.int .i64 x.volume,.int .i64 x.start,.list 8 (x.data.map lW)] 0 (some 3)=some (.agg [.int .i64 x.volume,.int .i64 x.start,.list 8 (x.data.map lW)]):=rfl
theorem aao {im:jl} {l:List jW} {gf:Nat} {caps:List PV} (hcall:∀ w∈l,cal env gf (iL w :: caps)=some [(.int .i64 (dF im w),false)]) (hr:∀ v∈im,v.length≤1000000) (hl:l.length≤lim) (hI0:wcI im l 0) {st:St} (h:st.head [0,1,9,10,11] st.boxes.length=some ⟨sl 53 [(0,.pv (.list 3 (l.map iL))),(1,.pv (.func gf caps)),(9,.pv (.list 3 (l.map iL))),(10,.pv (.int .i64 l.length)),(11,.pv (.int .i64 (0:Nat)))],[],[],none⟩) :
  den env zZ st=resE 53 4 (DF im none l):=by
 unfold zZ
 refine Dv (env:=env) (l.length) (fun i=>wcI im l (i)) (fun i=>⟨sl 53 [(0,.pv (.list 3 (l.map iL))),(1,.pv (.func gf caps)),(9,.pv (.list 3 (l.map iL))),(10,.pv (.int .i64 l.length)),(11,.pv (.int .i64 i))],[],[],none⟩) (fun i=>resE 53 4 (DF im none l)) h hI0 (fun _=>rfl) (fun _=>by simp only [aO,bG,Nat.reduceMul,Nat.reduceBEq,Nat.reduceLT,Nat.reduceLeDiff,Nat.reduceAdd,decide_true,Bool.and_self,Bool.true_and]) ?_ ?_
 ·intro i rb hi hp ih
  have hi1:=bH hi hl
  have F1:((i:Int)<(l.length:Int))=True:=eq_true (by omega)
  have e1:=hcall _ (List.getElem_mem hi)
  have hA:=Nu hp hi
  have hx:=wO hi
  unfold iL at e1
  by_cases c1:dF im l[i]=0
  ·have G1:((0:Int) != 0)=false:=rfl
   rw [c1] at e1
   rw [if_neg (by simpa using c1)] at hA
   cases i with
   |zero =>
    have Z0:(((0:Nat):Int)==0)=true:=rfl
    simp only [lJ,F1,iR,Z0,G1,e1,hx,ak hi,aI,Nat.reduceMul,Nat.reduceBEq,Nat.reduceLT,Nat.reduceLeDiff,reduceCtorEq,Nat.reduceEqDiff,Nat.reduceAdd,Nat.beq]
    rw [ih (oV hp hi c1 rfl) _ (by simp only [hi1,aI,Nat.reduceMul,Nat.reduceBEq,Nat.reduceLT,Nat.reduceLeDiff,reduceCtorEq,Nat.reduceEqDiff,Nat.reduceAdd,Nat.beq]<;>rfl)]
   |succ j =>
    have hj:j<l.length:=by omega
    have hy:=wO hj
    have hpv:ny l (j+1)=some l[j]:=by simp only [ny,List.getElem?_eq_getElem hj]
    have Z:(((j+1:Nat):Int)==0)=false:=by simp;omega
    have W:IntKind.i64.wrap (((j+1:Nat):Int) - 1)=(j:Int):=by rw [show ((j+1:Nat):Int) - 1=(j:Int) by omega];exact bJ (by unfold lim at hl;omega)
    have q0:=hp.2 _ hpv
    obtain ⟨q1,q2,q3,q4⟩:=OH q0
    have q5:=DI hr l[j].volume.toNat
    have W2:IntKind.i64.wrap (l[j].start+(l[j].data.length:Int))=l[j].start+(l[j].data.length:Int):=bJ (by omega)
    by_cases c2:l[j+1].volume<l[j].volume
    ·have hb:oU l[j] l[j+1]=true:=by simp [oU,c2]
     have D1:(l[j+1].volume<l[j].volume)=True:=eq_true c2
     rw [hpv] at hA
     rw [if_pos hb] at hA
     rw [hA,rY (by decide)]
     simp only [lJ,F1,iR,Z,W,W2,D1,G1,e1,hx,hy,ak hi,ak hj,List.length_map,aI,Nat.reduceMul,Nat.reduceBEq,Nat.reduceLT,Nat.reduceLeDiff,reduceCtorEq,Nat.reduceEqDiff,Nat.reduceAdd,Nat.beq]
    ·have D1:(l[j+1].volume<l[j].volume)=False:=eq_false c2
     by_cases c3:l[j+1].volume=l[j].volume
     ·have D2:(l[j+1].volume==l[j].volume)=true:=by simp [c3]
      by_cases c4:l[j+1].start≤l[j].start+(l[j].data.length:Int)
      ·have D3:(l[j+1].start≤l[j].start+(l[j].data.length:Int))=True:=eq_true c4
       have hb:oU l[j] l[j+1]=true:=by simp [oU,c3,c4]
       rw [hpv] at hA
       rw [if_pos hb] at hA
       rw [hA,rY (by decide)]
       simp only [lJ,F1,iR,Z,W,W2,D1,D2,D3,G1,e1,hx,hy,ak hi,ak hj,List.length_map,aI,Nat.reduceMul,Nat.reduceBEq,Nat.reduceLT,Nat.reduceLeDiff,reduceCtorEq,Nat.reduceEqDiff,Nat.reduceAdd,Nat.beq]
      ·have D3:(l[j+1].start≤l[j].start+(l[j].data.length:Int))=False:=eq_false c4
       have hb:oU l[j] l[j+1]=false:=by simp [oU,c3];omega
       simp only [lJ,F1,iR,Z,W,W2,D1,D2,D3,G1,e1,hx,hy,ak hi,ak hj,List.length_map,aI,Nat.reduceMul,Nat.reduceBEq,Nat.reduceLT,Nat.reduceLeDiff,reduceCtorEq,Nat.reduceEqDiff,Nat.reduceAdd,Nat.beq]
       rw [ih (oV hp hi c1 (by rw [hpv];exact hb)) _ (by simp only [hi1,aI,Nat.reduceMul,Nat.reduceBEq,Nat.reduceLT,Nat.reduceLeDiff,reduceCtorEq,Nat.reduceEqDiff,Nat.reduceAdd,Nat.beq]<;>rfl)]
     ·have D2:(l[j+1].volume==l[j].volume)=false:=by simp [c3]
      have hb:oU l[j] l[j+1]=false:=by simp [oU,c3];omega
      simp only [lJ,F1,iR,Z,W,W2,D1,D2,G1,e1,hx,hy,ak hi,ak hj,List.length_map,aI,Nat.reduceMul,Nat.reduceBEq,Nat.reduceLT,Nat.reduceLeDiff,reduceCtorEq,Nat.reduceEqDiff,Nat.reduceAdd,Nat.beq]
      rw [ih (oV hp hi c1 (by rw [hpv];exact hb)) _ (by simp only [hi1,aI,Nat.reduceMul,Nat.reduceBEq,Nat.reduceLT,Nat.reduceLeDiff,reduceCtorEq,Nat.reduceEqDiff,Nat.reduceAdd,Nat.beq]<;>rfl)]
  ·have G1:(dF im l[i] != 0)=true:=by simp [c1]
   rw [if_pos c1] at hA
   rw [hA,rY c1]
   simp only [lJ,F1,iR,G1,e1,hx,ak hi,aI,Nat.reduceMul,Nat.reduceBEq,Nat.reduceLT,Nat.reduceLeDiff,reduceCtorEq,Nat.reduceEqDiff,Nat.reduceAdd,Nat.beq]
 ·intro rb hp
  have hA:=hp.1
  rw [List.drop_length] at hA
  rw [hA,show DF im (ny l l.length) []=0 by cases ny l l.length<;>rfl]
  rw [OG]
  simp only [lJ,Int.lt_irrefl,aI,Nat.reduceMul,Nat.reduceBEq,Nat.reduceLT,Nat.reduceLeDiff,reduceCtorEq,Nat.reduceEqDiff,Nat.reduceAdd,Nat.beq]
theorem ac5 {im:jl} {l:List jW} {gf:Nat} {caps:List PV} (hcall:∀ w∈l,cal env gf (iL w :: caps)=some [(.int .i64 (dF im w),false)]) (hr:∀ v∈im,v.length≤1000000) (hl:l.length≤lim) :
  cal env 104 [.list 3 (l.map iL),.func gf caps]=some [(.int .i64 (DF im none l),false)]:=by
 rw [ah acs rfl];simp only [Jm,aO,Nat.reduceBEq,Nat.reduceLeDiff,Nat.reduceAdd,List.length_cons,List.length_nil]
 simp only [List.length_map,aI,Nat.reduceMul,Nat.reduceBEq,Nat.reduceLT,Nat.reduceLeDiff,reduceCtorEq,Nat.reduceEqDiff,Nat.reduceAdd,Nat.beq]
 rw [aao hcall hr hl (afu im l)]
 rotate_left
 ·simp only [aO,bG,Nat.reduceMul,Nat.reduceBEq,Nat.reduceLT,Nat.reduceLeDiff,Nat.reduceAdd,decide_true,Bool.and_self,Bool.true_and]<;>rfl
 ·unfold resE
  split
  ·rename_i c
   rw [c]
   simp only [aI,Nat.reduceMul,Nat.reduceBEq,Nat.reduceLT,Nat.reduceLeDiff,reduceCtorEq,Nat.reduceEqDiff,Nat.reduceAdd,Nat.beq]
  ·simp only [aI,Nat.reduceMul,Nat.reduceBEq,Nat.reduceLT,Nat.reduceLeDiff,reduceCtorEq,Nat.reduceEqDiff,Nat.reduceAdd,Nat.beq]
theorem yg {z:List Int} (h:aX z=0):dD (dH z)=z:=by
 unfold dD dH
 rw [List.map_map]
 conv=>rhs;rw [← List.map_id z]
 refine List.map_congr_left fun x hx=>?_
 unfold aX at h
 split at h
 ·omega
 ·split at h
  ·omega
  ·rename_i h2
   simp only [List.any_eq_true,not_exists,not_and,Bool.not_eq_true] at h2
   have:=h2 x hx
   simp at this
   simp;omega
theorem qm (z:List Int):(dH z).length=z.length:=by unfold dH;simp
theorem DJ {z:List Int} (h:aX z=0):∀ v∈dH z,v.length≤4096:=fun v hv=>by
 unfold dH at hv
 obtain ⟨x,hx,rfl⟩:=List.mem_map.1 hv
 unfold aX at h
 split at h
 ·omega
 ·split at h
  ·omega
  ·rename_i h2
   simp only [List.any_eq_true,not_exists,not_and,Bool.not_eq_true] at h2
   have:=h2 x hx
   simp at this
   simp;omega
theorem Nv {z:List Int} (h:aX z=0):kN (dH z)=0:=by
 show aX (dD (dH z))=0
 rw [yg h];exact h
theorem Nw {z:List Int} (h:aX z=0) (w:jW):Aq (dH z) w=dF (dH z) w:=by
 unfold Aq
 rw [if_neg (by rw [Nv h];simp)]
def wkE (z:List Int) (l:List jW):Int:=if aX z=0 then DF (dH z) none l else aX z
theorem aap {im:jl} {w:jW} (hl:im.length≤lim) (hr:∀ v∈im,v.length≤lim) (hd:w.data.length≤lim):cal env 105 [iL w,.fG [.list 1 (im.map bC)] 0]=some [(.int .i64 (Aq im w),false)]:=by
 have e1:=acN hl hr hd
 unfold iL at *
 rw [ah acu rfl];simp only [Jo];simp only [start,aG,aN,aC,aK,aA,aB,aF,aJ,Nat.reduceAdd,Nat.reduceSub]
 simp only [e1,aY,reduceCtorEq,Nat.reduceEqDiff,Nat.reduceAdd,Nat.reduceLT,Nat.reduceLeDiff,Nat.beq]
theorem ac6 {z:List Int} {l:List jW} (hz:z.length≤lim) (hl:l.length≤lim) (hd:∀ w∈l,w.data.length≤lim) :
  cal env 74 [.list 3 (l.map iL),.list 1 (z.map eI)]=some [(.int .i64 (wkE z l),false)]:=by
 have e1:=Xa hz
 unfold wkE
 by_cases c:aX z=0
 ·rw [if_pos c]
  have hr:=DJ c
  have e2:=ac5 (im:=dH z) (l:=l) (gf:=105) (caps:=[.fG [.list 1 ((dH z).map bC)] 0]) (fun w hw=>by
   have:=aap (im:=dH z) (w:=w) (by rw [qm];exact hz) (fun v hv=>by have:=hr v hv;unfold lim;omega) (hd w hw)
   rw [Nw c] at this
   exact this) (fun v hv=>by have:=hr v hv;omega) hl
  rw [c,if_pos rfl] at e1
  have Z:((0:Int) != 0)=false:=rfl
  rw [ah aaZ rfl];simp only [Rx];simp only [start,aG,aN,aC,aK,aA,aB,aF,aJ,Nat.reduceAdd,Nat.reduceSub]
  simp only [e1,e2,Z,aY,reduceCtorEq,Nat.reduceEqDiff,Nat.reduceAdd,Nat.reduceLT,Nat.reduceLeDiff,Nat.beq]
 ·rw [if_neg c] at e1
  rw [if_neg c]
  have Z:(aX z != 0)=true:=by simp [c]
  rw [ah aaZ rfl];simp only [Rx];simp only [start,aG,aN,aC,aK,aA,aB,aF,aJ,Nat.reduceAdd,Nat.reduceSub]
  simp only [e1,Z,aY,reduceCtorEq,Nat.reduceEqDiff,Nat.reduceAdd,Nat.reduceLT,Nat.reduceLeDiff,Nat.beq]
end Go.Proofs.YtpcncggjmabnaaaGreatDoor.V
