/-
  Part 4 of the texts that the statement stands on.
-/
import Derived.Test.YtdahanchdjadiaaDoorZ3
import Derived.Lib.TrailingZeros
set_option linter.all false
namespace Go.Proofs.YtdahanchdjadiaaDoor
def sN:List PV:=[.int .i64 0,.int .i64 0,.list 1 [],.int .i64 0,.list 1 [],.list 1 []]++(List.replicate 120 (.int .i64 0)++[.list 5 [],.int .i64 0,.bool false])
def Dy:aA:=(.seq (.seq (.ops [.au 38 (.t 12),.au 39 (.t 2),.len 40 (.t 39),.bin 41 .lss (.t 38) (.t 40),.au 42 (.t 41),.grd 42 true (.aB 43 (.t 11) 128),.grd 42 true (.load 44 none (.t 43)),.pick 45 (.t 42) (.t 44) (.c (.bool false))]) (.cond (.t 45) .skip (.exit 0))) (.seq (.block 1 (.seq (.seq (.drs [] [2,7,8,11,12,13] [.load 48 (some 129) (.t 11),.au 49 (.t 2),.au 50 (.t 12),.fK 51 4 (.t 49) (.t 50),.load 52 (some 4) (.t 51),.call 53 13 [(.t 48),(.t 52)],.alloc 13 sN,.store none 129 (.t 13) (.t 53)]
    [⟨[([0,1,2,3,4],5),([],6)],(some ([],[],7,[])),[],[0,1,2,3,4,5,6,7],false⟩,⟨[([0,1,2,3,4],6),([],5)],(some ([],[],7,[])),[],[0,1,2,3,4,6,5,7],false⟩]) (.seq (.ops [.aB 54 (.t 13) 126,.load 55 none (.t 54),.len 56 (.t 55),.aB 57 (.t 11) 126,.load 58 none (.t 57),.len 59 (.t 58),.bin 60 .leq (.t 56) (.t 59),.au 61 (.t 60),.grd 61 false (.load 62 (some 129) (.t 13)),.grd 61 false (.aB 63 (.t 13) 126),.grd 61 false (.load 64 none (.t 63)),.grd 61 false (.len 65 (.t 64)),.grd 61 false (.bin 66 .sub (.t 65) (.c (.int .i64 1))),.grd 61 false (.call 67 14 [(.t 62),(.t 66)]),.grd 61 false (.un 68 .not (.t 67)),.pick 69 (.t 61) (.c (.bool true)) (.t 68)]) (.cond (.t 69) (.ops [.load 70 (some 129) (.t 13),.store none 129 (.t 11) (.t 70)]) .skip))) (.seq (.ops [.load 71 (some 129) (.t 11),.au 72 (.t 7),.au 73 (.t 8),.call 74 15 [(.t 71),(.t 72),(.t 73)],.un 75 .not (.t 74)]) (.cond (.t 75) (.seq (.ops [.aC 6 (.c (.bool false))]) .ret) .skip)))) (.ops [.au 46 (.t 12),.bin 47 .add (.t 46) (.c (.int .i64 1)),.aC 12 (.t 47)])))
def Pn:aA :=
(.clean [2,7,8,11,12] [6,11] (.block 0 (.loop [2,7,8,11,12] Dy)))
def fn4:je:=⟨3,81,[.tmp 6],(.seq (.ops [.aC 6 (.c (.bool false))]) (.seq (.seq (.ops [.au 14 (.t 2),.len 15 (.t 14),.bin 16 .gtr (.t 15) (.c (.int .i64 40))]) (.cond (.t 16) (.seq (.ops [.call 17 8 [],.aC 6 (.t 17)]) .ret) .skip)) (.seq (.ops [.au 18 (.t 0),.bin 19 .rem (.t 18) (.c (.int .u8 60)),.conv 20 .i64 (.t 19),.bin 21 .add (.c (.int .i64 1)) (.t 20),.au 22 (.t 1),.bin 23 .rem (.t 22) (.c (.int .u8 20)),.conv 24 .i64 (.t 23),.bin 25 .add (.c (.int .i64 1)) (.t 24),.aC 7 (.t 21),.aC 8 (.t 25)]) (.seq (.ops [.au 27 (.t 7),.au 28 (.t 8),.call 29 9 [(.t 27),(.t 28)],.au 26 (.t 29),.ext 30 (.t 26) 0,.ext 31 (.t 26) 1,.alloc 9 [(.int .i64 0),(.int .i64 0),(.list 1 []),(.int .i64 0),(.list 1 [])],.store none 5 (.t 9) (.t 30),.aC 10 (.t 31)]) (.seq (.drs [] [2,7,8,11] [.load 32 (some 5) (.t 9),.load 33 (some 5) (.t 9),.call 34 12 [(.t 33)],.au 35 (.t 10),.bin 36 .eql (.t 35) (.c (.int .i64 0)),.build 37 sN [(0,5,(.t 32)),(5,1,(.t 34)),(128,1,(.t 36))],.alloc 11 sN,.store none 129 (.t 11) (.t 37)]
    [⟨[([0,1,3,4],2),([5],6)],(some ([],[],7,[])),[],[0,1,3,4,2,5,6,7],false⟩,⟨[([0,1,3,4],6),([],2)],(some ([5],[],7,[])),[],[0,1,3,4,6,2,5,7],false⟩]) (.seq (.seq (.ops [.aC 12 (.c (.int .i64 0))])
    Pn) (.seq (.ops [.call 76 8 [],.au 77 (.t 76),.grd 77 true (.aB 78 (.t 11) 128),.grd 77 true (.load 79 none (.t 78)),.pick 80 (.t 77) (.t 79) (.c (.bool false)),.aC 6 (.t 80)]) .ret)))))))⟩
def fn8:je:=⟨0,107,[.tmp 0],(.seq (.ops [.aC 0 (.c (.bool false))]) (.seq (.ops [.call 11 9 [(.c (.int .i64 20)),(.c (.int .i64 8))],.au 10 (.t 11),.ext 12 (.t 10) 0,.ext 13 (.t 10) 1,.alloc 1 [(.int .i64 0),(.int .i64 0),(.list 1 []),(.int .i64 0),(.list 1 [])],.store none 5 (.t 1) (.t 12),.aC 2 (.t 13)]) (.seq (.ops [.load 15 (some 5) (.t 1),.build 16 [(.int .i64 0),(.int .i64 0)] [(0,1,(.c (.int .i64 6))),(1,1,(.c (.int .i64 4)))],.call 17 16 [(.t 15),(.t 16)],.au 14 (.t 17),.ext 18 (.t 14) 0,.ext 19 (.t 14) 1,.ext 20 (.t 14) 2,.store none 5 (.t 1) (.t 18),.aC 3 (.t 19),.aC 4 (.t 20)]) (.seq (.ops [.load 22 (some 5) (.t 1),.build 23 [(.int .i64 0),(.int .i64 0)] [(0,1,(.c (.int .i64 9))),(1,1,(.c (.int .i64 1)))],.call 24 16 [(.t 22),(.t 23)],.au 21 (.t 24),.ext 25 (.t 21) 0,.ext 26 (.t 21) 1,.ext 27 (.t 21) 2,.store none 5 (.t 1) (.t 25),.aC 5 (.t 26),.aC 6 (.t 27)]) (.seq (.ops [.load 29 (some 5) (.t 1),.call 30 12 [(.t 29)],.call 31 19 [(.c (.int .i64 20)),(.c (.int .i64 8)),(.t 30)],.au 28 (.t 31),.ext 32 (.t 28) 0,.ext 33 (.t 28) 1,.ext 34 (.t 28) 2,.alloc 7 [(.int .i64 0),(.int .i64 0),(.list 1 []),(.int .i64 0),(.list 1 [])],.store none 5 (.t 7) (.t 32),.aC 8 (.t 33),.aC 9 (.t 34)]) (.seq (.seq (.ops [.au 35 (.t 2),.bin 36 .neq (.t 35) (.c (.int .i64 0)),.au 37 (.t 36),.grd 37 false (.au 38 (.t 4)),.grd 37 false (.bin 39 .neq (.t 38) (.c (.int .i64 0))),.pick 40 (.t 37) (.c (.bool true)) (.t 39),.au 41 (.t 40),.grd 41 false (.au 42 (.t 6)),.grd 41 false (.bin 43 .neq (.t 42) (.c (.int .i64 0))),.pick 44 (.t 41) (.c (.bool true)) (.t 43),.au 45 (.t 44),.grd 45 false (.au 46 (.t 9)),.grd 45 false (.bin 47 .neq (.t 46) (.c (.int .i64 0))),.pick 48 (.t 45) (.c (.bool true)) (.t 47),.au 49 (.t 48),.grd 49 false (.au 50 (.t 3)),.grd 49 false (.un 51 .not (.t 50)),.pick 52 (.t 49) (.c (.bool true)) (.t 51),.au 53 (.t 52),.grd 53 false (.au 54 (.t 5)),.pick 55 (.t 53) (.c (.bool true)) (.t 54),.au 56 (.t 55),.grd 56 false (.au 57 (.t 8)),.grd 56 false (.build 58 [(.int .i64 0),(.int .i64 0)] [(1,1,(.c (.int .i64 16)))]),.grd 56 false (.mP 59 2 [(.t 58)]),.grd 56 false (.call 60 25 [(.t 57),(.t 59)]),.grd 56 false (.un 61 .not (.t 60)),.pick 62 (.t 56) (.c (.bool true)) (.t 61)]) (.cond (.t 62) (.seq (.ops [.aC 0 (.c (.bool false))]) .ret) .skip)) (.seq (.ops [.load 64 (some 5) (.t 1),.build 65 [(.int .i64 0),(.int .i64 0)] [(0,1,(.c (.int .i64 6))),(1,1,(.c (.int .i64 4)))],.call 66 17 [(.t 64),(.t 65)],.au 63 (.t 66),.ext 67 (.t 63) 0,.ext 68 (.t 63) 1,.store none 5 (.t 1) (.t 67),.aC 2 (.t 68)]) (.seq (.ops [.load 70 (some 5) (.t 1),.call 71 18 [(.t 70)],.au 69 (.t 71),.ext 72 (.t 69) 0,.ext 73 (.t 69) 1,.store none 5 (.t 1) (.t 72),.aC 3 (.t 73)]) (.seq (.ops [.au 74 (.t 2),.bin 75 .eql (.t 74) (.c (.int .i64 0)),.au 76 (.t 75),.grd 76 true (.au 77 (.t 3)),.pick 78 (.t 76) (.t 77) (.c (.bool false)),.au 79 (.t 78),.grd 79 true (.aB 80 (.t 1) 2),.grd 79 true (.load 81 none (.t 80)),.grd 79 true (.len 82 (.t 81)),.grd 79 true (.bin 83 .eql (.t 82) (.c (.int .i64 3))),.pick 84 (.t 79) (.t 83) (.c (.bool false)),.au 85 (.t 84),.grd 85 true (.aB 86 (.t 1) 2),.grd 85 true (.load 87 none (.t 86)),.grd 85 true (.fK 88 1 (.t 87) (.c (.int .i64 0))),.grd 85 true (.load 89 none (.t 88)),.grd 85 true (.bin 90 .eql (.t 89) (.c (.int .i64 0))),.pick 91 (.t 85) (.t 90) (.c (.bool false)),.au 92 (.t 91),.grd 92 true (.aB 93 (.t 1) 2),.grd 92 true (.load 94 none (.t 93)),.grd 92 true (.fK 95 1 (.t 94) (.c (.int .i64 1))),.grd 92 true (.load 96 none (.t 95)),.grd 92 true (.bin 97 .eql (.t 96) (.c (.int .i64 1))),.pick 98 (.t 92) (.t 97) (.c (.bool false)),.au 99 (.t 98),.grd 99 true (.aB 100 (.t 1) 3),.grd 99 true (.load 101 (some 2) (.t 100)),.grd 99 true (.call 102 26 [(.t 101)]),.grd 99 true (.build 103 [(.int .i64 0),(.int .i64 0)] [(0,1,(.c (.int .i64 1))),(1,1,(.c (.int .i64 1)))]),.grd 99 true (.mP 104 2 [(.t 103)]),.grd 99 true (.call 105 25 [(.t 102),(.t 104)]),.pick 106 (.t 99) (.t 105) (.c (.bool false)),.aC 0 (.t 106)]) .ret)))))))))⟩
def fn9:je:=⟨2,29,[.cell 4 (some 5),.tmp 5],(.seq (.ops [.alloc 4 [(.int .i64 0),(.int .i64 0),(.list 1 []),(.int .i64 0),(.list 1 [])],.aC 5 (.c (.int .i64 0))]) (.seq (.seq (.ops [.au 9 (.t 0),.au 10 (.t 1),.call 11 27 [(.t 9),(.t 10)],.un 12 .not (.t 11)]) (.cond (.t 12) (.seq (.ops [.build 13 [(.int .i64 0),(.int .i64 0),(.list 1 []),(.int .i64 0),(.list 1 [])] [],.store none 5 (.t 4) (.t 13),.aC 5 (.c (.int .i64 2))]) .ret) .skip)) (.seq (.ops [.au 14 (.t 0),.au 15 (.t 1),.call 16 28 [(.t 14),(.t 15)],.aC 6 (.t 16)]) (.seq (.ops [.au 18 (.t 6),.call 19 29 [(.t 18)],.au 17 (.t 19),.ext 20 (.t 17) 0,.ext 21 (.t 17) 1,.alloc 7 [(.int .i64 0),(.list 1 [])],.store none 2 (.t 7) (.t 20),.aC 8 (.t 21)]) (.seq (.zi [] [([0,1,2,4,6],3)] (some ([5],[],7,[])) [8] [.au 22 (.t 0),.au 23 (.t 1),.au 24 (.t 6),.load 26 (some 2) (.t 7),.au 28 (.t 8),.make 25 (.int .i64 0) (.t 24) (.t 24),.build 27 [(.int .i64 0),(.int .i64 0),(.list 1 []),(.int .i64 0),(.list 1 [])] [(0,1,(.t 22)),(1,1,(.t 23)),(2,1,(.t 25)),(3,2,(.t 26))],.store none 5 (.t 4) (.t 27),.aC 5 (.t 28)]) .ret)))))⟩
def UD:je:=⟨1,18,[.tmp 2],(.seq (.ops [.box 1 (.t 0),.aC 2 (.nil 1)]) (.seq (.seq (.ops [.load 4 (some 5) (.t 1),.call 5 33 [(.t 4)],.bin 6 .neq (.t 5) (.c (.int .i64 0))]) (.cond (.t 6) (.seq (.ops [.aC 2 (.nil 1)]) .ret) .skip)) (.seq (.zi [] [([0,1,3,4],2),([],5)] none [6] [.aB 7 (.t 1) 0,.load 8 none (.t 7),.aB 10 (.t 1) 1,.load 11 none (.t 10),.call 9 34 [(.nil 1),(.t 8)],.call 12 34 [(.t 9),(.t 11)],.aC 3 (.t 12)]) (.seq (.ops [.au 13 (.t 3),.aB 14 (.t 1) 3,.load 15 (some 2) (.t 14),.call 16 36 [(.t 15)],.call 17 35 [(.t 13),(.t 16)],.aC 2 (.t 17)]) .ret))))⟩
def yM:aA:=(.seq (.seq (.ops [.au 59 (.t 9),.aB 60 (.t 8) 0,.aB 61 (.t 60) 0,.load 62 none (.t 61),.aB 63 (.t 8) 0,.aB 64 (.t 63) 1,.load 65 none (.t 64),.bin 66 .add (.t 62) (.t 65),.bin 67 .lss (.t 59) (.t 66),.au 68 (.t 67),.grd 68 true (.au 69 (.t 9)),.grd 68 true (.bin 70 .lss (.t 69) (.c (.int .i64 60))),.pick 71 (.t 68) (.t 70) (.c (.bool false))]) (.cond (.t 71) .skip (.exit 0))) (.seq (.block 1 (.seq (.seq (.ops [.aB 74 (.t 3) 0,.load 75 none (.t 74),.bin 76 .rem (.t 75) (.c (.int .u8 5)),.bin 77 .eql (.t 76) (.c (.int .u8 1))]) (.cond (.t 77) (.ops [.au 78 (.t 9),.aB 79 (.t 8) 4,.load 80 none (.t 79),.aB 81 (.t 2) 6,.qN 82 (.t 81) (.t 78) 60 1,.store none 1 (.t 82) (.t 80)]) .skip)) (.seq (.ops [.aB 83 (.t 3) 0,.load 84 none (.t 83),.bin 85 .rem (.t 84) (.c (.int .u8 5)),.bin 86 .eql (.t 85) (.c (.int .u8 2))]) (.cond (.t 86) (.ops [.au 87 (.t 9),.aB 88 (.t 8) 4,.load 89 none (.t 88),.aB 90 (.t 2) 66,.qN 91 (.t 90) (.t 87) 60 1,.store none 1 (.t 91) (.t 89)]) .skip)))) (.ops [.au 72 (.t 9),.bin 73 .add (.t 72) (.c (.int .i64 1)),.aC 9 (.t 73)])))
def Ib:aA :=
(.clean [2,3,4,7,8,9] [2,3,4,7,8] (.block 0 (.loop [2,3,4,7,8,9] yM)))
def Bj:je:=⟨2,168,[.cell 4 (some 129)],(.seq (.ops [.box 2 (.t 0),.box 3 (.t 1),.alloc 4 sN]) (.seq (.seq (.ops [.aB 12 (.t 3) 0,.load 13 none (.t 12),.bin 14 .rem (.t 13) (.c (.int .u8 5)),.bin 15 .eql (.t 14) (.c (.int .u8 0))]) (.cond (.t 15) (.seq (.ops [.load 16 (some 129) (.t 2),.load 17 (some 4) (.t 3),.call 18 37 [(.t 16),(.t 17)],.store none 129 (.t 4) (.t 18)]) .ret) .skip)) (.seq (.seq (.ops [.aB 19 (.t 3) 0,.load 20 none (.t 19),.bin 21 .rem (.t 20) (.c (.int .u8 5)),.bin 22 .eql (.t 21) (.c (.int .u8 4))]) (.cond (.t 22) (.seq (.ops [.aB 24 (.t 2) 0,.load 25 (some 5) (.t 24),.call 26 18 [(.t 25)],.au 23 (.t 26),.ext 27 (.t 23) 0,.ext 28 (.t 23) 1,.alloc 5 [(.int .i64 0),(.int .i64 0),(.list 1 []),(.int .i64 0),(.list 1 [])],.store none 5 (.t 5) (.t 27),.aC 6 (.t 28)]) (.seq (.ops [.load 29 (some 5) (.t 5),.aB 30 (.t 2) 0,.store none 5 (.t 30) (.t 29)]) (.seq (.seq (.ops [.aB 31 (.t 3) 1,.load 32 none (.t 31),.bin 33 .rem (.t 32) (.c (.int .u8 2)),.bin 34 .eql (.t 33) (.c (.int .u8 0))]) (.cond (.t 34) (.ops [.load 35 (some 5) (.t 5),.call 36 12 [(.t 35)],.aB 37 (.t 2) 5,.store none 1 (.t 37) (.t 36)]) .skip)) (.seq (.ops [.load 38 (some 129) (.t 2),.store none 129 (.t 4) (.t 38)]) .ret)))) .skip)) (.seq (.seq (.ops [.aB 39 (.t 2) 126,.load 40 none (.t 39),.len 41 (.t 40),.bin 42 .eql (.t 41) (.c (.int .i64 0))]) (.cond (.t 42) (.seq (.ops [.load 43 (some 129) (.t 2),.store none 129 (.t 4) (.t 43)]) .ret) .skip)) (.seq (.ops [.aB 44 (.t 3) 1,.load 45 none (.t 44),.conv 46 .i64 (.t 45),.aB 47 (.t 2) 126,.load 48 none (.t 47),.len 49 (.t 48),.bin 50 .rem (.t 46) (.t 49),.aC 7 (.t 50)]) (.seq (.ops [.aB 51 (.t 2) 126,.load 52 none (.t 51),.au 53 (.t 7),.fK 54 5 (.t 52) (.t 53),.load 55 (some 5) (.t 54),.alloc 8 [(.int .i64 0),(.int .i64 0),(.bool false),(.bool false),(.int .i64 0)],.store none 5 (.t 8) (.t 55)]) (.seq (.seq (.ops [.aB 56 (.t 8) 0,.aB 57 (.t 56) 0,.load 58 none (.t 57),.aC 9 (.t 58)])
     Ib) (.seq (.zi [(.t 3)] [] (some ([0,1,2,3,4,5,6,7,8,9,10,16],[11,12,13,14,15],17,[([18],19)])) [] [.aB 92 (.t 8) 2,.load 93 none (.t 92),.au 94 (.t 93),.grd 94 false (.aB 95 (.t 3) 0),.grd 94 false (.load 96 none (.t 95)),.grd 94 false (.bin 97 .rem (.t 96) (.c (.int .u8 5))),.grd 94 false (.bin 98 .eql (.t 97) (.c (.int .u8 1))),.pick 99 (.t 94) (.c (.bool true)) (.t 98),.aB 100 (.t 8) 3,.load 101 none (.t 100),.au 102 (.t 101),.aB 108 (.t 8) 2,.grd 102 false (.aB 103 (.t 3) 0),.grd 102 false (.JF 104 none (.t 103)),.grd 102 false (.bin 105 .rem (.t 104) (.c (.int .u8 5))),.grd 102 false (.bin 106 .eql (.t 105) (.c (.int .u8 2))),.pick 107 (.t 102) (.c (.bool true)) (.t 106),.store none 1 (.t 108) (.t 99),.aB 109 (.t 8) 3,.store none 1 (.t 109) (.t 107)]) (.seq (.ops [.mP 110 5 [],.aB 111 (.t 2) 126,.load 112 none (.t 111),.app 113 5 (.t 110) (.t 112),.aB 114 (.t 2) 126,.store none 1 (.t 114) (.t 113)]) (.seq (.ops [.aB 115 (.t 2) 126,.load 116 none (.t 115),.au 117 (.t 7),.load 118 (some 5) (.t 8),.fK 119 5 (.t 116) (.t 117),.store none 5 (.t 119) (.t 118)]) (.seq (.seq (.ops [.aB 120 (.t 3) 0,.load 121 none (.t 120),.bin 122 .rem (.t 121) (.c (.int .u8 5)),.bin 123 .eql (.t 122) (.c (.int .u8 3)),.au 124 (.t 123),.grd 124 true (.aB 125 (.t 8) 2),.grd 124 true (.load 126 none (.t 125)),.pick 127 (.t 124) (.t 126) (.c (.bool false)),.au 128 (.t 127),.grd 128 true (.aB 129 (.t 8) 3),.grd 128 true (.load 130 none (.t 129)),.pick 131 (.t 128) (.t 130) (.c (.bool false)),.au 132 (.t 131),.grd 132 true (.load 133 (some 129) (.t 2)),.grd 132 true (.au 134 (.t 7)),.grd 132 true (.call 135 14 [(.t 133),(.t 134)]),.grd 132 true (.un 136 .not (.t 135)),.pick 137 (.t 132) (.t 136) (.c (.bool false))]) (.cond (.t 137) (.seq (.ops [.aB 139 (.t 2) 0,.load 140 (some 5) (.t 139),.aB 141 (.t 8) 0,.load 142 (some 2) (.t 141),.call 143 17 [(.t 140),(.t 142)],.au 138 (.t 143),.ext 144 (.t 138) 0,.ext 145 (.t 138) 1,.alloc 10 [(.int .i64 0),(.int .i64 0),(.list 1 []),(.int .i64 0),(.list 1 [])],.store none 5 (.t 10) (.t 144),.aC 11 (.t 145)]) (.seq (.ops [.load 146 (some 5) (.t 10),.aB 147 (.t 2) 128,.load 148 none (.t 147),.au 149 (.t 148),.grd 149 true (.au 150 (.t 11)),.grd 149 true (.bin 151 .eql (.t 150) (.c (.int .i64 0))),.pick 152 (.t 149) (.t 151) (.c (.bool false)),.aB 153 (.t 2) 0,.store none 5 (.t 153) (.t 146),.aB 154 (.t 2) 128,.store none 1 (.t 154) (.t 152)]) (.zi [] [] (some ([0,1,2,3,4,5,6,7,8,9],[],10,[([11],12)])) [] [.aB 155 (.t 2) 126,.load 156 none (.t 155),.au 157 (.t 7),.au 158 (.t 7),.sl3 159 5 (.t 156) (.t 157) (.t 158),.aB 160 (.t 2) 126,.load 161 none (.t 160),.au 162 (.t 7),.bin 163 .add (.t 162) (.c (.int .i64 1)),.Qh 164 5 (.t 161) (some (.t 163)) none,.VL 165 5 (.t 159) (.t 164),.aB 166 (.t 2) 126,.store none 1 (.t 166) (.t 165)]))) .skip)) (.seq (.ops [.load 167 (some 129) (.t 2),.store none 129 (.t 4) (.t 167)]) .ret))))))))))))⟩
def vY:aA:=(.seq (.seq (.ops [.au 14 (.t 6),.aB 15 (.t 2) 126,.load 16 none (.t 15),.len 17 (.t 16),.bin 18 .lss (.t 14) (.t 17)]) (.cond (.t 18) .skip (.exit 0))) (.seq (.block 1 (.seq (.ops [.aB 21 (.t 2) 126,.load 22 none (.t 21),.au 23 (.t 6),.fK 24 5 (.t 22) (.t 23),.aB 25 (.t 24) 0,.load 26 (some 2) (.t 25),.alloc 7 [(.int .i64 0),(.int .i64 0)],.store none 2 (.t 7) (.t 26)]) (.seq (.ops [.au 27 (.t 6),.au 28 (.t 1),.bin 29 .neq (.t 27) (.t 28),.au 30 (.t 29),.grd 30 true (.aB 31 (.t 5) 0),.grd 30 true (.load 32 none (.t 31)),.grd 30 true (.aB 33 (.t 7) 0),.grd 30 true (.load 34 none (.t 33)),.grd 30 true (.aB 35 (.t 7) 1),.grd 30 true (.load 36 none (.t 35)),.grd 30 true (.bin 37 .add (.t 34) (.t 36)),.grd 30 true (.bin 38 .lss (.t 32) (.t 37)),.pick 39 (.t 30) (.t 38) (.c (.bool false)),.au 40 (.t 39),.grd 40 true (.aB 41 (.t 7) 0),.grd 40 true (.load 42 none (.t 41)),.grd 40 true (.aB 43 (.t 5) 0),.grd 40 true (.load 44 none (.t 43)),.grd 40 true (.aB 45 (.t 5) 1),.grd 40 true (.load 46 none (.t 45)),.grd 40 true (.bin 47 .add (.t 44) (.t 46)),.grd 40 true (.bin 48 .lss (.t 42) (.t 47)),.pick 49 (.t 40) (.t 48) (.c (.bool false))]) (.cond (.t 49) (.seq (.ops [.aC 4 (.c (.bool true))]) .ret) .skip)))) (.ops [.au 19 (.t 6),.bin 20 .add (.t 19) (.c (.int .i64 1)),.aC 6 (.t 20)])))
def Ic:aA :=
(.clean [1,2,5,6] [4] (.block 0 (.loop [1,2,5,6] vY)))
def X8:je:=⟨2,50,[.tmp 4],(.seq (.ops [.box 2 (.t 0),.aC 4 (.c (.bool false))]) (.seq (.ops [.aB 8 (.t 2) 126,.load 9 none (.t 8),.au 10 (.t 1),.fK 11 5 (.t 9) (.t 10),.aB 12 (.t 11) 0,.load 13 (some 2) (.t 12),.alloc 5 [(.int .i64 0),(.int .i64 0)],.store none 2 (.t 5) (.t 13)]) (.seq (.seq (.ops [.aC 6 (.c (.int .i64 0))])
   Ic) (.seq (.ops [.aC 4 (.c (.bool false))]) .ret))))⟩
def yN:aA:=(.seq (.seq (.ops [.au 29 (.t 12),.au 30 (.t 8),.len 31 (.t 30),.bin 32 .lss (.t 29) (.t 31)]) (.cond (.t 32) .skip (.exit 2))) (.seq (.block 3 (.zi [] [] none [0,1,2,3,4,5,6,7,8,9,10,11,12,13,14,15,16,17,18,19,20,21,22,23,24,25] [.au 35 (.t 11),.au 36 (.t 35),.grd 36 false (.au 37 (.t 10)),.grd 36 false (.au 38 (.t 8)),.grd 36 false (.au 39 (.t 12)),.grd 36 false (.fK 40 2 (.t 38) (.t 39)),.grd 36 false (.aB 41 (.t 40) 0),.grd 36 false (.load 42 none (.t 41)),.grd 36 false (.bin 43 .geq (.t 37) (.t 42)),.grd 36 false (.au 44 (.t 43)),.grd 44 true (.au 45 (.t 10)),.grd 44 true (.au 46 (.t 8)),.grd 44 true (.au 47 (.t 12)),.grd 44 true (.fK 48 2 (.t 46) (.t 47)),.grd 44 true (.aB 49 (.t 48) 0),.grd 44 true (.load 50 none (.t 49)),.grd 44 true (.au 51 (.t 8)),.grd 44 true (.au 52 (.t 12)),.grd 44 true (.fK 53 2 (.t 51) (.t 52)),.grd 44 true (.aB 54 (.t 53) 1),.grd 44 true (.load 55 none (.t 54)),.grd 44 true (.bin 56 .add (.t 50) (.t 55)),.grd 44 true (.bin 57 .lss (.t 45) (.t 56)),.grd 36 false (.pick 58 (.t 44) (.t 57) (.c (.bool false))),.pick 59 (.t 36) (.c (.bool true)) (.t 58),.aC 11 (.t 59)])) (.ops [.au 33 (.t 12),.bin 34 .add (.t 33) (.c (.int .i64 1)),.aC 12 (.t 34)])))
def Ie:aA :=
(.clean [1,3,8,10,11,12,20] [1,3,6,8,10,11,20] (.block 2 (.loop [1,3,8,10,11,12,20] yN)))
def Ig:aA:=(.seq (.seq (.ops [.au 24 (.t 10),.au 25 (.t 1),.bin 26 .lss (.t 24) (.t 25)]) (.cond (.t 26) .skip (.exit 0))) (.seq (.block 1 (.seq (.ops [.aC 11 (.c (.bool false))]) (.seq (.seq (.ops [.aC 12 (.c (.int .i64 0))])
    Ie) (.seq (.zi [] [] none [0,1,2,3,4,5,6,7,8,9,10,11,12] [.au 60 (.t 10),.aB 61 (.t 3) 6,.qN 62 (.t 61) (.t 60) 60 1,.load 63 none (.t 62),.au 64 (.t 10),.aB 65 (.t 3) 66,.qN 66 (.t 65) (.t 64) 60 1,.load 67 none (.t 66),.bin 68 .neq (.t 63) (.t 67),.au 69 (.t 68),.grd 69 true (.au 70 (.t 11)),.grd 69 true (.un 71 .not (.t 70)),.pick 72 (.t 69) (.t 71) (.c (.bool false))]) (.cond (.t 72) (.seq (.ops [.aC 6 (.c (.bool false))]) .ret) .skip))))) (.ops [.au 27 (.t 10),.bin 28 .add (.t 27) (.c (.int .i64 1)),.aC 10 (.t 28)])))
def Ih:aA :=
(.clean [1,3,8,10,20] [6] (.block 0 (.loop [1,3,8,10,20] Ig)))
def X9:je:=⟨3,73,[.tmp 6],(.seq (.ops [.box 3 (.t 0),.aC 6 (.c (.bool false))]) (.seq (.ops [.au 14 (.t 1),.au 15 (.t 2),.aB 16 (.t 3) 5,.load 17 none (.t 16),.call 18 19 [(.t 14),(.t 15),(.t 17)],.au 13 (.t 18),.ext 19 (.t 13) 0,.ext 20 (.t 13) 1,.ext 21 (.t 13) 2,.alloc 7 [(.int .i64 0),(.int .i64 0),(.list 1 []),(.int .i64 0),(.list 1 [])],.store none 5 (.t 7) (.t 19),.aC 8 (.t 20),.aC 9 (.t 21)]) (.seq (.seq (.ops [.au 22 (.t 9),.bin 23 .neq (.t 22) (.c (.int .i64 0))]) (.cond (.t 23) (.seq (.ops [.aC 6 (.c (.bool false))]) .ret) .skip)) (.seq (.seq (.ops [.aC 10 (.c (.int .i64 0))])
   Ih) (.seq (.ops [.aC 6 (.c (.bool true))]) .ret)))))⟩
def Ii:aA:=(.ops [.aC 11 (.t 25)])
def Ij:aA:=(.block 1 (.ops [.load 26 none (.t 10),.au 27 (.t 26),.grd 27 false (.aB 28 (.t 2) 3),.grd 27 false (.load 29 (some 2) (.t 28)),.grd 27 false (.au 30 (.t 11)),.grd 27 false (.call 31 41 [(.t 29),(.t 30)]),.grd 27 false (.un 32 .not (.t 31)),.pick 33 (.t 27) (.c (.bool true)) (.t 32),.store none 1 (.t 10) (.t 33)]))
def UE:je:=⟨2,45,[.cell 4 (some 5),.tmp 5,.tmp 6],(.seq (.ops [.box 2 (.t 0),.box 3 (.t 1),.alloc 4 [(.int .i64 0),(.int .i64 0),(.list 1 []),(.int .i64 0),(.list 1 [])],.aC 5 (.c (.bool false)),.aC 6 (.c (.int .i64 0))]) (.seq (.ops [.load 13 (some 5) (.t 2),.load 14 (some 2) (.t 3),.call 15 38 [(.t 13),(.t 14),(.c (.func 39 []))],.au 12 (.t 15),.ext 16 (.t 12) 0,.ext 17 (.t 12) 1,.ext 18 (.t 12) 2,.alloc 7 [(.int .i64 0),(.int .i64 0),(.list 1 []),(.int .i64 0),(.list 1 [])],.alloc 8 [(.int .i64 0),(.int .i64 0)],.store none 5 (.t 7) (.t 16),.store none 2 (.t 8) (.t 17),.aC 9 (.t 18)]) (.seq (.seq (.ops [.au 19 (.t 9),.bin 20 .neq (.t 19) (.c (.int .i64 0))]) (.cond (.t 20) (.seq (.ops [.build 21 [(.int .i64 0),(.int .i64 0),(.list 1 []),(.int .i64 0),(.list 1 [])] [],.au 22 (.t 9),.store none 5 (.t 4) (.t 21),.aC 5 (.c (.bool false)),.aC 6 (.t 22)]) .ret) .skip)) (.seq (.ops [.alloc 10 [(.bool false)],.store none 1 (.t 10) (.c (.bool false))]) (.seq (.seq (.ops [.load 23 (some 2) (.t 8),.call 24 40 [(.t 23)]]) (.block 0 (.rng (.t 24) [25] Ii Ij))) (.seq (.ops [.aB 35 (.t 2) 3,.load 36 (some 2) (.t 35),.load 37 (some 2) (.t 8),.call 38 42 [(.t 36),(.t 37)],.au 34 (.t 38),.ext 39 (.t 34) 0,.ext 40 (.t 34) 1,.aB 41 (.t 7) 3,.store none 2 (.t 41) (.t 39),.aC 9 (.t 40)]) (.seq (.zi [(.t 10)] [] (some ([0],[1,2],3,[])) [4,5] [.load 42 (some 5) (.t 7),.JF 43 none (.t 10),.au 44 (.t 9),.store none 5 (.t 4) (.t 42),.aC 5 (.t 43),.aC 6 (.t 44)]) .ret)))))))⟩
def Ya:je:=⟨2,18,[.cell 4 (some 5),.tmp 5],(.seq (.ops [.box 2 (.t 0),.box 3 (.t 1),.alloc 4 [(.int .i64 0),(.int .i64 0),(.list 1 []),(.int .i64 0),(.list 1 [])],.aC 5 (.c (.int .i64 0))]) (.seq (.ops [.load 10 (some 5) (.t 2),.load 11 (some 2) (.t 3),.call 12 38 [(.t 10),(.t 11),(.c (.func 43 []))],.au 9 (.t 12),.ext 13 (.t 9) 0,.ext 14 (.t 9) 1,.ext 15 (.t 9) 2,.alloc 6 [(.int .i64 0),(.int .i64 0),(.list 1 []),(.int .i64 0),(.list 1 [])],.alloc 7 [(.int .i64 0),(.int .i64 0)],.store none 5 (.t 6) (.t 13),.store none 2 (.t 7) (.t 14),.aC 8 (.t 15)]) (.seq (.ops [.load 16 (some 5) (.t 6),.au 17 (.t 8),.store none 5 (.t 4) (.t 16),.aC 5 (.t 17)]) .ret)))⟩
def oQ:aA:=(.seq (.ops [.bin 21 .lss (.t 20) (.t 19)]) (.seq (.cond (.t 21) .skip (.exit 0)) (.seq (.block 1 (.seq (.ops [.au 22 (.t 20),.fK 23 1 (.t 18) (.t 20),.load 24 none (.t 23),.aC 6 (.t 22),.aC 7 (.t 24)]) (.seq (.ops [.au 25 (.t 7),.bin 26 .eql (.t 25) (.c (.int .i64 0)),.au 27 (.t 26),.grd 27 true (.aB 28 (.t 1) 3),.grd 27 true (.load 29 (some 2) (.t 28)),.grd 27 true (.au 30 (.t 6)),.grd 27 true (.call 31 41 [(.t 29),(.t 30)]),.pick 32 (.t 27) (.t 31) (.c (.bool false))]) (.cond (.t 32) (.seq (.ops [.aB 34 (.t 4) 3,.load 35 (some 2) (.t 34),.au 36 (.t 6),.build 37 [(.int .i64 0),(.int .i64 0)] [(0,1,(.t 36)),(1,1,(.c (.int .i64 1)))],.call 38 45 [(.t 35),(.t 37)],.au 33 (.t 38),.ext 39 (.t 33) 0,.ext 40 (.t 33) 1,.aB 41 (.t 4) 3,.store none 2 (.t 41) (.t 39)]) (.ops [.aC 5 (.c (.bool true))])) .skip)))) (.ops [.bin 42 .add (.t 20) (.c (.int .i64 1)),.au 20 (.t 42)]))))
def Ik:aA :=
(.clean [1,2,4,5,18,19,20] [2,3,4,5] (.block 0 (.loop [1,2,4,5,18,19,20] oQ)))
def UF:je:=⟨1,45,[.cell 2 (some 5),.tmp 3],(.seq (.ops [.box 1 (.t 0),.alloc 2 [(.int .i64 0),(.int .i64 0),(.list 1 []),(.int .i64 0),(.list 1 [])],.aC 3 (.c (.bool false))]) (.seq (.seq (.ops [.load 8 (some 5) (.t 1),.call 9 33 [(.t 8)],.bin 10 .neq (.t 9) (.c (.int .i64 0))]) (.cond (.t 10) (.seq (.ops [.load 11 (some 5) (.t 1),.store none 5 (.t 2) (.t 11),.aC 3 (.c (.bool false))]) .ret) .skip)) (.seq (.ops [.load 12 (some 5) (.t 1),.alloc 4 [(.int .i64 0),(.int .i64 0),(.list 1 []),(.int .i64 0),(.list 1 [])],.store none 5 (.t 4) (.t 12),.aC 5 (.c (.bool false))]) (.seq (.ops [.aB 13 (.t 1) 2,.load 14 none (.t 13),.call 15 44 [(.t 14)],.aB 16 (.t 4) 2,.store none 1 (.t 16) (.t 15)]) (.seq (.seq (.ops [.aB 17 (.t 1) 2,.load 18 none (.t 17),.len 19 (.t 18),.au 20 (.c (.int .i64 0))])
    Ik) (.seq (.ops [.load 43 (some 5) (.t 4),.au 44 (.t 5),.store none 5 (.t 2) (.t 43),.aC 3 (.t 44)]) .ret))))))⟩
def Il:aA:=(.seq (.ops [.bin 92 .lss (.t 91) (.t 90)]) (.seq (.cond (.t 92) .skip (.exit 1)) (.seq (.block 2 (.seq (.ops [.fK 93 2 (.t 89) (.t 91),.load 94 (some 2) (.t 93),.alloc 16 [(.int .i64 0),(.int .i64 0)],.store none 2 (.t 16) (.t 94)]) (.seq (.ops [.aB 95 (.t 16) 0,.load 96 none (.t 95),.au 97 (.t 1),.bin 98 .mul (.t 96) (.t 97),.aC 17 (.t 98)]) (.ops [.au 99 (.t 14),.au 100 (.t 17),.aB 101 (.t 16) 0,.load 102 none (.t 101),.aB 103 (.t 16) 1,.load 104 none (.t 103),.bin 105 .add (.t 102) (.t 104),.au 106 (.t 1),.bin 107 .mul (.t 105) (.t 106),.au 108 (.t 0),.mn 109 false (.t 107) (.t 108),.au 110 (.t 17),.bin 111 .sub (.t 109) (.t 110),.build 112 [(.int .i64 0),(.int .i64 0)] [(0,1,(.t 100)),(1,1,(.t 111))],.mP 113 2 [(.t 112)],.app 114 2 (.t 99) (.t 113),.aC 14 (.t 114)])))) (.ops [.bin 115 .add (.t 91) (.c (.int .i64 1)),.au 91 (.t 115)]))))
def Io:aA :=
(.clean [0,1,6,9,10,13,14,51,89,90,91,114] [6,7,8,9,10,14] (.block 1 (.loop [0,1,6,9,10,13,14,51,89,90,91,114] Il)))
def zL:je:=⟨3,120,[.cell 6 (some 5),.tmp 7,.tmp 8],(.seq (.ops [.alloc 6 [(.int .i64 0),(.int .i64 0),(.list 1 []),(.int .i64 0),(.list 1 [])],.aC 7 (.nil 2),.aC 8 (.c (.int .i64 0))]) (.seq (.ops [.au 19 (.t 0),.au 20 (.t 1),.call 21 9 [(.t 19),(.t 20)],.au 18 (.t 21),.ext 22 (.t 18) 0,.ext 23 (.t 18) 1,.alloc 9 [(.int .i64 0),(.int .i64 0),(.list 1 []),(.int .i64 0),(.list 1 [])],.store none 5 (.t 9) (.t 22),.aC 10 (.t 23)]) (.seq (.seq (.ops [.au 24 (.t 10),.bin 25 .neq (.t 24) (.c (.int .i64 0))]) (.cond (.t 25) (.seq (.ops [.build 26 [(.int .i64 0),(.int .i64 0),(.list 1 []),(.int .i64 0),(.list 1 [])] [],.au 27 (.t 10),.store none 5 (.t 6) (.t 26),.aC 7 (.nil 2),.aC 8 (.t 27)]) .ret) .skip)) (.seq (.ops [.au 29 (.t 2),.call 30 46 [(.t 29)],.au 28 (.t 30),.ext 31 (.t 28) 0,.ext 32 (.t 28) 1,.ext 33 (.t 28) 2,.aC 11 (.t 31),.aC 2 (.t 32),.aC 10 (.t 33)]) (.seq (.seq (.ops [.au 34 (.t 10),.bin 35 .neq (.t 34) (.c (.int .i64 0))]) (.cond (.t 35) (.seq (.ops [.build 36 [(.int .i64 0),(.int .i64 0),(.list 1 []),(.int .i64 0),(.list 1 [])] [],.au 37 (.t 10),.store none 5 (.t 6) (.t 36),.aC 7 (.nil 2),.aC 8 (.t 37)]) .ret) .skip)) (.seq (.ops [.au 39 (.t 2),.call 40 46 [(.t 39)],.au 38 (.t 40),.ext 41 (.t 38) 0,.ext 42 (.t 38) 1,.ext 43 (.t 38) 2,.aC 12 (.t 41),.aC 2 (.t 42),.aC 10 (.t 43)]) (.seq (.seq (.ops [.au 44 (.t 10),.bin 45 .neq (.t 44) (.c (.int .i64 0))]) (.cond (.t 45) (.seq (.ops [.build 46 [(.int .i64 0),(.int .i64 0),(.list 1 []),(.int .i64 0),(.list 1 [])] [],.au 47 (.t 10),.store none 5 (.t 6) (.t 46),.aC 7 (.nil 2),.aC 8 (.t 47)]) .ret) .skip)) (.seq (.ops [.au 49 (.t 2),.call 50 47 [(.t 49)],.au 48 (.t 50),.ext 51 (.t 48) 0,.ext 52 (.t 48) 1,.ext 53 (.t 48) 2,.aC 13 (.t 51),.aC 2 (.t 52),.aC 10 (.t 53)]) (.seq (.block 0 (.seq (.ops [.au 55 (.t 10),.bin 56 .neq (.t 55) (.c (.int .i64 0)),.aC 54 (.t 56)]) (.cond (.t 54) (.seq (.ops [.build 57 [(.int .i64 0),(.int .i64 0),(.list 1 []),(.int .i64 0),(.list 1 [])] [],.au 58 (.t 10),.store none 5 (.t 6) (.t 57),.aC 7 (.nil 2),.aC 8 (.t 58)]) .ret) (.seq (.ops [.au 60 (.t 2),.len 61 (.t 60),.bin 62 .gtr (.t 61) (.c (.int .i64 0)),.aC 59 (.t 62)]) (.cond (.t 59) (.seq (.ops [.build 63 [(.int .i64 0),(.int .i64 0),(.list 1 []),(.int .i64 0),(.list 1 [])] [],.store none 5 (.t 6) (.t 63),.aC 7 (.nil 2),.aC 8 (.c (.int .i64 3))]) .ret) (.seq (.seq (.ops [.au 65 (.t 11),.au 66 (.t 0),.bin 67 .neq (.t 65) (.t 66),.aC 64 (.t 67)]) (.cond (.t 64) .skip (.ops [.au 68 (.t 12),.au 69 (.t 1),.bin 70 .neq (.t 68) (.t 69),.aC 64 (.t 70)]))) (.cond (.t 64) (.seq (.ops [.build 71 [(.int .i64 0),(.int .i64 0),(.list 1 []),(.int .i64 0),(.list 1 [])] [],.store none 5 (.t 6) (.t 71),.aC 7 (.nil 2),.aC 8 (.c (.int .i64 22))]) .ret) (.seq (.ops [.au 73 (.t 13),.aB 74 (.t 9) 2,.load 75 none (.t 74),.len 76 (.t 75),.call 77 48 [(.t 73),(.t 76)],.bin 78 .neq (.t 77) (.c (.int .i64 0)),.aC 72 (.t 78)]) (.cond (.t 72) (.seq (.ops [.build 79 [(.int .i64 0),(.int .i64 0),(.list 1 []),(.int .i64 0),(.list 1 [])] [],.store none 5 (.t 6) (.t 79),.aC 7 (.nil 2),.aC 8 (.c (.int .i64 3))]) .ret) .skip))))))))) (.seq (.ops [.aB 81 (.t 9) 2,.load 82 none (.t 81),.len 83 (.t 82),.au 84 (.t 13),.call 85 49 [(.t 83),(.t 84)],.au 80 (.t 85),.ext 86 (.t 80) 0,.ext 87 (.t 80) 1,.aB 88 (.t 9) 3,.store none 2 (.t 88) (.t 86),.aC 10 (.t 87)]) (.seq (.ops [.aC 14 (.nil 2)]) (.seq (.seq (.ops [.au 89 (.t 13),.len 90 (.t 89),.au 91 (.c (.int .i64 0))])
       Io) (.seq (.zi [] [([0,1,3],2)] (some ([],[],4,[])) [5,6] [.load 116 (some 5) (.t 9),.au 117 (.t 14),.au 119 (.t 10),.call 118 50 [(.t 117),(.nil 2)],.store none 5 (.t 6) (.t 116),.aC 7 (.t 118),.aC 8 (.t 119)]) .ret)))))))))))))⟩
def Ip:aA:=(.seq (.seq (.ops [.au 11 (.t 5),.au 12 (.t 0),.len 13 (.t 12),.bin 14 .lss (.t 11) (.t 13)]) (.cond (.t 14) .skip (.exit 0))) (.seq (.block 1 (.seq (.zi [] [] none [0,1,2,3,4,5,6,7,8] [.au 17 (.t 0),.au 18 (.t 5),.fK 19 2 (.t 17) (.t 18),.load 20 (some 2) (.t 19),.au 21 (.t 1),.au 22 (.t 5),.fK 23 2 (.t 21) (.t 22),.load 24 (some 2) (.t 23),.RQ 25 true 2 (.t 20) (.t 24)]) (.cond (.t 25) (.seq (.ops [.aC 4 (.c (.bool false))]) .ret) .skip))) (.ops [.au 15 (.t 5),.bin 16 .add (.t 15) (.c (.int .i64 1)),.aC 5 (.t 16)])))
def Iq:aA :=
(.clean [0,1,5] [4] (.block 0 (.loop [0,1,5] Ip)))
def Yb:je:=⟨2,26,[.tmp 4],(.seq (.ops [.aC 4 (.c (.bool false))]) (.seq (.seq (.ops [.au 6 (.t 0),.len 7 (.t 6),.au 8 (.t 1),.len 9 (.t 8),.bin 10 .neq (.t 7) (.t 9)]) (.cond (.t 10) (.seq (.ops [.aC 4 (.c (.bool false))]) .ret) .skip)) (.seq (.seq (.ops [.aC 5 (.c (.int .i64 0))])
   Iq) (.seq (.ops [.aC 4 (.c (.bool true))]) .ret))))⟩
def yO:aA:=(.seq (.seq (.ops [.au 9 (.t 4),.aB 10 (.t 1) 0,.load 11 none (.t 10),.bin 12 .lss (.t 9) (.t 11)]) (.cond (.t 12) .skip (.exit 0))) (.seq (.block 1 (.seq (.seq (.ops [.load 15 (some 2) (.t 1),.au 16 (.t 4),.call 17 52 [(.t 15),(.t 16)],.un 18 .not (.t 17)]) (.cond (.t 18) (.exit 1) .skip)) (.seq (.ops [.au 19 (.t 3),.len 20 (.t 19),.aC 5 (.t 20)]) (.seq (.zi [] [] none [0,1,2,3,4,5,6,7,8,9,10,11,12,13,14,15,16,17,18] [.au 21 (.t 5),.bin 22 .gtr (.t 21) (.c (.int .i64 0)),.au 23 (.t 22),.grd 23 true (.au 24 (.t 3)),.grd 23 true (.au 25 (.t 5)),.grd 23 true (.bin 26 .sub (.t 25) (.c (.int .i64 1))),.grd 23 true (.fK 27 2 (.t 24) (.t 26)),.grd 23 true (.aB 28 (.t 27) 0),.grd 23 true (.load 29 none (.t 28)),.grd 23 true (.au 30 (.t 3)),.grd 23 true (.au 31 (.t 5)),.grd 23 true (.bin 32 .sub (.t 31) (.c (.int .i64 1))),.grd 23 true (.fK 33 2 (.t 30) (.t 32)),.grd 23 true (.aB 34 (.t 33) 1),.grd 23 true (.load 35 none (.t 34)),.grd 23 true (.bin 36 .add (.t 29) (.t 35)),.grd 23 true (.au 37 (.t 4)),.grd 23 true (.bin 38 .eql (.t 36) (.t 37)),.pick 39 (.t 23) (.t 38) (.c (.bool false))]) (.cond (.t 39) (.ops [.au 40 (.t 3),.au 41 (.t 5),.bin 42 .sub (.t 41) (.c (.int .i64 1)),.fK 43 2 (.t 40) (.t 42),.aB 44 (.t 43) 1,.load 45 none (.t 44),.bin 46 .add (.t 45) (.c (.int .i64 1)),.fK 47 2 (.t 40) (.t 42),.aB 48 (.t 47) 1,.store none 1 (.t 48) (.t 46)]) (.ops [.au 49 (.t 3),.au 50 (.t 4),.build 51 [(.int .i64 0),(.int .i64 0)] [(0,1,(.t 50)),(1,1,(.c (.int .i64 1)))],.mP 52 2 [(.t 51)],.app 53 2 (.t 49) (.t 52),.aC 3 (.t 53)])))))) (.ops [.au 13 (.t 4),.bin 14 .add (.t 13) (.c (.int .i64 1)),.aC 4 (.t 14)])))
def Ir:aA :=
(.clean [1,3,4,53] [2,3] (.block 0 (.loop [1,3,4,53] yO)))
def UG:je:=⟨1,55,[.tmp 2],(.seq (.ops [.box 1 (.t 0),.aC 2 (.nil 2)]) (.seq (.ops [.aC 3 (.nil 2)]) (.seq (.seq (.ops [.load 6 (some 2) (.t 1),.call 7 51 [(.t 6)],.bin 8 .neq (.t 7) (.c (.int .i64 0))]) (.cond (.t 8) (.seq (.ops [.aC 2 (.nil 2)]) .ret) .skip)) (.seq (.seq (.ops [.aC 4 (.c (.int .i64 0))])
   Ir) (.seq (.ops [.au 54 (.t 3),.aC 2 (.t 54)]) .ret)))))⟩
def LC:je:=⟨2,19,[.tmp 4],(.seq (.ops [.aC 4 (.c (.bool false))]) (.seq (.ops [.au 5 (.t 0),.bin 6 .geq (.t 5) (.c (.int .i64 1)),.au 7 (.t 6),.grd 7 true (.au 8 (.t 0)),.grd 7 true (.bin 9 .leq (.t 8) (.c (.int .i64 4096))),.pick 10 (.t 7) (.t 9) (.c (.bool false)),.au 11 (.t 10),.grd 11 true (.au 12 (.t 1)),.grd 11 true (.bin 13 .geq (.t 12) (.c (.int .i64 1))),.pick 14 (.t 11) (.t 13) (.c (.bool false)),.au 15 (.t 14),.grd 15 true (.au 16 (.t 1)),.grd 15 true (.bin 17 .leq (.t 16) (.c (.int .i64 4096))),.pick 18 (.t 15) (.t 17) (.c (.bool false)),.aC 4 (.t 18)]) .ret))⟩
def Yc:je:=⟨2,11,[.tmp 4],(.seq (.ops [.aC 4 (.c (.int .i64 0))]) (.seq (.ops [.au 5 (.t 0),.au 6 (.t 1),.bin 7 .add (.t 5) (.t 6),.bin 8 .sub (.t 7) (.c (.int .i64 1)),.au 9 (.t 1),.bin 10 .quo (.t 8) (.t 9),.aC 4 (.t 10)]) .ret))⟩
def Po:je:=⟨1,16,[.cell 2 (some 2),.tmp 3],(.seq (.ops [.alloc 2 [(.int .i64 0),(.list 1 [])],.aC 3 (.c (.int .i64 0))]) (.seq (.seq (.ops [.au 4 (.t 0),.bin 5 .lss (.t 4) (.c (.int .i64 0)),.au 6 (.t 5),.grd 6 false (.au 7 (.t 0)),.grd 6 false (.bin 8 .gtr (.t 7) (.c (.int .i64 4096))),.pick 9 (.t 6) (.c (.bool true)) (.t 8)]) (.cond (.t 9) (.seq (.ops [.build 10 [(.int .i64 0),(.list 1 [])] [],.store none 2 (.t 2) (.t 10),.aC 3 (.c (.int .i64 2))]) .ret) .skip)) (.seq (.ops [.au 11 (.t 0),.au 12 (.t 0),.call 13 56 [(.t 12)],.make 14 (.int .u64 0) (.t 13) (.t 13),.build 15 [(.int .i64 0),(.list 1 [])] [(0,1,(.t 11)),(1,1,(.t 14))],.store none 2 (.t 2) (.t 15),.aC 3 (.c (.int .i64 0))]) .ret)))⟩
def sO:aA:=(.seq (.ops [.bin 41 .lss (.t 40) (.t 39)]) (.seq (.cond (.t 41) .skip (.exit 0)) (.seq (.block 1 (.seq (.ops [.au 42 (.t 40),.fK 43 1 (.t 38) (.t 40),.load 44 none (.t 43),.aC 3 (.t 42),.aC 4 (.t 44)]) (.seq (.ops [.au 45 (.t 4),.bin 46 .lss (.t 45) (.c (.int .i64 0)),.au 47 (.t 46),.grd 47 false (.au 48 (.t 4)),.grd 47 false (.bin 49 .gtr (.t 48) (.c (.int .i64 4096))),.pick 50 (.t 47) (.c (.bool true)) (.t 49),.au 51 (.t 50),.grd 51 false (.au 52 (.t 4)),.grd 51 false (.bin 53 .gtr (.t 52) (.c (.int .i64 0))),.grd 51 false (.au 54 (.t 53)),.grd 54 true (.aB 55 (.t 1) 3),.grd 54 true (.load 56 (some 2) (.t 55)),.grd 54 true (.au 57 (.t 3)),.grd 54 true (.call 58 41 [(.t 56),(.t 57)]),.grd 54 true (.un 59 .not (.t 58)),.grd 51 false (.pick 60 (.t 54) (.t 59) (.c (.bool false))),.pick 61 (.t 51) (.c (.bool true)) (.t 60)]) (.cond (.t 61) (.seq (.ops [.aC 2 (.c (.int .i64 3))]) .ret) .skip)))) (.ops [.bin 62 .add (.t 40) (.c (.int .i64 1)),.au 40 (.t 62)]))))
def Iu:aA :=
(.clean [1,38,39,40] [2] (.block 0 (.loop [1,38,39,40] sO)))
def Iw:je:=⟨1,63,[.tmp 2],(.seq (.ops [.box 1 (.t 0),.aC 2 (.c (.int .i64 0))]) (.seq (.seq (.zi [] [([0,1,2,3],4),([5,6,7,8,9,10,11,12,13],14),([15,16,17,18,19],20)] none [21,22,23,24,25,26,27,28,29,30,31] [.aB 5 (.t 1) 0,.load 6 none (.t 5),.aB 7 (.t 1) 1,.load 8 none (.t 7),.call 9 27 [(.t 6),(.t 8)],.un 10 .not (.t 9),.au 11 (.t 10),.grd 11 false (.aB 12 (.t 1) 2),.grd 11 false (.load 13 none (.t 12)),.grd 11 false (.len 14 (.t 13)),.grd 11 false (.aB 15 (.t 1) 0),.grd 11 false (.load 16 none (.t 15)),.grd 11 false (.aB 17 (.t 1) 1),.grd 11 false (.load 18 none (.t 17)),.grd 11 false (.call 19 28 [(.t 16),(.t 18)]),.grd 11 false (.bin 20 .neq (.t 14) (.t 19)),.pick 21 (.t 11) (.c (.bool true)) (.t 20),.au 22 (.t 21),.grd 22 false (.aB 23 (.t 1) 3),.grd 22 false (.load 24 (some 2) (.t 23)),.grd 22 false (.call 25 57 [(.t 24)]),.grd 22 false (.bin 26 .neq (.t 25) (.c (.int .i64 0))),.pick 27 (.t 22) (.c (.bool true)) (.t 26),.au 28 (.t 27),.grd 28 false (.aB 29 (.t 1) 3),.grd 28 false (.aB 30 (.t 29) 0),.grd 28 false (.load 31 none (.t 30)),.grd 28 false (.aB 32 (.t 1) 2),.grd 28 false (.load 33 none (.t 32)),.grd 28 false (.len 34 (.t 33)),.grd 28 false (.bin 35 .neq (.t 31) (.t 34)),.pick 36 (.t 28) (.c (.bool true)) (.t 35)]) (.cond (.t 36) (.seq (.ops [.aC 2 (.c (.int .i64 3))]) .ret) .skip)) (.seq (.seq (.ops [.aB 37 (.t 1) 2,.load 38 none (.t 37),.len 39 (.t 38),.au 40 (.c (.int .i64 0))])
   Iu) (.seq (.ops [.aC 2 (.c (.int .i64 0))]) .ret))))⟩
def Yd:je:=⟨2,9,[.tmp 4],(.seq (.ops [.aC 4 (.nil 1)]) (.seq (.ops [.au 5 (.t 0),.call 6 59 [(.t 5)],.au 7 (.t 1),.lin 8 58 (.t 6) [(.t 7)],.aC 4 (.t 8)]) .ret))⟩
def Ye:je:=⟨2,9,[.tmp 4],(.seq (.ops [.aC 4 (.nil 1)]) (.seq (.ops [.au 5 (.t 0),.call 6 59 [(.t 5)],.au 7 (.t 1),.lin 8 60 (.t 6) [(.t 7),(.c (.func 61 []))],.aC 4 (.t 8)]) .ret))⟩
def BI:aA:=(.ops [.aC 4 (.t 8)])
def BJ:aA:=(.block 1 (.seq (.seq (.ops [.load 9 none (.t 3),.len 10 (.t 9),.aC 5 (.t 10)]) (.seq (.zi [] [] none [0,1,2,3,4,5,6,7,8,9,10,11,12,13,14,15,16,17,18] [.au 11 (.t 5),.bin 12 .gtr (.t 11) (.c (.int .i64 0)),.au 13 (.t 12),.grd 13 true (.load 14 none (.t 3)),.grd 13 true (.au 15 (.t 5)),.grd 13 true (.bin 16 .sub (.t 15) (.c (.int .i64 1))),.grd 13 true (.fK 17 2 (.t 14) (.t 16)),.grd 13 true (.aB 18 (.t 17) 0),.grd 13 true (.load 19 none (.t 18)),.grd 13 true (.load 20 none (.t 3)),.grd 13 true (.au 21 (.t 5)),.grd 13 true (.bin 22 .sub (.t 21) (.c (.int .i64 1))),.grd 13 true (.fK 23 2 (.t 20) (.t 22)),.grd 13 true (.aB 24 (.t 23) 1),.grd 13 true (.load 25 none (.t 24)),.grd 13 true (.bin 26 .add (.t 19) (.t 25)),.grd 13 true (.au 27 (.t 4)),.grd 13 true (.bin 28 .eql (.t 26) (.t 27)),.pick 29 (.t 13) (.t 28) (.c (.bool false))]) (.cond (.t 29) (.seq (.ops [.load 30 none (.t 3),.au 31 (.t 5),.bin 32 .sub (.t 31) (.c (.int .i64 1)),.fK 33 2 (.t 30) (.t 32),.aB 34 (.t 33) 1,.load 35 none (.t 34),.bin 36 .add (.t 35) (.c (.int .i64 1)),.fK 37 2 (.t 30) (.t 32),.aB 38 (.t 37) 1,.store none 1 (.t 38) (.t 36)]) (.exit 1)) .skip))) (.ops [.load 39 none (.t 3),.au 40 (.t 4),.build 41 [(.int .i64 0),(.int .i64 0)] [(0,1,(.t 40)),(1,1,(.c (.int .i64 1)))],.mP 42 2 [(.t 41)],.app 43 2 (.t 39) (.t 42),.store none 1 (.t 3) (.t 43)])))
def Yf:je:=⟨1,45,[.tmp 2],(.seq (.ops [.box 1 (.t 0),.aC 2 (.nil 2)]) (.seq (.ops [.alloc 3 [(.list 2 [])]]) (.seq (.seq (.ops [.load 6 (some 2) (.t 1),.call 7 62 [(.t 6),(.c (.int .i64 0))]]) (.block 0 (.rng (.t 7) [8] BI BJ))) (.seq (.ops [.load 44 none (.t 3),.aC 2 (.t 44)]) .ret))))⟩
def UH:je:=⟨2,67,[.cell 4 (some 129)],(.seq (.ops [.box 2 (.t 0),.box 3 (.t 1),.alloc 4 sN]) (.seq (.ops [.aB 11 (.t 2) 0,.aB 12 (.t 11) 0,.load 13 none (.t 12),.aC 5 (.t 13)]) (.seq (.seq (.ops [.au 14 (.t 5),.bin 15 .lss (.t 14) (.c (.int .i64 1))]) (.cond (.t 15) (.seq (.ops [.aB 16 (.t 2) 128,.store none 1 (.t 16) (.c (.bool false))]) (.seq (.ops [.load 17 (some 129) (.t 2),.store none 129 (.t 4) (.t 17)]) .ret)) .skip)) (.seq (.ops [.aB 18 (.t 3) 2,.load 19 none (.t 18),.conv 20 .i64 (.t 19),.au 21 (.t 5),.bin 22 .rem (.t 20) (.t 21),.aC 6 (.t 22)]) (.seq (.ops [.au 23 (.t 6),.aB 24 (.t 3) 3,.load 25 none (.t 24),.conv 26 .i64 (.t 25),.au 27 (.t 5),.au 28 (.t 6),.bin 29 .sub (.t 27) (.t 28),.bin 30 .rem (.t 26) (.t 29),.bin 31 .add (.c (.int .i64 1)) (.t 30),.build 32 [(.int .i64 0),(.int .i64 0)] [(0,1,(.t 23)),(1,1,(.t 31))],.alloc 7 [(.int .i64 0),(.int .i64 0)],.store none 2 (.t 7) (.t 32)]) (.seq (.ops [.aB 34 (.t 2) 0,.load 35 (some 5) (.t 34),.load 36 (some 2) (.t 7),.call 37 16 [(.t 35),(.t 36)],.au 33 (.t 37),.ext 38 (.t 33) 0,.ext 39 (.t 33) 1,.ext 40 (.t 33) 2,.alloc 8 [(.int .i64 0),(.int .i64 0),(.list 1 []),(.int .i64 0),(.list 1 [])],.store none 5 (.t 8) (.t 38),.aC 9 (.t 39),.aC 10 (.t 40)]) (.seq (.seq (.ops [.au 41 (.t 10),.bin 42 .neq (.t 41) (.c (.int .i64 0))]) (.cond (.t 42) (.seq (.ops [.aB 43 (.t 2) 128,.store none 1 (.t 43) (.c (.bool false))]) (.seq (.ops [.load 44 (some 129) (.t 2),.store none 129 (.t 4) (.t 44)]) .ret)) .skip)) (.seq (.seq (.ops [.au 45 (.t 9)]) (.cond (.t 45) (.ops [.load 46 (some 5) (.t 8),.call 47 12 [(.t 46)],.aB 48 (.t 2) 5,.store none 1 (.t 48) (.t 47)]) .skip)) (.seq (.ops [.load 49 (some 5) (.t 8),.aB 50 (.t 2) 0,.store none 5 (.t 50) (.t 49)]) (.seq (.ops [.aB 51 (.t 2) 127,.load 52 none (.t 51),.bin 53 .add (.t 52) (.c (.int .i64 1)),.aB 54 (.t 2) 127,.store none 1 (.t 54) (.t 53)]) (.seq (.drs [] [2,4] [.RS 55 5,.aB 56 (.t 2) 126,.load 57 none (.t 56),.RU 58 5 (.t 55) (.t 57),.load 59 (some 2) (.t 7),.aB 60 (.t 2) 127,.load 61 none (.t 60),.build 62 [(.int .i64 0),(.int .i64 0),(.bool false),(.bool false),(.int .i64 0)] [(0,2,(.t 59)),(4,1,(.t 61))],.mP 63 5 [(.t 62)],.app 64 5 (.t 58) (.t 63),.aB 65 (.t 2) 126,.store none 1 (.t 65) (.t 64)]
       [⟨[([1,2,4,5,6,7],0),([],3),([],8)],(some ([],[],9,[([10],11)])),[],[1,2,4,5,6,7,0,3,8,9,10,11],false⟩,⟨[([1,2,4,5,6,7],0),([],8),([],3)],(some ([],[],9,[([10],11)])),[],[1,2,4,5,6,7,0,8,3,9,10,11],false⟩,⟨[([1,2,4,5,6,7],8),([],0),([],3)],(some ([],[],9,[([10],11)])),[],[1,2,4,5,6,7,8,0,3,9,10,11],false⟩]) (.seq (.ops [.load 66 (some 129) (.t 2),.store none 129 (.t 4) (.t 66)]) .ret))))))))))))⟩
def BK:aA:=(.ops [.aC 12 (.t 37)])
def BL:aA:=(.block 1 (.seq (.zi [] [([0,1,2,3,4,5,6,7,8],9)] (some ([10,11,13],[12],14,[([],15)])) [] [.aB 39 (.t 3) 2,.load 40 none (.t 39),.au 41 (.t 12),.load 42 none (.t 5),.aB 43 (.t 3) 2,.load 44 none (.t 43),.au 45 (.t 12),.fK 46 1 (.t 44) (.t 45),.load 47 none (.t 46),.oD 48 (.t 42) [(.t 47)],.au 38 (.t 48),.ext 49 (.t 38) 0,.fK 51 1 (.t 40) (.t 41),.ext 50 (.t 38) 1,.store none 1 (.t 51) (.t 49),.store none 1 (.t 11) (.t 50)]) (.seq (.ops [.load 52 none (.t 11),.bin 53 .neq (.t 52) (.c (.int .i64 0))]) (.cond (.t 53) (.seq (.zi [(.t 11)] [] (some ([0],[2,1],3,[([],4),([],5)])) [] [.build 54 [(.int .i64 0),(.int .i64 0),(.list 1 []),(.int .i64 0),(.list 1 [])] [],.JF 56 none (.t 11),.build 55 [(.int .i64 0),(.int .i64 0)] [],.store none 5 (.t 6) (.t 54),.store none 2 (.t 7) (.t 55),.store none 1 (.t 8) (.t 56)]) .ret) .skip))))
def LD:je:=⟨3,59,[.cell 6 (some 5),.cell 7 (some 2),.cell 8 none],(.seq (.ops [.box 3 (.t 0),.box 4 (.t 1),.box 5 (.t 2),.alloc 6 [(.int .i64 0),(.int .i64 0),(.list 1 []),(.int .i64 0),(.list 1 [])],.alloc 7 [(.int .i64 0),(.int .i64 0)],.alloc 8 [(.int .i64 0)]]) (.seq (.seq (.ops [.load 13 (some 5) (.t 3),.call 14 33 [(.t 13)],.aC 9 (.t 14)]) (.seq (.ops [.au 15 (.t 9),.bin 16 .neq (.t 15) (.c (.int .i64 0))]) (.cond (.t 16) (.seq (.ops [.build 17 [(.int .i64 0),(.int .i64 0),(.list 1 []),(.int .i64 0),(.list 1 [])] [],.build 18 [(.int .i64 0),(.int .i64 0)] [],.au 19 (.t 9),.store none 5 (.t 6) (.t 17),.store none 2 (.t 7) (.t 18),.store none 1 (.t 8) (.t 19)]) .ret) .skip))) (.seq (.ops [.load 21 (some 5) (.t 3),.load 22 (some 2) (.t 4),.call 23 63 [(.t 21),(.t 22)],.au 20 (.t 23),.ext 24 (.t 20) 0,.ext 25 (.t 20) 1,.alloc 10 [(.int .i64 0),(.int .i64 0)],.alloc 11 [(.int .i64 0)],.store none 2 (.t 10) (.t 24),.store none 1 (.t 11) (.t 25)]) (.seq (.seq (.ops [.load 26 none (.t 11),.bin 27 .neq (.t 26) (.c (.int .i64 0))]) (.cond (.t 27) (.seq (.zi [(.t 11)] [] (some ([0],[2,1],3,[([],4),([],5)])) [] [.build 28 [(.int .i64 0),(.int .i64 0),(.list 1 []),(.int .i64 0),(.list 1 [])] [],.JF 30 none (.t 11),.build 29 [(.int .i64 0),(.int .i64 0)] [],.store none 5 (.t 6) (.t 28),.store none 2 (.t 7) (.t 29),.store none 1 (.t 8) (.t 30)]) .ret) .skip)) (.seq (.ops [.aB 31 (.t 3) 2,.load 32 none (.t 31),.call 33 44 [(.t 32)],.aB 34 (.t 3) 2,.store none 1 (.t 34) (.t 33)]) (.seq (.seq (.ops [.load 35 (some 2) (.t 10),.call 36 40 [(.t 35)]]) (.block 0 (.rng (.t 36) [37] BK BL))) (.seq (.zi [(.t 10)] [] (some ([0],[1],2,[([],3),([],4)])) [] [.load 57 (some 5) (.t 3),.JF 58 (some 2) (.t 10),.store none 5 (.t 6) (.t 57),.store none 2 (.t 7) (.t 58),.store none 1 (.t 8) (.c (.int .i64 0))]) .ret)))))))⟩
def UJ:je:=⟨1,8,[.tmp 2,.tmp 3],(.seq (.ops [.aC 2 (.c (.int .i64 0)),.aC 3 (.c (.int .i64 0))]) (.seq (.seq (.ops [.au 4 (.t 0),.bin 5 .eql (.t 4) (.c (.int .i64 4096))]) (.cond (.t 5) (.seq (.ops [.aC 2 (.c (.int .i64 0)),.aC 3 (.c (.int .i64 6))]) .ret) .skip)) (.seq (.ops [.au 6 (.t 0),.bin 7 .add (.t 6) (.c (.int .i64 1)),.aC 2 (.t 7),.aC 3 (.c (.int .i64 0))]) .ret)))⟩
def Yg:je:=⟨1,4,[.tmp 2],(.seq (.ops [.box 1 (.t 0),.aC 2 (.c .qM)]) (.seq (.ops [.Qi 3 64 [(.t 1)],.aC 2 (.t 3)]) .ret))⟩
def LG:je:=⟨2,31,[.tmp 4],(.seq (.ops [.box 2 (.t 0),.aC 4 (.c (.bool false))]) (.seq (.ops [.load 5 (some 2) (.t 2),.call 6 57 [(.t 5)],.bin 7 .eql (.t 6) (.c (.int .i64 0)),.au 8 (.t 7),.grd 8 true (.au 9 (.t 1)),.grd 8 true (.bin 10 .geq (.t 9) (.c (.int .i64 0))),.pick 11 (.t 8) (.t 10) (.c (.bool false)),.au 12 (.t 11),.grd 12 true (.au 13 (.t 1)),.grd 12 true (.aB 14 (.t 2) 0),.grd 12 true (.load 15 none (.t 14)),.grd 12 true (.bin 16 .lss (.t 13) (.t 15)),.pick 17 (.t 12) (.t 16) (.c (.bool false)),.au 18 (.t 17),.grd 18 true (.aB 19 (.t 2) 1),.grd 18 true (.load 20 none (.t 19)),.grd 18 true (.au 21 (.t 1)),.grd 18 true (.bin 22 .quo (.t 21) (.c (.int .i64 64))),.grd 18 true (.fK 23 1 (.t 20) (.t 22)),.grd 18 true (.load 24 none (.t 23)),.grd 18 true (.au 25 (.t 1)),.grd 18 true (.bin 26 .rem (.t 25) (.c (.int .i64 64))),.grd 18 true (.bin 27 .shr (.t 24) (.t 26)),.grd 18 true (.bin 28 .and (.t 27) (.c (.int .u64 1))),.grd 18 true (.bin 29 .eql (.t 28) (.c (.int .u64 1))),.pick 30 (.t 18) (.t 29) (.c (.bool false)),.aC 4 (.t 30)]) .ret))⟩
def Yh:je:=⟨2,12,[.cell 4 (some 2),.tmp 5],(.seq (.ops [.box 2 (.t 0),.box 3 (.t 1),.alloc 4 [(.int .i64 0),(.list 1 [])],.aC 5 (.c (.int .i64 0))]) (.seq (.ops [.build 6 [.qM] [(0,1,(.c (.func 65 [])))],.load 7 (some 2) (.t 2),.load 8 (some 2) (.t 3),.call 9 66 [(.t 6),(.t 7),(.t 8)],.ext 10 (.t 9) 0,.ext 11 (.t 9) 1,.store none 2 (.t 4) (.t 10),.aC 5 (.t 11)]) .ret))⟩
def UK:je:=⟨1,8,[.tmp 2,.tmp 3],(.seq (.ops [.aC 2 (.c (.int .i64 0)),.aC 3 (.c (.int .i64 0))]) (.seq (.seq (.ops [.au 4 (.t 0),.bin 5 .eql (.t 4) (.c (.int .i64 0))]) (.cond (.t 5) (.seq (.ops [.aC 2 (.c (.int .i64 0)),.aC 3 (.c (.int .i64 12))]) .ret) .skip)) (.seq (.ops [.au 6 (.t 0),.bin 7 .sub (.t 6) (.c (.int .i64 1)),.aC 2 (.t 7),.aC 3 (.c (.int .i64 0))]) .ret)))⟩
def ab8:je:=⟨1,8,[.tmp 2],(.seq (.ops [.aC 2 (.nil 1)]) (.seq (.seq (.ops [.au 3 (.t 0),.Nk 4 false (.t 3)]) (.cond (.t 4) (.seq (.ops [.aC 2 (.nil 1)]) .ret) .skip)) (.seq (.ops [.mP 5 1 [],.au 6 (.t 0),.app 7 1 (.t 5) (.t 6),.aC 2 (.t 7)]) .ret)))⟩
def Yi:je:=⟨2,12,[.cell 4 (some 2),.tmp 5],(.seq (.ops [.box 2 (.t 0),.box 3 (.t 1),.alloc 4 [(.int .i64 0),(.list 1 [])],.aC 5 (.c (.int .i64 0))]) (.seq (.ops [.build 6 [.qM] [(0,1,(.c (.func 67 [])))],.load 7 (some 2) (.t 2),.load 8 (some 2) (.t 3),.call 9 66 [(.t 6),(.t 7),(.t 8)],.ext 10 (.t 9) 0,.ext 11 (.t 9) 1,.store none 2 (.t 4) (.t 10),.aC 5 (.t 11)]) .ret))⟩
def Yj:je:=⟨1,10,[.tmp 2,.tmp 3,.tmp 4],(.seq (.ops [.aC 2 (.c (.int .i64 0)),.aC 3 (.nil 1),.aC 4 (.c (.int .i64 0))]) (.seq (.ops [.au 5 (.t 0),.call 6 68 [(.t 5),(.c (.func 69 []))],.ext 7 (.t 6) 0,.ext 8 (.t 6) 1,.ext 9 (.t 6) 2,.aC 2 (.t 7),.aC 3 (.t 8),.aC 4 (.t 9)]) .ret))⟩
def Yk:je:=⟨1,10,[.tmp 2,.tmp 3,.tmp 4],(.seq (.ops [.aC 2 (.nil 2),.aC 3 (.nil 1),.aC 4 (.c (.int .i64 0))]) (.seq (.ops [.au 5 (.t 0),.call 6 70 [(.t 5),(.c (.func 71 []))],.ext 7 (.t 6) 0,.ext 8 (.t 6) 1,.ext 9 (.t 6) 2,.aC 2 (.t 7),.aC 3 (.t 8),.aC 4 (.t 9)]) .ret))⟩
def sQ:aA:=(.seq (.ops [.bin 17 .lss (.t 16) (.t 15)]) (.seq (.cond (.t 17) .skip (.exit 0)) (.seq (.block 1 (.seq (.ops [.fK 18 2 (.t 14) (.t 16),.load 19 (some 2) (.t 18),.alloc 7 [(.int .i64 0),(.int .i64 0)],.store none 2 (.t 7) (.t 19)]) (.seq (.block 2 (.seq (.ops [.aB 21 (.t 7) 1,.load 22 none (.t 21),.bin 23 .leq (.t 22) (.c (.int .i64 0)),.aC 20 (.t 23)]) (.cond (.t 20) (.seq (.ops [.aC 4 (.c (.int .i64 1))]) .ret) (.seq (.ops [.aB 25 (.t 7) 0,.load 26 none (.t 25),.bin 27 .lss (.t 26) (.c (.int .i64 0)),.au 28 (.t 27),.grd 28 false (.aB 29 (.t 7) 1),.grd 28 false (.load 30 none (.t 29)),.grd 28 false (.au 31 (.t 1)),.grd 28 false (.aB 32 (.t 7) 0),.grd 28 false (.load 33 none (.t 32)),.grd 28 false (.bin 34 .sub (.t 31) (.t 33)),.grd 28 false (.bin 35 .gtr (.t 30) (.t 34)),.pick 36 (.t 28) (.c (.bool true)) (.t 35),.aC 24 (.t 36)]) (.cond (.t 24) (.seq (.ops [.aC 4 (.c (.int .i64 2))]) .ret) (.seq (.ops [.aB 38 (.t 7) 0,.load 39 none (.t 38),.au 40 (.t 5),.bin 41 .lss (.t 39) (.t 40),.aC 37 (.t 41)]) (.cond (.t 37) (.seq (.ops [.aC 4 (.c (.int .i64 3))]) .ret) .skip))))))) (.ops [.aB 42 (.t 7) 0,.load 43 none (.t 42),.aB 44 (.t 7) 1,.load 45 none (.t 44),.bin 46 .add (.t 43) (.t 45),.bin 47 .add (.t 46) (.c (.int .i64 1)),.aC 5 (.t 47)])))) (.ops [.bin 48 .add (.t 16) (.c (.int .i64 1)),.au 16 (.t 48)]))))
def Iy:aA :=
(.clean [0,1,5,14,15,16] [4] (.block 0 (.loop [0,1,5,14,15,16] sQ)))
def Pq:je:=⟨2,49,[.tmp 4],(.seq (.ops [.aC 4 (.c (.int .i64 0))]) (.seq (.seq (.ops [.au 8 (.t 1),.bin 9 .lss (.t 8) (.c (.int .i64 0)),.au 10 (.t 9),.grd 10 false (.au 11 (.t 1)),.grd 10 false (.bin 12 .gtr (.t 11) (.c (.int .i64 4096))),.pick 13 (.t 10) (.c (.bool true)) (.t 12)]) (.cond (.t 13) (.seq (.ops [.aC 4 (.c (.int .i64 2))]) .ret) .skip)) (.seq (.ops [.aC 5 (.c (.int .i64 0))]) (.seq (.seq (.ops [.au 14 (.t 0),.len 15 (.t 14),.au 16 (.c (.int .i64 0))])
   Iy) (.seq (.ops [.aC 4 (.c (.int .i64 0))]) .ret)))))⟩
def BM:aA:=(.seq (.ops [.bin 22 .lss (.t 21) (.t 20)]) (.seq (.cond (.t 22) .skip (.exit 0)) (.seq (.block 1 (.seq (.ops [.fK 23 2 (.t 19) (.t 21),.load 24 (some 2) (.t 23),.alloc 9 [(.int .i64 0),(.int .i64 0)],.store none 2 (.t 9) (.t 24)]) (.seq (.ops [.load 26 (some 2) (.t 6),.load 27 (some 2) (.t 9),.call 28 42 [(.t 26),(.t 27)],.au 25 (.t 28),.ext 29 (.t 25) 0,.ext 30 (.t 25) 1,.store none 2 (.t 6) (.t 29),.aC 7 (.t 30)]) (.seq (.ops [.au 31 (.t 7),.bin 32 .neq (.t 31) (.c (.int .i64 0))]) (.cond (.t 32) (.seq (.ops [.build 33 [(.int .i64 0),(.list 1 [])] [],.au 34 (.t 7),.store none 2 (.t 4) (.t 33),.aC 5 (.t 34)]) .ret) .skip))))) (.ops [.bin 35 .add (.t 21) (.c (.int .i64 1)),.au 21 (.t 35)]))))
def Iz:aA :=
(.clean [1,4,6,19,20,21] [4,5,6] (.block 0 (.loop [1,4,6,19,20,21] BM)))
def Pv:je:=⟨2,37,[.cell 4 (some 2),.tmp 5],(.seq (.ops [.alloc 4 [(.int .i64 0),(.list 1 [])],.aC 5 (.c (.int .i64 0))]) (.seq (.ops [.au 11 (.t 0),.call 12 29 [(.t 11)],.au 10 (.t 12),.ext 13 (.t 10) 0,.ext 14 (.t 10) 1,.alloc 6 [(.int .i64 0),(.list 1 [])],.store none 2 (.t 6) (.t 13),.aC 7 (.t 14)]) (.seq (.seq (.ops [.au 15 (.t 7),.bin 16 .neq (.t 15) (.c (.int .i64 0))]) (.cond (.t 16) (.seq (.ops [.build 17 [(.int .i64 0),(.list 1 [])] [],.au 18 (.t 7),.store none 2 (.t 4) (.t 17),.aC 5 (.t 18)]) .ret) .skip)) (.seq (.seq (.ops [.au 19 (.t 1),.len 20 (.t 19),.au 21 (.c (.int .i64 0))])
   Iz) (.seq (.ops [.load 36 (some 2) (.t 6),.store none 2 (.t 4) (.t 36),.aC 5 (.c (.int .i64 0))]) .ret)))))⟩
def Yl:je:=⟨2,9,[.tmp 4],(.seq (.ops [.aC 4 (.nil 2)]) (.seq (.ops [.au 5 (.t 0),.au 6 (.t 1),.call 7 75 [(.t 5),(.t 6),(.c (.func 76 []))],.call 8 74 [(.t 7)],.aC 4 (.t 8)]) .ret))⟩
def BN:aA:=(.seq (.seq (.ops [.au 24 (.t 3),.aB 25 (.t 1) 1,.load 26 none (.t 25),.len 27 (.t 26),.bin 28 .mul (.c (.int .i64 64)) (.t 27),.bin 29 .lss (.t 24) (.t 28)]) (.cond (.t 29) .skip (.exit 0))) (.seq (.block 1 (.seq (.ops [.load 32 (some 2) (.t 1),.au 33 (.t 3),.call 34 52 [(.t 32),(.t 33)]]) (.cond (.t 34) (.seq (.ops [.aC 2 (.c (.int .i64 3))]) .ret) .skip))) (.ops [.au 30 (.t 3),.bin 31 .add (.t 30) (.c (.int .i64 1)),.aC 3 (.t 31)])))
def IB:aA :=
(.clean [1,3] [2] (.block 0 (.loop [1,3] BN)))
def LH:je:=⟨1,35,[.tmp 2],(.seq (.ops [.box 1 (.t 0),.aC 2 (.c (.int .i64 0))]) (.seq (.seq (.ops [.aB 4 (.t 1) 0,.load 5 none (.t 4),.bin 6 .lss (.t 5) (.c (.int .i64 0)),.au 7 (.t 6),.grd 7 false (.aB 8 (.t 1) 0),.grd 7 false (.load 9 none (.t 8)),.grd 7 false (.bin 10 .gtr (.t 9) (.c (.int .i64 4096))),.pick 11 (.t 7) (.c (.bool true)) (.t 10),.au 12 (.t 11),.grd 12 false (.aB 13 (.t 1) 1),.grd 12 false (.load 14 none (.t 13)),.grd 12 false (.len 15 (.t 14)),.grd 12 false (.aB 16 (.t 1) 0),.grd 12 false (.load 17 none (.t 16)),.grd 12 false (.bin 18 .add (.t 17) (.c (.int .i64 63))),.grd 12 false (.bin 19 .quo (.t 18) (.c (.int .i64 64))),.grd 12 false (.bin 20 .neq (.t 15) (.t 19)),.pick 21 (.t 12) (.c (.bool true)) (.t 20)]) (.cond (.t 21) (.seq (.ops [.aC 2 (.c (.int .i64 3))]) .ret) .skip)) (.seq (.seq (.ops [.aB 22 (.t 1) 0,.load 23 none (.t 22),.aC 3 (.t 23)])
   IB) (.seq (.ops [.aC 2 (.c (.int .i64 0))]) .ret))))⟩
def Ym:je:=⟨2,17,[.tmp 4],(.seq (.ops [.box 2 (.t 0),.aC 4 (.c (.bool false))]) (.seq (.ops [.aB 5 (.t 2) 1,.load 6 none (.t 5),.au 7 (.t 1),.bin 8 .quo (.t 7) (.c (.int .i64 64)),.fK 9 1 (.t 6) (.t 8),.load 10 none (.t 9),.au 11 (.t 1),.bin 12 .rem (.t 11) (.c (.int .i64 64)),.conv 13 .u64 (.t 12),.bin 14 .shr (.t 10) (.t 13),.bin 15 .and (.t 14) (.c (.int .u64 1)),.bin 16 .eql (.t 15) (.c (.int .u64 1)),.aC 4 (.t 16)]) .ret))⟩
def Yn:je:=⟨1,7,[.tmp 2],(.seq (.ops [.aC 2 (.c (.int .i64 0))]) (.seq (.ops [.au 3 (.t 0),.bin 4 .add (.t 3) (.c (.int .i64 64)),.bin 5 .sub (.t 4) (.c (.int .i64 1)),.bin 6 .quo (.t 5) (.c (.int .i64 64)),.aC 2 (.t 6)]) .ret))⟩
def EF:je:=⟨1,39,[.tmp 2],(.seq (.ops [.box 1 (.t 0),.aC 2 (.c (.int .i64 0))]) (.seq (.seq (.zi [] [([0,1,2,3,4,5,6,7,8,9,10,11,12,13],14)] none [15,16] [.aB 4 (.t 1) 0,.load 5 none (.t 4),.bin 6 .lss (.t 5) (.c (.int .i64 0)),.au 7 (.t 6),.grd 7 false (.aB 8 (.t 1) 0),.grd 7 false (.load 9 none (.t 8)),.grd 7 false (.bin 10 .gtr (.t 9) (.c (.int .i64 4096))),.pick 11 (.t 7) (.c (.bool true)) (.t 10),.au 12 (.t 11),.grd 12 false (.aB 13 (.t 1) 1),.grd 12 false (.load 14 none (.t 13)),.grd 12 false (.len 15 (.t 14)),.grd 12 false (.aB 16 (.t 1) 0),.grd 12 false (.load 17 none (.t 16)),.grd 12 false (.call 18 56 [(.t 17)]),.grd 12 false (.bin 19 .neq (.t 15) (.t 18)),.pick 20 (.t 12) (.c (.bool true)) (.t 19)]) (.cond (.t 20) (.seq (.ops [.aC 2 (.c (.int .i64 3))]) .ret) .skip)) (.seq (.seq (.ops [.aB 21 (.t 1) 0,.load 22 none (.t 21),.bin 23 .rem (.t 22) (.c (.int .i64 64)),.aC 3 (.t 23)]) (.seq (.ops [.au 24 (.t 3),.bin 25 .gtr (.t 24) (.c (.int .i64 0)),.au 26 (.t 25),.grd 26 true (.aB 27 (.t 1) 1),.grd 26 true (.load 28 none (.t 27)),.grd 26 true (.aB 29 (.t 1) 1),.grd 26 true (.load 30 none (.t 29)),.grd 26 true (.len 31 (.t 30)),.grd 26 true (.bin 32 .sub (.t 31) (.c (.int .i64 1))),.grd 26 true (.fK 33 1 (.t 28) (.t 32)),.grd 26 true (.load 34 none (.t 33)),.grd 26 true (.au 35 (.t 3)),.grd 26 true (.bin 36 .shr (.t 34) (.t 35)),.grd 26 true (.bin 37 .neq (.t 36) (.c (.int .u64 0))),.pick 38 (.t 26) (.t 37) (.c (.bool false))]) (.cond (.t 38) (.seq (.ops [.aC 2 (.c (.int .i64 3))]) .ret) .skip))) (.seq (.ops [.aC 2 (.c (.int .i64 0))]) .ret))))⟩
def IC:aA:=(.seq (.seq (.ops [.au 11 (.t 1),.bin 12 .geq (.t 11) (.c (.int .i64 128))]) (.cond (.t 12) .skip (.exit 0))) (.seq (.block 1 (.ops [.au 15 (.t 0),.au 16 (.t 1),.bin 17 .rem (.t 16) (.c (.int .i64 128)),.conv 18 .u8 (.t 17),.bin 19 .or (.t 18) (.c (.int .u8 128)),.mP 20 1 [(.t 19)],.app 21 1 (.t 15) (.t 20),.aC 0 (.t 21)])) (.ops [.au 13 (.t 1),.bin 14 .quo (.t 13) (.c (.int .i64 128)),.aC 1 (.t 14)])))
def IE:aA :=
(.clean [0,1,21] [0,1,4] (.block 0 (.loop [0,1,21] IC)))
def Px:je:=⟨2,27,[.tmp 4],(.seq (.ops [.aC 4 (.nil 1)]) (.seq (.seq (.ops [.au 5 (.t 1),.bin 6 .lss (.t 5) (.c (.int .i64 0)),.au 7 (.t 6),.grd 7 false (.au 8 (.t 1)),.grd 7 false (.bin 9 .gtr (.t 8) (.c (.int .i64 9007199254740991))),.pick 10 (.t 7) (.c (.bool true)) (.t 9)]) (.cond (.t 10) (.ops [.aC 1 (.c (.int .i64 0))]) .skip)) (.seq
  IE (.seq (.ops [.au 22 (.t 0),.au 23 (.t 1),.conv 24 .u8 (.t 23),.mP 25 1 [(.t 24)],.app 26 1 (.t 22) (.t 25),.aC 4 (.t 26)]) .ret))))⟩
def ab9:je:=⟨1,8,[.tmp 2],(.seq (.ops [.aC 2 (.nil 1)]) (.seq (.seq (.ops [.au 3 (.t 0),.Nk 4 false (.t 3)]) (.cond (.t 4) (.seq (.ops [.aC 2 (.nil 1)]) .ret) .skip)) (.seq (.ops [.mP 5 1 [],.au 6 (.t 0),.app 7 1 (.t 5) (.t 6),.aC 2 (.t 7)]) .ret)))⟩
def IG:aA:=(.seq (.ops [.bin 16 .lss (.t 15) (.t 14)]) (.seq (.cond (.t 16) .skip (.exit 0)) (.seq (.block 1 (.seq (.ops [.fK 17 2 (.t 13) (.t 15),.load 18 (some 2) (.t 17),.alloc 8 [(.int .i64 0),(.int .i64 0)],.store none 2 (.t 8) (.t 18)]) (.ops [.au 19 (.t 2),.au 20 (.t 0),.load 21 (some 2) (.t 8),.linv 22 (.t 19) (.t 20) [(.t 21)],.aC 0 (.t 22)]))) (.ops [.bin 23 .add (.t 15) (.c (.int .i64 1)),.au 15 (.t 23)]))))
def II:aA :=
(.clean [0,1,2,12,13,14,15,22] [0,6] (.block 0 (.loop [0,1,2,12,13,14,15,22] IG)))
def Yo:je:=⟨3,25,[.tmp 6],(.seq (.ops [.aC 6 (.nil 1)]) (.seq (.ops [.au 9 (.t 0),.au 10 (.t 1),.len 11 (.t 10),.lin 12 58 (.t 9) [(.t 11)],.aC 0 (.t 12)]) (.seq (.seq (.ops [.au 13 (.t 1),.len 14 (.t 13),.au 15 (.c (.int .i64 0))])
   II) (.seq (.ops [.au 24 (.t 0),.aC 6 (.t 24)]) .ret))))⟩
def Yp:je:=⟨2,12,[.tmp 4],(.seq (.ops [.box 3 (.t 1),.aC 4 (.nil 1)]) (.seq (.zi [(.t 3)] [] (some ([0,1,2],[4,5],3,[([],6)])) [7] [.au 5 (.t 0),.aB 6 (.t 3) 0,.load 7 none (.t 6),.aB 9 (.t 3) 1,.JF 10 none (.t 9),.lin 8 58 (.t 5) [(.t 7)],.lin 11 58 (.t 8) [(.t 10)],.aC 4 (.t 11)]) .ret))⟩
def Yq:je:=⟨2,6,[.tmp 4],(.seq (.ops [.box 2 (.t 0),.box 3 (.t 1),.aC 4 (.c .qM)]) (.seq (.ops [.Qi 5 77 [(.t 2),(.t 3)],.aC 4 (.t 5)]) .ret))⟩
def IJ:je:=⟨2,52,[.cell 4 (some 2),.tmp 5],(.seq (.ops [.box 2 (.t 0),.box 3 (.t 1),.alloc 4 [(.int .i64 0),(.int .i64 0)],.aC 5 (.c (.int .i64 0))]) (.seq (.seq (.ops [.aB 7 (.t 3) 0,.load 8 none (.t 7),.bin 9 .lss (.t 8) (.c (.int .i64 0)),.au 10 (.t 9),.grd 10 false (.aB 11 (.t 3) 1),.grd 10 false (.load 12 none (.t 11)),.grd 10 false (.bin 13 .lss (.t 12) (.c (.int .i64 1))),.pick 14 (.t 10) (.c (.bool true)) (.t 13),.au 15 (.t 14),.grd 15 false (.aB 16 (.t 3) 0),.grd 15 false (.load 17 none (.t 16)),.grd 15 false (.aB 18 (.t 2) 0),.grd 15 false (.load 19 none (.t 18)),.grd 15 false (.bin 20 .geq (.t 17) (.t 19)),.pick 21 (.t 15) (.c (.bool true)) (.t 20),.au 22 (.t 21),.grd 22 false (.aB 23 (.t 3) 1),.grd 22 false (.load 24 none (.t 23)),.grd 22 false (.aB 25 (.t 2) 0),.grd 22 false (.load 26 none (.t 25)),.grd 22 false (.aB 27 (.t 3) 0),.grd 22 false (.load 28 none (.t 27)),.grd 22 false (.bin 29 .sub (.t 26) (.t 28)),.grd 22 false (.bin 30 .gtr (.t 24) (.t 29)),.pick 31 (.t 22) (.c (.bool true)) (.t 30)]) (.cond (.t 31) (.seq (.ops [.build 32 [(.int .i64 0),(.int .i64 0)] [],.store none 2 (.t 4) (.t 32),.aC 5 (.c (.int .i64 2))]) .ret) .skip)) (.seq (.ops [.aB 33 (.t 3) 0,.load 34 none (.t 33),.aB 35 (.t 2) 1,.load 36 none (.t 35),.bin 37 .quo (.t 34) (.t 36),.aC 6 (.t 37)]) (.seq (.ops [.au 38 (.t 6),.aB 39 (.t 3) 0,.load 40 none (.t 39),.aB 41 (.t 3) 1,.load 42 none (.t 41),.bin 43 .add (.t 40) (.t 42),.bin 44 .sub (.t 43) (.c (.int .i64 1)),.aB 45 (.t 2) 1,.load 46 none (.t 45),.bin 47 .quo (.t 44) (.t 46),.au 48 (.t 6),.bin 49 .sub (.t 47) (.t 48),.bin 50 .add (.t 49) (.c (.int .i64 1)),.build 51 [(.int .i64 0),(.int .i64 0)] [(0,1,(.t 38)),(1,1,(.t 50))],.store none 2 (.t 4) (.t 51),.aC 5 (.c (.int .i64 0))]) .ret))))⟩
def yP:aA:=(.seq (.ops [.bin 7 .lss (.t 6) (.t 5)]) (.seq (.cond (.t 7) .skip (.exit 0)) (.seq (.block 1 (.seq (.ops [.au 8 (.t 6),.aC 3 (.t 8)]) (.seq (.ops [.au 9 (.t 0),.aB 10 (.t 1) 0,.load 11 none (.t 10),.au 12 (.t 3),.bin 13 .add (.t 11) (.t 12),.yield 14 (.t 9) [(.t 13)],.un 15 .not (.t 14)]) (.cond (.t 15) .ret .skip)))) (.ops [.bin 16 .add (.t 6) (.c (.int .i64 1)),.au 6 (.t 16)]))))
def yQ:aA :=
(.clean [0,1,5,6] [] (.block 0 (.loop [0,1,5,6] yP)))
def UL:je:=⟨2,17,[],(.seq (.ops [.aB 4 (.t 1) 1,.load 5 none (.t 4),.au 6 (.c (.int .i64 0))])
 yQ)⟩
def Yr:je:=⟨2,8,[.tmp 4],(.seq (.ops [.aC 4 (.c (.int .u64 0))]) (.seq (.ops [.au 5 (.t 0),.au 6 (.t 1),.bin 7 .or (.t 5) (.t 6),.aC 4 (.t 7)]) .ret))⟩
def IK:aA:=(.seq (.ops [.bin 29 .lss (.t 28) (.t 27)]) (.seq (.cond (.t 29) .skip (.exit 0)) (.seq (.block 1 (.seq (.ops [.au 30 (.t 28),.aC 10 (.t 30)]) (.zi [] [([0,1,2,3,4,5,6,7,8,9,10,11,12,13,14,15],16),([],17)] (some ([18],[],19,[])) [] [.au 31 (.t 9),.au 32 (.t 10),.aB 33 (.t 3) 0,.load 34 none (.t 33),.au 35 (.t 9),.au 36 (.t 10),.fK 37 1 (.t 35) (.t 36),.load 38 none (.t 37),.au 39 (.t 10),.aB 40 (.t 5) 0,.load 41 none (.t 40),.aB 42 (.t 5) 0,.load 43 none (.t 42),.aB 44 (.t 5) 1,.load 45 none (.t 44),.bin 46 .add (.t 43) (.t 45),.call 47 78 [(.t 39),(.t 41),(.t 46)],.oD 48 (.t 34) [(.t 38),(.t 47)],.fK 49 1 (.t 31) (.t 32),.store none 1 (.t 49) (.t 48)]))) (.ops [.bin 50 .add (.t 28) (.c (.int .i64 1)),.au 28 (.t 50)]))))
def IL:aA :=
(.clean [3,4,5,6,9,25,27,28] [4,6,7,9] (.block 0 (.loop [3,4,5,6,9,25,27,28] IK)))
def Py:je:=⟨3,55,[.cell 6 (some 2),.tmp 7],(.seq (.ops [.box 3 (.t 0),.box 4 (.t 1),.box 5 (.t 2),.alloc 6 [(.int .i64 0),(.list 1 [])],.aC 7 (.c (.int .i64 0))]) (.seq (.seq (.ops [.load 11 (some 2) (.t 4),.call 12 57 [(.t 11)],.aC 8 (.t 12)]) (.seq (.ops [.au 13 (.t 8),.bin 14 .neq (.t 13) (.c (.int .i64 0))]) (.cond (.t 14) (.seq (.ops [.build 15 [(.int .i64 0),(.list 1 [])] [],.au 16 (.t 8),.store none 2 (.t 6) (.t 15),.aC 7 (.t 16)]) .ret) .skip))) (.seq (.seq (.ops [.load 17 (some 2) (.t 5),.aB 18 (.t 4) 0,.load 19 none (.t 18),.call 20 80 [(.t 17),(.t 19)],.un 21 .not (.t 20)]) (.cond (.t 21) (.seq (.ops [.build 22 [(.int .i64 0),(.list 1 [])] [],.store none 2 (.t 6) (.t 22),.aC 7 (.c (.int .i64 2))]) .ret) .skip)) (.seq (.ops [.aB 23 (.t 4) 1,.load 24 none (.t 23),.call 25 81 [(.t 24)],.aC 9 (.t 25)]) (.seq (.seq (.ops [.au 26 (.t 9),.len 27 (.t 26),.au 28 (.c (.int .i64 0))])
    IL) (.seq (.ops [.aB 51 (.t 4) 0,.load 52 none (.t 51),.au 53 (.t 9),.build 54 [(.int .i64 0),(.list 1 [])] [(0,1,(.t 52)),(1,1,(.t 53))],.store none 2 (.t 6) (.t 54),.aC 7 (.c (.int .i64 0))]) .ret))))))⟩
def Yt:je:=⟨2,8,[.tmp 4],(.seq (.ops [.aC 4 (.c (.int .u64 0))]) (.seq (.ops [.au 5 (.t 0),.au 6 (.t 1),.bin 7 .andNot (.t 5) (.t 6),.aC 4 (.t 7)]) .ret))⟩
def UM:je:=⟨2,30,[.tmp 4,.tmp 5,.tmp 6],(.seq (.ops [.aC 4 (.c (.int .i64 0)),.aC 5 (.nil 1),.aC 6 (.c (.int .i64 0))]) (.seq (.ops [.au 11 (.t 0),.build 12 [(.list 0 [])] [(0,1,(.t 11))],.box 13 (.t 12),.aC 7 (.t 13)]) (.seq (.ops [.au 15 (.t 1),.au 16 (.t 7),.linv 17 (.t 15) (.t 16) [],.au 14 (.t 17),.ext 18 (.t 14) 0,.ext 19 (.t 14) 1,.aC 8 (.t 18),.aC 9 (.t 19)]) (.seq (.seq (.ops [.au 20 (.t 9),.bin 21 .neq (.t 20) (.c (.int .i64 0))]) (.cond (.t 21) (.seq (.ops [.aC 10 (.c (.int .i64 0))]) (.seq (.ops [.au 22 (.t 10),.au 23 (.t 9),.aC 4 (.t 22),.aC 5 (.nil 1),.aC 6 (.t 23)]) .ret)) .skip)) (.seq (.ops [.au 24 (.t 8),.au 25 (.t 7),.aB 26 (.t 25) 0,.aB 27 (.t 26) 0,.load 28 none (.t 27),.call 29 59 [(.t 28)],.aC 4 (.t 24),.aC 5 (.t 29),.aC 6 (.c (.int .i64 0))]) .ret)))))⟩
def oU:aA:=(.seq (.ops [.bin 8 .lss (.t 7) (.c (.int .i64 8))]) (.seq (.cond (.t 8) .skip (.exit 0)) (.seq (.block 1 (.seq (.ops [.au 9 (.t 7),.aC 5 (.t 9)]) (.seq (.seq (.ops [.au 10 (.t 5),.au 11 (.t 0),.aB 12 (.t 11) 0,.aB 13 (.t 12) 0,.load 14 none (.t 13),.len 15 (.t 14),.bin 16 .geq (.t 10) (.t 15)]) (.cond (.t 16) (.seq (.ops [.aC 2 (.c (.int .i64 0)),.aC 3 (.c (.int .i64 10))]) .ret) .skip)) (.seq (.ops [.au 17 (.t 0),.aB 18 (.t 17) 0,.aB 19 (.t 18) 0,.load 20 none (.t 19),.au 21 (.t 5),.fK 22 1 (.t 20) (.t 21),.load 23 none (.t 22),.aC 6 (.t 23)]) (.seq (.ops [.au 24 (.t 4),.au 25 (.t 6),.bin 26 .and (.t 25) (.c (.int .u8 127)),.conv 27 .i64 (.t 26),.au 28 (.t 5),.bin 29 .mul (.c (.int .i64 7)) (.t 28),.bin 30 .shl (.t 27) (.t 29),.bin 31 .or (.t 24) (.t 30),.aC 4 (.t 31)]) (.seq (.seq (.ops [.au 32 (.t 6),.bin 33 .and (.t 32) (.c (.int .u8 128)),.bin 34 .neq (.t 33) (.c (.int .u8 0))]) (.cond (.t 34) (.exit 1) .skip)) (.seq (.seq (.ops [.au 35 (.t 6),.bin 36 .eql (.t 35) (.c (.int .u8 0)),.au 37 (.t 36),.grd 37 true (.au 38 (.t 5)),.grd 37 true (.bin 39 .gtr (.t 38) (.c (.int .i64 0))),.pick 40 (.t 37) (.t 39) (.c (.bool false)),.au 41 (.t 40),.grd 41 false (.au 42 (.t 4)),.grd 41 false (.bin 43 .gtr (.t 42) (.c (.int .i64 9007199254740991))),.pick 44 (.t 41) (.c (.bool true)) (.t 43)]) (.cond (.t 44) (.seq (.ops [.aC 2 (.c (.int .i64 0)),.aC 3 (.c (.int .i64 3))]) .ret) .skip)) (.seq (.ops [.au 45 (.t 0),.au 46 (.t 0),.aB 47 (.t 46) 0,.aB 48 (.t 47) 0,.load 49 none (.t 48),.au 50 (.t 5),.bin 51 .add (.t 50) (.c (.int .i64 1)),.Qh 52 1 (.t 49) (some (.t 51)) none,.aB 53 (.t 45) 0,.aB 54 (.t 53) 0,.store none 1 (.t 54) (.t 52)]) (.seq (.ops [.au 55 (.t 4),.aC 2 (.t 55),.aC 3 (.c (.int .i64 0))]) .ret))))))))) (.ops [.bin 56 .add (.t 7) (.c (.int .i64 1)),.au 7 (.t 56)]))))
def IQ:aA :=
(.clean [0,4,7] [2,3] (.block 0 (.loop [0,4,7] oU)))
def Yu:je:=⟨1,57,[.tmp 2,.tmp 3],(.seq (.ops [.aC 2 (.c (.int .i64 0)),.aC 3 (.c (.int .i64 0))]) (.seq (.ops [.aC 4 (.c (.int .i64 0))]) (.seq (.seq (.ops [.au 7 (.c (.int .i64 0))])
   IQ) (.seq (.ops [.aC 2 (.c (.int .i64 0)),.aC 3 (.c (.int .i64 3))]) .ret))))⟩
def UN:je:=⟨2,30,[.tmp 4,.tmp 5,.tmp 6],(.seq (.ops [.aC 4 (.nil 2),.aC 5 (.nil 1),.aC 6 (.c (.int .i64 0))]) (.seq (.ops [.au 11 (.t 0),.build 12 [(.list 0 [])] [(0,1,(.t 11))],.box 13 (.t 12),.aC 7 (.t 13)]) (.seq (.ops [.au 15 (.t 1),.au 16 (.t 7),.linv 17 (.t 15) (.t 16) [],.au 14 (.t 17),.ext 18 (.t 14) 0,.ext 19 (.t 14) 1,.aC 8 (.t 18),.aC 9 (.t 19)]) (.seq (.seq (.ops [.au 20 (.t 9),.bin 21 .neq (.t 20) (.c (.int .i64 0))]) (.cond (.t 21) (.seq (.ops [.aC 10 (.nil 2)]) (.seq (.ops [.au 22 (.t 10),.au 23 (.t 9),.aC 4 (.t 22),.aC 5 (.nil 1),.aC 6 (.t 23)]) .ret)) .skip)) (.seq (.ops [.au 24 (.t 8),.au 25 (.t 7),.aB 26 (.t 25) 0,.aB 27 (.t 26) 0,.load 28 none (.t 27),.call 29 59 [(.t 28)],.aC 4 (.t 24),.aC 5 (.t 29),.aC 6 (.c (.int .i64 0))]) .ret)))))⟩
def Yv:je:=⟨1,8,[.tmp 2,.tmp 3],(.seq (.ops [.aC 2 (.nil 2),.aC 3 (.c (.int .i64 0))]) (.seq (.ops [.au 4 (.t 0),.lin 5 72 (.t 4) [(.c (.func 73 []))],.ext 6 (.t 5) 0,.ext 7 (.t 5) 1,.aC 2 (.t 6),.aC 3 (.t 7)]) .ret))⟩
def BO:aA:=(.seq (.ops [.bin 21 .lss (.t 20) (.t 19)]) (.seq (.cond (.t 21) .skip (.exit 0)) (.seq (.block 1 (.seq (.ops [.au 23 (.t 1),.au 24 (.t 0),.linv 25 (.t 23) (.t 24) [],.au 22 (.t 25),.ext 26 (.t 22) 0,.ext 27 (.t 22) 1,.alloc 9 [(.int .i64 0),(.int .i64 0)],.store none 2 (.t 9) (.t 26),.aC 10 (.t 27)]) (.seq (.seq (.ops [.au 28 (.t 10),.bin 29 .neq (.t 28) (.c (.int .i64 0))]) (.cond (.t 29) (.seq (.ops [.au 30 (.t 10),.aC 4 (.nil 2),.aC 5 (.t 30)]) .ret) .skip)) (.ops [.au 31 (.t 8),.load 32 (some 2) (.t 9),.mP 33 2 [(.t 32)],.app 34 2 (.t 31) (.t 33),.aC 8 (.t 34)])))) (.ops [.bin 35 .add (.t 20) (.c (.int .i64 1)),.au 20 (.t 35)]))))
def IU:aA :=
(.clean [0,1,8,19,20,34] [4,5,8] (.block 0 (.loop [0,1,8,19,20,34] BO)))
def Yw:je:=⟨2,37,[.tmp 4,.tmp 5],(.seq (.ops [.aC 4 (.nil 2),.aC 5 (.c (.int .i64 0))]) (.seq (.ops [.au 12 (.t 0),.lin 13 82 (.t 12) [],.au 11 (.t 13),.ext 14 (.t 11) 0,.ext 15 (.t 11) 1,.aC 6 (.t 14),.aC 7 (.t 15)]) (.seq (.seq (.ops [.au 16 (.t 7),.bin 17 .neq (.t 16) (.c (.int .i64 0))]) (.cond (.t 17) (.seq (.ops [.au 18 (.t 7),.aC 4 (.nil 2),.aC 5 (.t 18)]) .ret) .skip)) (.seq (.ops [.aC 8 (.nil 2)]) (.seq (.seq (.ops [.au 19 (.t 6),.au 20 (.c (.int .i64 0))])
    IU) (.seq (.ops [.au 36 (.t 8),.aC 4 (.t 36),.aC 5 (.c (.int .i64 0))]) .ret))))))⟩
def Yx:je:=⟨1,17,[.cell 2 (some 2),.tmp 3],(.seq (.ops [.alloc 2 [(.int .i64 0),(.int .i64 0)],.aC 3 (.c (.int .i64 0))]) (.seq (.ops [.au 8 (.t 0),.lin 9 83 (.t 8) [],.au 7 (.t 9),.ext 10 (.t 7) 0,.ext 11 (.t 7) 1,.ext 12 (.t 7) 2,.aC 4 (.t 10),.aC 5 (.t 11),.aC 6 (.t 12)]) (.seq (.ops [.au 13 (.t 4),.au 14 (.t 5),.build 15 [(.int .i64 0),(.int .i64 0)] [(0,1,(.t 13)),(1,1,(.t 14))],.au 16 (.t 6),.store none 2 (.t 2) (.t 15),.aC 3 (.t 16)]) .ret)))⟩
def Yy:je:=⟨1,5,[.tmp 2],(.seq (.ops [.aC 2 (.nil 2)]) (.seq (.ops [.au 3 (.t 0),.call 4 84 [(.c (.lK 2)),(.t 3)],.aC 2 (.t 4)]) .ret))⟩
def Yz:je:=⟨3,8,[.tmp 6],(.seq (.ops [.box 3 (.t 0),.box 4 (.t 1),.box 5 (.t 2),.aC 6 (.c .qM)]) (.seq (.ops [.Qi 7 85 [(.t 3),(.t 4),(.t 5)],.aC 6 (.t 7)]) .ret))⟩
def YA:je:=⟨2,9,[.tmp 4],(.seq (.ops [.aC 4 (.c (.bool false))]) (.seq (.ops [.au 5 (.t 0),.au 6 (.t 5),.grd 6 false (.au 7 (.t 1)),.pick 8 (.t 6) (.c (.bool true)) (.t 7),.aC 4 (.t 8)]) .ret))⟩
def IV:aA:=(.seq (.seq (.ops [.au 24 (.t 5),.bin 25 .neq (.t 24) (.c (.int .u64 0))]) (.cond (.t 25) .skip (.exit 2))) (.block 3 (.seq (.seq (.ops [.au 26 (.t 0),.au 27 (.t 4),.bin 28 .mul (.t 27) (.c (.int .i64 64)),.au 29 (.t 5),.call 30 79 [(.t 29)],.bin 31 .add (.t 28) (.t 30),.yield 32 (.t 26) [(.t 31)],.un 33 .not (.t 32)]) (.cond (.t 33) .ret .skip)) (.ops [.au 34 (.t 5),.au 35 (.t 5),.bin 36 .sub (.t 35) (.c (.int .u64 1)),.bin 37 .and (.t 34) (.t 36),.aC 5 (.t 37)]))))
def IW:aA :=
(.clean [0,1,2,4,5,10,11,12] [0,1,2,10,11,12] (.block 2 (.loop [0,1,2,4,5,10,11,12] IV)))
def IX:aA:=(.seq (.ops [.bin 13 .lss (.t 12) (.t 11)]) (.seq (.cond (.t 13) .skip (.exit 0)) (.seq (.block 1 (.seq (.ops [.au 14 (.t 12),.fK 15 1 (.t 10) (.t 12),.load 16 none (.t 15),.aC 4 (.t 14),.aC 5 (.t 16)]) (.seq (.ops [.au 17 (.t 5),.au 18 (.t 4),.load 19 none (.t 2),.aB 20 (.t 1) 0,.load 21 none (.t 20),.call 22 78 [(.t 18),(.t 19),(.t 21)],.bin 23 .and (.t 17) (.t 22),.aC 5 (.t 23)])
    IW))) (.ops [.bin 38 .add (.t 12) (.c (.int .i64 1)),.au 12 (.t 38)]))))
def IY:aA :=
(.clean [0,1,2,10,11,12] [] (.block 0 (.loop [0,1,2,10,11,12] IX)))
def YB:je:=⟨3,39,[],(.seq (.seq (.ops [.load 6 (some 2) (.t 1),.call 7 57 [(.t 6)],.bin 8 .neq (.t 7) (.c (.int .i64 0))]) (.cond (.t 8) .ret .skip)) (.seq (.ops [.aB 9 (.t 1) 1,.load 10 none (.t 9),.len 11 (.t 10),.au 12 (.c (.int .i64 0))])
  IY))⟩
def UO:je:=⟨3,27,[.tmp 6],(.seq (.ops [.aC 6 (.c (.int .u64 0))]) (.seq (.ops [.au 7 (.t 1),.au 8 (.t 0),.bin 9 .mul (.t 8) (.c (.int .i64 64)),.bin 10 .sub (.t 7) (.t 9),.mn 11 true (.t 10) (.c (.int .i64 0)),.au 12 (.t 2),.au 13 (.t 0),.bin 14 .mul (.t 13) (.c (.int .i64 64)),.bin 15 .sub (.t 12) (.t 14),.mn 16 false (.t 15) (.c (.int .i64 64)),.aC 1 (.t 11),.aC 2 (.t 16)]) (.seq (.seq (.ops [.au 17 (.t 1),.au 18 (.t 2),.bin 19 .geq (.t 17) (.t 18)]) (.cond (.t 19) (.seq (.ops [.aC 6 (.c (.int .u64 0))]) .ret) .skip)) (.seq (.ops [.au 20 (.t 2),.au 21 (.t 1),.bin 22 .sub (.t 20) (.t 21),.bin 23 .sub (.c (.int .i64 64)) (.t 22),.bin 24 .shr (.c (.int .u64 18446744073709551615)) (.t 23),.au 25 (.t 1),.bin 26 .shl (.t 24) (.t 25),.aC 6 (.t 26)]) .ret))))⟩
def LJ:je:=⟨2,28,[.tmp 4],(.seq (.ops [.box 2 (.t 0),.aC 4 (.c (.bool false))]) (.seq (.ops [.aB 5 (.t 2) 0,.load 6 none (.t 5),.bin 7 .geq (.t 6) (.c (.int .i64 0)),.au 8 (.t 7),.grd 8 true (.aB 9 (.t 2) 1),.grd 8 true (.load 10 none (.t 9)),.grd 8 true (.bin 11 .geq (.t 10) (.c (.int .i64 0))),.pick 12 (.t 8) (.t 11) (.c (.bool false)),.au 13 (.t 12),.grd 13 true (.aB 14 (.t 2) 0),.grd 13 true (.load 15 none (.t 14)),.grd 13 true (.au 16 (.t 1)),.grd 13 true (.bin 17 .leq (.t 15) (.t 16)),.pick 18 (.t 13) (.t 17) (.c (.bool false)),.au 19 (.t 18),.grd 19 true (.aB 20 (.t 2) 1),.grd 19 true (.load 21 none (.t 20)),.grd 19 true (.au 22 (.t 1)),.grd 19 true (.aB 23 (.t 2) 0),.grd 19 true (.load 24 none (.t 23)),.grd 19 true (.bin 25 .sub (.t 22) (.t 24)),.grd 19 true (.bin 26 .leq (.t 21) (.t 25)),.pick 27 (.t 19) (.t 26) (.c (.bool false)),.aC 4 (.t 27)]) .ret))⟩
def acd:je:=⟨1,8,[.tmp 2],(.seq (.ops [.aC 2 (.nil 1)]) (.seq (.seq (.ops [.au 3 (.t 0),.Nk 4 false (.t 3)]) (.cond (.t 4) (.seq (.ops [.aC 2 (.nil 1)]) .ret) .skip)) (.seq (.ops [.mP 5 1 [],.au 6 (.t 0),.app 7 1 (.t 5) (.t 6),.aC 2 (.t 7)]) .ret)))⟩
def YC:je:=⟨1,19,[.tmp 2,.tmp 3],(.seq (.ops [.aC 2 (.c (.int .i64 0)),.aC 3 (.c (.int .i64 0))]) (.seq (.ops [.au 7 (.t 0),.lin 8 69 (.t 7) [],.au 6 (.t 8),.ext 9 (.t 6) 0,.ext 10 (.t 6) 1,.aC 4 (.t 9),.aC 5 (.t 10)]) (.seq (.seq (.ops [.au 11 (.t 5),.bin 12 .eql (.t 11) (.c (.int .i64 0)),.au 13 (.t 12),.grd 13 true (.au 14 (.t 4)),.grd 13 true (.bin 15 .gtr (.t 14) (.c (.int .i64 65536))),.pick 16 (.t 13) (.t 15) (.c (.bool false))]) (.cond (.t 16) (.ops [.aC 5 (.c (.int .i64 5))]) .skip)) (.seq (.ops [.au 17 (.t 4),.au 18 (.t 5),.aC 2 (.t 17),.aC 3 (.t 18)]) .ret))))⟩
def YD:je:=⟨1,24,[.tmp 2,.tmp 3,.tmp 4],(.seq (.ops [.aC 2 (.c (.int .i64 0)),.aC 3 (.c (.int .i64 0)),.aC 4 (.c (.int .i64 0))]) (.seq (.ops [.au 9 (.t 0),.lin 10 69 (.t 9) [],.au 8 (.t 10),.ext 11 (.t 8) 0,.ext 12 (.t 8) 1,.aC 5 (.t 11),.aC 6 (.t 12)]) (.seq (.seq (.ops [.au 13 (.t 6),.bin 14 .neq (.t 13) (.c (.int .i64 0))]) (.cond (.t 14) (.seq (.ops [.au 15 (.t 6),.aC 2 (.c (.int .i64 0)),.aC 3 (.c (.int .i64 0)),.aC 4 (.t 15)]) .ret) .skip)) (.seq (.ops [.au 17 (.t 0),.lin 18 69 (.t 17) [],.au 16 (.t 18),.ext 19 (.t 16) 0,.ext 20 (.t 16) 1,.aC 7 (.t 19),.aC 6 (.t 20)]) (.seq (.ops [.au 21 (.t 5),.au 22 (.t 7),.au 23 (.t 6),.aC 2 (.t 21),.aC 3 (.t 22),.aC 4 (.t 23)]) .ret)))))⟩
def QC:aA:=(.ops [.alloc 5 [(.int .i64 0),(.int .i64 0)],.store none 2 (.t 5) (.t 7)])
def QD:aA:=(.block 1 (.ops [.load 8 none (.t 2),.load 9 (some 2) (.t 5),.mP 10 2 [(.t 9)],.app 11 2 (.t 8) (.t 10),.store none 1 (.t 2) (.t 11)]))
def YE:je:=⟨2,13,[.tmp 4],(.seq (.ops [.box 2 (.t 0),.aC 4 (.nil 2)]) (.seq (.seq (.ops [.au 6 (.t 1)]) (.block 0 (.rng (.t 6) [7] QC QD))) (.seq (.ops [.load 12 none (.t 2),.aC 4 (.t 12)]) .ret)))⟩
def qx:aA:=(.seq (.ops [.bin 19 .lss (.t 18) (.t 17)]) (.seq (.cond (.t 19) .skip (.exit 0)) (.seq (.block 1 (.seq (.ops [.au 20 (.t 18),.fK 21 3 (.t 16) (.t 18),.load 22 (some 3) (.t 21),.alloc 10 [(.int .i64 0),(.int .i64 0),(.int .i64 0)],.aC 9 (.t 20),.store none 3 (.t 10) (.t 22)]) (.seq (.zi [] [] (some ([0,1,2,3,4,5,6,7],[],8,[])) [] [.aB 23 (.t 10) 1,.load 24 none (.t 23),.qN 25 (.t 6) (.t 24) 2 1,.load 26 none (.t 25),.aB 27 (.t 10) 2,.load 28 none (.t 27),.bin 29 .add (.t 26) (.t 28),.qN 30 (.t 6) (.t 24) 2 1,.store none 1 (.t 30) (.t 29)]) (.seq (.seq (.zi [] [] none [0,1,2,3,4,5,6,7,8,9,10,11,12,13,14,15] [.au 31 (.t 9),.bin 32 .add (.t 31) (.c (.int .i64 1)),.au 33 (.t 5),.len 34 (.t 33),.bin 35 .lss (.t 32) (.t 34),.au 36 (.t 35),.grd 36 true (.au 37 (.t 5)),.grd 36 true (.au 38 (.t 9)),.grd 36 true (.bin 39 .add (.t 38) (.c (.int .i64 1))),.grd 36 true (.fK 40 3 (.t 37) (.t 39)),.grd 36 true (.aB 41 (.t 40) 0),.grd 36 true (.load 42 none (.t 41)),.grd 36 true (.aB 43 (.t 10) 0),.grd 36 true (.load 44 none (.t 43)),.grd 36 true (.bin 45 .eql (.t 42) (.t 44)),.pick 46 (.t 36) (.t 45) (.c (.bool false))]) (.cond (.t 46) (.exit 1) .skip)) (.seq (.ops [.load 47 none (.t 3),.qN 48 (.t 6) (.c (.int .i64 0)) 2 1,.load 49 none (.t 48),.bin 50 .gtr (.t 49) (.c (.int .i64 0)),.qN 51 (.t 6) (.c (.int .i64 1)) 2 1,.load 52 none (.t 51),.bin 53 .gtr (.t 52) (.c (.int .i64 0)),.oD 54 (.t 47) [(.t 50),(.t 53)],.aC 11 (.t 54)]) (.seq (.seq (.ops [.au 55 (.t 11),.au 56 (.t 55),.grd 56 true (.au 57 (.t 8)),.grd 56 true (.un 58 .not (.t 57)),.pick 59 (.t 56) (.t 58) (.c (.bool false))]) (.cond (.t 59) (.ops [.aB 60 (.t 10) 0,.load 61 none (.t 60),.aC 7 (.t 61)]) .skip)) (.seq (.seq (.ops [.au 62 (.t 11),.un 63 .not (.t 62),.au 64 (.t 63),.grd 64 true (.au 65 (.t 8)),.pick 66 (.t 64) (.t 65) (.c (.bool false)),.au 67 (.t 66),.grd 67 true (.au 68 (.t 0)),.grd 67 true (.au 69 (.t 7)),.grd 67 true (.aB 70 (.t 10) 0),.grd 67 true (.load 71 none (.t 70)),.grd 67 true (.au 72 (.t 7)),.grd 67 true (.bin 73 .sub (.t 71) (.t 72)),.grd 67 true (.build 74 [(.int .i64 0),(.int .i64 0)] [(0,1,(.t 69)),(1,1,(.t 73))]),.grd 67 true (.yield 75 (.t 68) [(.t 74)]),.grd 67 true (.un 76 .not (.t 75)),.pick 77 (.t 67) (.t 76) (.c (.bool false))]) (.cond (.t 77) .ret .skip)) (.ops [.au 78 (.t 11),.aC 8 (.t 78)])))))))) (.ops [.bin 79 .add (.t 18) (.c (.int .i64 1)),.au 18 (.t 79)]))))
def IZ:aA :=
(.clean [0,3,5,6,7,8,15,16,17,18] [] (.block 0 (.loop [0,3,5,6,7,8,15,16,17,18] qx)))
def YF:je:=⟨4,80,[],(.seq (.ops [.load 12 none (.t 1),.load 13 none (.t 2),.mP 14 1 [(.t 12),(.t 13)],.call 15 86 [(.t 14)],.aC 5 (.t 15)]) (.seq (.ops [.alloc 6 [(.int .i64 0),(.int .i64 0)]]) (.seq (.ops [.aC 7 (.c (.int .i64 0)),.aC 8 (.c (.bool false))]) (.seq (.ops [.au 16 (.t 5),.len 17 (.t 16),.au 18 (.c (.int .i64 0))])
   IZ))))⟩
def BP:aA:=(.seq (.ops [.bin 21 .lss (.t 20) (.t 19)]) (.seq (.cond (.t 21) .skip (.exit 2)) (.seq (.block 3 (.seq (.ops [.fK 22 2 (.t 18) (.t 20),.load 23 (some 2) (.t 22),.alloc 7 [(.int .i64 0),(.int .i64 0)],.store none 2 (.t 7) (.t 23)]) (.seq (.ops [.load 25 (some 2) (.t 7),.call 26 87 [(.t 25)],.au 24 (.t 26),.ext 27 (.t 24) 0,.ext 28 (.t 24) 1,.ext 29 (.t 24) 2,.aC 8 (.t 27),.aC 9 (.t 28),.aC 10 (.t 29)]) (.seq (.ops [.au 30 (.t 10)]) (.cond (.t 30) (.ops [.au 31 (.t 3),.au 32 (.t 8),.au 33 (.t 4),.build 34 [(.int .i64 0),(.int .i64 0),(.int .i64 0)] [(0,1,(.t 32)),(1,1,(.t 33)),(2,1,(.c (.int .i64 1)))],.au 35 (.t 9),.au 36 (.t 4),.build 37 [(.int .i64 0),(.int .i64 0),(.int .i64 0)] [(0,1,(.t 35)),(1,1,(.t 36)),(2,1,(.c (.int .i64 (-1))))],.mP 38 3 [(.t 34),(.t 37)],.app 39 3 (.t 31) (.t 38),.aC 3 (.t 39)]) .skip))))) (.ops [.bin 40 .add (.t 20) (.c (.int .i64 1)),.au 20 (.t 40)]))))
def I4:aA :=
(.clean [0,3,4,5,11,12,13,17,18,19,20,39] [0,2,3,11,12,13,39] (.block 2 (.loop [0,3,4,5,11,12,13,17,18,19,20,39] BP)))
def I5:aA:=(.seq (.ops [.bin 14 .lss (.t 13) (.t 12)]) (.seq (.cond (.t 14) .skip (.exit 0)) (.seq (.block 1 (.seq (.ops [.au 15 (.t 13),.fK 16 1 (.t 11) (.t 13),.load 17 none (.t 16),.aC 4 (.t 15),.aC 5 (.t 17)]) (.seq (.ops [.au 18 (.t 5),.len 19 (.t 18),.au 20 (.c (.int .i64 0))])
    I4))) (.ops [.bin 41 .add (.t 13) (.c (.int .i64 1)),.au 13 (.t 41)]))))
def I7:aA :=
(.clean [0,3,11,12,13,39] [2,3] (.block 0 (.loop [0,3,11,12,13,39] I5)))
def YG:je:=⟨1,45,[.tmp 2],(.seq (.ops [.aC 2 (.nil 3)]) (.seq (.ops [.aC 3 (.nil 3)]) (.seq (.seq (.ops [.au 11 (.t 0),.len 12 (.t 11),.au 13 (.c (.int .i64 0))])
   I7) (.seq (.ops [.au 42 (.t 3),.Ec 43 88 (.t 42) (.c (.func 89 []))]) (.seq (.ops [.au 44 (.t 3),.aC 2 (.t 44)]) .ret)))))⟩
def LK:je:=⟨1,35,[.tmp 2,.tmp 3,.tmp 4],(.seq (.ops [.box 1 (.t 0),.aC 2 (.c (.int .i64 0)),.aC 3 (.c (.int .i64 0)),.aC 4 (.c (.bool false))]) (.seq (.seq (.ops [.aB 7 (.t 1) 1,.load 8 none (.t 7),.bin 9 .leq (.t 8) (.c (.int .i64 0))]) (.cond (.t 9) (.seq (.ops [.aC 2 (.c (.int .i64 0)),.aC 3 (.c (.int .i64 0)),.aC 4 (.c (.bool false))]) .ret) .skip)) (.seq (.ops [.aB 10 (.t 1) 0,.load 11 none (.t 10),.mn 12 true (.t 11) (.c (.int .i64 0)),.aC 5 (.t 12),.aC 6 (.c (.int .i64 4096))]) (.seq (.seq (.ops [.aB 13 (.t 1) 0,.load 14 none (.t 13),.bin 15 .lss (.t 14) (.c (.int .i64 0)),.au 16 (.t 15),.grd 16 false (.aB 17 (.t 1) 1),.grd 16 false (.load 18 none (.t 17)),.grd 16 false (.aB 19 (.t 1) 0),.grd 16 false (.load 20 none (.t 19)),.grd 16 false (.bin 21 .sub (.c (.int .i64 4096)) (.t 20)),.grd 16 false (.bin 22 .lss (.t 18) (.t 21)),.pick 23 (.t 16) (.c (.bool true)) (.t 22)]) (.cond (.t 23) (.ops [.aB 24 (.t 1) 0,.load 25 none (.t 24),.aB 26 (.t 1) 1,.load 27 none (.t 26),.bin 28 .add (.t 25) (.t 27),.mn 29 false (.t 28) (.c (.int .i64 4096)),.aC 6 (.t 29)]) .skip)) (.seq (.ops [.au 30 (.t 5),.au 31 (.t 6),.au 32 (.t 5),.au 33 (.t 6),.bin 34 .lss (.t 32) (.t 33),.aC 2 (.t 30),.aC 3 (.t 31),.aC 4 (.t 34)]) .ret)))))⟩
def aeQ:je:=⟨2,10,[.tmp 4],(.seq (.ops [.box 2 (.t 0),.box 3 (.t 1),.aC 4 (.c (.int .i64 0))]) (.seq (.ops [.aB 5 (.t 2) 0,.load 6 none (.t 5),.aB 7 (.t 3) 0,.load 8 none (.t 7),.call 9 90 [(.t 6),(.t 8)],.aC 4 (.t 9)]) .ret))⟩
def aeR:je:=⟨2,20,[.tmp 4],(.seq (.ops [.aC 4 (.c (.int .i64 0))]) (.seq (.ops [.au 7 (.t 0),.call 8 93 [(.t 7)],.aC 5 (.t 8)]) (.seq (.ops [.au 9 (.t 1),.call 10 93 [(.t 9)],.aC 6 (.t 10)]) (.seq (.seq (.ops [.au 11 (.t 5)]) (.cond (.t 11) (.seq (.seq (.ops [.au 12 (.t 6)]) (.cond (.t 12) (.seq (.ops [.aC 4 (.c (.int .i64 0))]) .ret) .skip)) (.seq (.ops [.aC 4 (.c (.int .i64 (-1)))]) .ret)) .skip)) (.seq (.seq (.ops [.au 13 (.t 6)]) (.cond (.t 13) (.seq (.ops [.aC 4 (.c (.int .i64 1))]) .ret) .skip)) (.seq (.seq (.ops [.au 14 (.t 0),.au 15 (.t 1),.bin 16 .lss (.t 14) (.t 15)]) (.cond (.t 16) (.seq (.ops [.aC 4 (.c (.int .i64 (-1)))]) .ret) .skip)) (.seq (.seq (.ops [.au 17 (.t 0),.au 18 (.t 1),.bin 19 .gtr (.t 17) (.t 18)]) (.cond (.t 19) (.seq (.ops [.aC 4 (.c (.int .i64 1))]) .ret) .skip)) (.seq (.ops [.aC 4 (.c (.int .i64 0))]) .ret))))))))⟩
def aeS:je:=⟨1,6,[.tmp 2],(.seq (.ops [.aC 2 (.c (.bool false))]) (.seq (.ops [.au 3 (.t 0),.au 4 (.t 0),.bin 5 .neq (.t 3) (.t 4),.aC 2 (.t 5)]) .ret))⟩
def tab:List (Nat × VZ):=[(4,.code fn4),(8,.code fn8),(9,.code fn9),(12,.code UD),(13,.code Bj),(14,.code X8),(15,.code X9),(16,.code UE),(17,.code Ya),(18,.code UF),(19,.code zL),(25,.code Yb),(26,.code UG),(27,.code LC),(28,.code Yc),(29,.code Po),(33,.code Iw),(34,.code Yd),(35,.code Ye),(36,.code Yf),(37,.code UH),(38,.code LD),(39,.code UJ),(40,.code Yg),(41,.code LG),(42,.code Yh),(43,.code UK),(44,.ext (kZ 1)),(45,.code Yi),(46,.code Yj),(47,.code Yk),(48,.code Pq),(49,.code Pv),(50,.code Yl),(51,.code LH),(52,.code Ym),(56,.code Yn),(57,.code EF),(58,.code Px),(59,.ext (kZ 1)),(60,.code Yo),(61,.code Yp),(62,.code Yq),(63,.code IJ),(64,.code UL),(65,.code Yr),(66,.code Py),(67,.code Yt),(68,.code UM),(69,.code Yu),(70,.code UN),(71,.code Yv),(72,.code Yw),(73,.code Yx),(74,.code Yy),(75,.code Yz),(76,.code YA),(77,.code YB),(78,.code UO),(79,.ext tzX),(80,.code LJ),(81,.ext (kZ 1)),(82,.code YC),(83,.code YD),(84,.code YE),(85,.code YF),(86,.code YG),(87,.code LK),(88,.Ec (lF 89)),(89,.code aeQ),(90,.code aeR),(93,.code aeS)]
def env:Env:=fun f=>tab.lookup f
theorem agG:env 4=some (.code fn4):=rfl
theorem ai3:env 8=some (.code fn8):=rfl
theorem agH:env 9=some (.code fn9):=rfl
theorem adu:env 12=some (.code UD):=rfl
theorem AO:env 13=some (.code Bj):=rfl
theorem agI:env 14=some (.code X8):=rfl
theorem agJ:env 15=some (.code X9):=rfl
theorem adv:env 16=some (.code UE):=rfl
theorem agK:env 17=some (.code Ya):=rfl
theorem adw:env 18=some (.code UF):=rfl
theorem yS:env 19=some (.code zL):=rfl
theorem agL:env 25=some (.code Yb):=rfl
theorem adx:env 26=some (.code UG):=rfl
theorem QE:env 27=some (.code LC):=rfl
theorem agM:env 28=some (.code Yc):=rfl
theorem YH:env 29=some (.code Po):=rfl
theorem LM:env 33=some (.code Iw):=rfl
theorem agN:env 34=some (.code Yd):=rfl
theorem agO:env 35=some (.code Ye):=rfl
theorem agP:env 36=some (.code Yf):=rfl
theorem ady:env 37=some (.code UH):=rfl
theorem QF:env 38=some (.code LD):=rfl
theorem adz:env 39=some (.code UJ):=rfl
theorem agQ:env 40=some (.code Yg):=rfl
theorem QG:env 41=some (.code LG):=rfl
theorem agR:env 42=some (.code Yh):=rfl
theorem adA:env 43=some (.code UK):=rfl
theorem agS:env 44=some (.ext (kZ 1)):=rfl
theorem agT:env 45=some (.code Yi):=rfl
theorem agU:env 46=some (.code Yj):=rfl
theorem agV:env 47=some (.code Yk):=rfl
theorem YI:env 48=some (.code Pq):=rfl
theorem YJ:env 49=some (.code Pv):=rfl
theorem agW:env 50=some (.code Yl):=rfl
theorem QH:env 51=some (.code LH):=rfl
theorem agX:env 52=some (.code Ym):=rfl
theorem agY:env 56=some (.code Yn):=rfl
theorem FV:env 57=some (.code EF):=rfl
theorem agZ:env 58=some (.code Px):=rfl
theorem ag0:env 59=some (.ext (kZ 1)):=rfl
theorem ag1:env 60=some (.code Yo):=rfl
theorem ag2:env 61=some (.code Yp):=rfl
theorem ag3:env 62=some (.code Yq):=rfl
theorem LP:env 63=some (.code IJ):=rfl
theorem adB:env 64=some (.code UL):=rfl
theorem ag4:env 65=some (.code Yr):=rfl
theorem YK:env 66=some (.code Py):=rfl
theorem ag5:env 67=some (.code Yt):=rfl
theorem adC:env 68=some (.code UM):=rfl
theorem ag6:env 69=some (.code Yu):=rfl
theorem adD:env 70=some (.code UN):=rfl
theorem ag7:env 71=some (.code Yv):=rfl
theorem ag8:env 72=some (.code Yw):=rfl
theorem ag9:env 73=some (.code Yx):=rfl
theorem aha:env 74=some (.code Yy):=rfl
theorem ahb:env 75=some (.code Yz):=rfl
theorem ahc:env 76=some (.code YA):=rfl
theorem ahd:env 77=some (.code YB):=rfl
theorem adE:env 78=some (.code UO):=rfl
theorem ahe:env 79=some (.ext tzX):=rfl
theorem QI:env 80=some (.code LJ):=rfl
theorem ahf:env 81=some (.ext (kZ 1)):=rfl
theorem ahg:env 82=some (.code YC):=rfl
theorem ahh:env 83=some (.code YD):=rfl
theorem ahi:env 84=some (.code YE):=rfl
theorem ahj:env 85=some (.code YF):=rfl
theorem ahk:env 86=some (.code YG):=rfl
theorem QJ:env 87=some (.code LK):=rfl
theorem adF:env 88=some (.Ec (lF 89)):=rfl
end Go.Proofs.YtdahanchdjadiaaDoor

namespace Go.Proofs.YtdahanchdjadiaaDoor
open V
def ace:=(And.intro (And.intro (And.intro (And.intro (And.intro (And.intro (And.intro (And.intro @KU (And.intro @Xr @Xt)) (And.intro (And.intro @abe @KW) (And.intro @KX @Xq))) (And.intro (And.intro (And.intro @HY @Xw) (And.intro @aa8 @Ou)) (And.intro (And.intro @Ov @KP) (And.intro @KQ @aa9)))) (And.intro (And.intro (And.intro (And.intro @Hz @KR) (And.intro @TB @TD)) (And.intro (And.intro @bQ @List.foldl_nil.{0,0}) (And.intro @List.foldl_cons.{0,0} @aa5))) (And.intro (And.intro (And.intro @aa6 @abb) (And.intro @Xm @FK)) (And.intro (And.intro @Xo @abd) (And.intro @KT @TG))))) (And.intro (And.intro (And.intro (And.intro (And.intro @Xp @Bg) (And.intro @H6 @EC)) (And.intro (And.intro @La @Xx) (And.intro @TI @Oy))) (And.intro (And.intro (And.intro @abf @Ot) (And.intro @AL @Lc)) (And.intro (And.intro @OD @Ld) (And.intro @OE @fB.eq_1)))) (And.intro (And.intro (And.intro (And.intro @fB.eq_2 @fB.eq_3) (And.intro @resultList.eq_1 @resultList.eq_2)) (And.intro (And.intro @nR.eq_1 @nR.eq_2) (And.intro @nR.eq_3 @V3.eq_1))) (And.intro (And.intro (And.intro @V3.eq_2 @splice.eq_1) (And.intro @PV.uh.eq_1 @PV.uh.eq_2)) (And.intro (And.intro @PV.uh.eq_3 @PV.uh.eq_4) (And.intro @St.iD.eq_1 @St.bg.eq_1)))))) (And.intro (And.intro (And.intro (And.intro (And.intro @St.fA.eq_1 (And.intro @St.fA.eq_2 @PV.single.eq_1)) (And.intro (And.intro @PV.single.eq_2 @Xz) (And.intro @TL @abp))) (And.intro (And.intro (And.intro @XA @XB) (And.intro @TN @XC)) (And.intro (And.intro @TP @abr) (And.intro @XE @abt)))) (And.intro (And.intro (And.intro (And.intro @XF @XG) (And.intro @abu @abv)) (And.intro (And.intro @abw @abx) (And.intro @bQ @bQ))) (And.intro (And.intro (And.intro @aby @bQ) (And.intro @abz @bQ)) (And.intro (And.intro @bQ @abH) (And.intro @abE @abC))))) (And.intro (And.intro (And.intro (And.intro (And.intro @abA @bQ) (And.intro @bQ @bQ)) (And.intro (And.intro @aeL @XH) (And.intro @XI @XJ))) (And.intro (And.intro (And.intro @XK @XL) (And.intro @bQ @bQ)) (And.intro (And.intro @abL @abM) (And.intro @bQ @abN)))) (And.intro (And.intro (And.intro (And.intro @TQ @aeM) (And.intro @abO @TS)) (And.intro (And.intro @abP @TU) (And.intro @XM @XO))) (And.intro (And.intro (And.intro @abQ @bQ) (And.intro @abR @abS)) (And.intro (And.intro @abT @bQ) (And.intro @TV @abU))))))) (And.intro (And.intro (And.intro (And.intro (And.intro (And.intro @abV (And.intro @abW @abX)) (And.intro (And.intro @bQ @bQ) (And.intro @abJ @bQ))) (And.intro (And.intro (And.intro @abK @bQ) (And.intro @bQ @abI)) (And.intro (And.intro @abG @abD) (And.intro @abB @bQ)))) (And.intro (And.intro (And.intro (And.intro @bQ @bQ) (And.intro @aeN @XP)) (And.intro (And.intro @XQ @XR) (And.intro @XT @XU))) (And.intro (And.intro (And.intro @bQ @bQ) (And.intro @abY @abZ)) (And.intro (And.intro @bQ @ab1) (And.intro @TW @aeO))))) (And.intro (And.intro (And.intro (And.intro (And.intro @ab2 @TY) (And.intro @ab3 @Ua)) (And.intro (And.intro @XV @XW) (And.intro @ab4 @bQ))) (And.intro (And.intro (And.intro @ab5 @ab6) (And.intro @ab7 @bQ)) (And.intro (And.intro @Ub @plain.eq_1) (And.intro @plain.eq_2 @plain.eq_3)))) (And.intro (And.intro (And.intro (And.intro @plain.eq_4 @plain.eq_5) (And.intro @plain.eq_6 @plain.eq_7)) (And.intro (And.intro @plain.eq_8 @plain.eq_9) (And.intro @plain.eq_10 @plain.eq_11))) (And.intro (And.intro (And.intro @plain.eq_12 @plain.eq_13) (And.intro @plain.eq_14 @plain.eq_15)) (And.intro (And.intro @plain.eq_16 @plain.eq_17) (And.intro @plain.eq_18 @plain.eq_19)))))) (And.intro (And.intro (And.intro (And.intro (And.intro (And.intro @plain.eq_20 @plain.eq_21) (And.intro @plain.eq_22 @plain.eq_23)) (And.intro (And.intro @plain.eq_24 @plain.eq_25) (And.intro @plain.eq_26 @plain.eq_27))) (And.intro (And.intro (And.intro @plain.eq_28 @plain.eq_29) (And.intro @plain.eq_30 @plain.eq_31)) (And.intro (And.intro @plain.eq_32 @plain.eq_33) (And.intro @act.eq_1 @act.eq_2)))) (And.intro (And.intro (And.intro (And.intro @act.eq_3 @act.eq_4) (And.intro @act.eq_5 @act.eq_6)) (And.intro (And.intro @act.eq_7 @act.eq_8) (And.intro @act.eq_9 @act.eq_10))) (And.intro (And.intro (And.intro @act.eq_11 @act.eq_12) (And.intro @act.eq_13 @act.eq_14)) (And.intro (And.intro @act.eq_15 @act.eq_16) (And.intro @act.eq_17 @act.eq_18))))) (And.intro (And.intro (And.intro (And.intro (And.intro @act.eq_19 @act.eq_20) (And.intro @act.eq_21 @bK.eq_1)) (And.intro (And.intro @bK.eq_2 @bK.eq_3) (And.intro @bK.eq_4 @bK.eq_5))) (And.intro (And.intro (And.intro @bK.eq_6 @bK.eq_7) (And.intro @bK.eq_8 @bK.eq_9)) (And.intro (And.intro @bK.eq_10 @bK.eq_11) (And.intro @bK.eq_12 @bK.eq_13)))) (And.intro (And.intro (And.intro (And.intro @bK.eq_14 @bK.eq_15) (And.intro @bK.eq_16 @bK.eq_17)) (And.intro (And.intro @bK.eq_18 @bK.eq_19) (And.intro @bK.eq_20 @bK.eq_21))) (And.intro (And.intro (And.intro @bK.eq_22 @bK.eq_23) (And.intro @bK.eq_24 @bK.eq_25)) (And.intro (And.intro @bK.eq_26 @bK.eq_27) (And.intro @bK.eq_28 @bK.eq_29)))))))) (And.intro (And.intro (And.intro (And.intro (And.intro (And.intro (And.intro @bK.eq_30 (And.intro @bK.eq_31 @bK.eq_32)) (And.intro (And.intro @bK.eq_33 @bK.eq_34) (And.intro @bK.eq_35 @bK.eq_36))) (And.intro (And.intro (And.intro @bK.eq_37 @bK.eq_38) (And.intro @bK.eq_39 @bK.eq_40)) (And.intro (And.intro @bK.eq_41 @bK.eq_42) (And.intro @bK.eq_43 @bK.eq_44)))) (And.intro (And.intro (And.intro (And.intro @bK.eq_45 @bK.eq_46) (And.intro @bK.eq_47 @bK.eq_48)) (And.intro (And.intro @bK.eq_49 @bK.eq_50) (And.intro @bK.eq_51 @Bool.false_eq_true))) (And.intro (And.intro (And.intro @if_true.{1} @if_false.{1}) (And.intro @OG @Le)) (And.intro (And.intro @St.get.eq_1 @St.get.eq_2) (And.intro @St.get.eq_3 @St.put.eq_1))))) (And.intro (And.intro (And.intro (And.intro (And.intro @St.bP.eq_1 @St.putRow.eq_1) (And.intro @St.consume.eq_1 @St.consume.eq_2)) (And.intro (And.intro @St.consume.eq_3 @St.freeze.eq_1) (And.intro @St.row.eq_1 @St.row.eq_2))) (And.intro (And.intro (And.intro @St.row.eq_3 @St.elems.eq_1) (And.intro @St.grab.eq_1 @St.grab.eq_2)) (And.intro (And.intro @St.grab.eq_3 @qc.eq_1) (And.intro @qc.eq_2 @qc.eq_3)))) (And.intro (And.intro (And.intro (And.intro @qc.eq_4 @RX.eq_1) (And.intro @RX.eq_2 @jK.eq_1)) (And.intro (And.intro @jK.eq_2 @jK.eq_3) (And.intro @jK.eq_4 @St.takeRow.eq_1))) (And.intro (And.intro (And.intro @St.takeRow.eq_2 @St.takeRow.eq_3) (And.intro @St.setRow.eq_1 @St.setRow.eq_2)) (And.intro (And.intro @St.setRow.eq_3 @St.place.eq_1) (And.intro @St.place.eq_2 @St.wK.eq_1)))))) (And.intro (And.intro (And.intro (And.intro (And.intro @St.wK.eq_2 (And.intro @St.setCell.eq_1 @St.jJ.eq_1)) (And.intro (And.intro @Af.eq_1 @Af.eq_2) (And.intro @Af.eq_3 @Af.eq_4))) (And.intro (And.intro (And.intro @Ce.eq_1 @Ce.eq_2) (And.intro @Ce.eq_3 @Ce.eq_4)) (And.intro (And.intro @fM.eq_1 @fM.eq_2) (And.intro @fM.eq_3 @fM.eq_4)))) (And.intro (And.intro (And.intro (And.intro @fM.eq_5 @fM.eq_6) (And.intro @fM.eq_7 @fM.eq_8)) (And.intro (And.intro @fM.eq_9 @fM.eq_10) (And.intro @fM.eq_11 @fM.eq_12))) (And.intro (And.intro (And.intro @fM.eq_13 @fM.eq_14) (And.intro @fM.eq_15 @fM.eq_16)) (And.intro (And.intro @fM.eq_17 @RV.eq_1) (And.intro @RV.eq_2 @RV.eq_3))))) (And.intro (And.intro (And.intro (And.intro (And.intro @RV.eq_4 @BV.val.eq_1) (And.intro @BV.val.eq_2 @BV.av.eq_1)) (And.intro (And.intro @BV.av.eq_2 @Ux) (And.intro @Ph @Uy))) (And.intro (And.intro (And.intro @Pj @cells_func) (And.intro @Uz @Lu)) (And.intro (And.intro @FT @vX) (And.intro @XY @Uc)))) (And.intro (And.intro (And.intro (And.intro @Ud @OT) (And.intro @XZ @Uf)) (And.intro (And.intro @Ue @Ug) (And.intro @OU @OV))) (And.intro (And.intro (And.intro @OW @OX) (And.intro @X0 @Uh)) (And.intro (And.intro @Ui @OY) (And.intro @X3 @Uk))))))) (And.intro (And.intro (And.intro (And.intro (And.intro (And.intro @Uj (And.intro @Ul @O1)) (And.intro (And.intro @OZ @O5) (And.intro @O4 @X4))) (And.intro (And.intro (And.intro @Um @Un) (And.intro @O6 @X5)) (And.intro (And.intro @Ur @Uo) (And.intro @Us @O8)))) (And.intro (And.intro (And.intro (And.intro @O7 @Pg) (And.intro @O9 @bound.eq_1)) (And.intro (And.intro @bound.eq_2 @bound.eq_3) (And.intro @dQ.eq_1 @dQ.eq_2))) (And.intro (And.intro (And.intro @gK.eq_1 @gK.eq_2) (And.intro @wQ.eq_1 @wQ.eq_2)) (And.intro (And.intro @capOf.eq_1 @zH) (And.intro @aeK @aO))))) (And.intro (And.intro (And.intro (And.intro (And.intro @aY @aK) (And.intro @aX @List.append_nil.{0})) (And.intro (And.intro @aU @aN) (And.intro @Nat.zero_add @Nat.add_zero))) (And.intro (And.intro (And.intro @Ll @Lj) (And.intro @Lh @qp)) (And.intro (And.intro @decide_true @decide_false) (And.intro @Bool.not_true @Bool.not_false)))) (And.intro (And.intro (And.intro (And.intro @Bool.true_eq_false @beq_self_eq_true.{0}) (And.intro @Bool.true_and @Bool.and_true)) (And.intro (And.intro @Bool.false_and @Bool.and_false) (And.intro @Bool.true_or @Bool.false_or))) (And.intro (And.intro (And.intro @Bool.or_false @Bool.or_true) (And.intro @agD @agE)) (And.intro (And.intro @FI @TA) (And.intro @List.length_map.{0,0} @Lm)))))) (And.intro (And.intro (And.intro (And.intro (And.intro (And.intro @Xy @Lp) (And.intro @OH @abn)) (And.intro (And.intro @OI @OJ) (And.intro @abo @OL))) (And.intro (And.intro (And.intro @dcall.eq_1 @zI.eq_1) (And.intro @abq.eq_1 @Ls.eq_1)) (And.intro (And.intro @FQ.eq_1 @H8.eq_1) (And.intro @rJ.eq_1 @nK.eq_1)))) (And.intro (And.intro (And.intro (And.intro @nK.eq_2 @nK.eq_3) (And.intro @OA @OB)) (And.intro (And.intro @OC @abg) (And.intro @abh @abj))) (And.intro (And.intro (And.intro @abk @abl) (And.intro @abm @KY)) (And.intro (And.intro @Xu @Bh) (And.intro @Dq @List.mapM_cons.{0,0,0}))))) (And.intro (And.intro (And.intro (And.intro (And.intro @OM @St.jy.eq_1) (And.intro @St.jy.eq_2 @St.snap.eq_1)) (And.intro (And.intro @St.snap.eq_2 @St.snap.eq_3) (And.intro @St.snap.eq_4 @St.snap.eq_5))) (And.intro (And.intro (And.intro @St.snap.eq_6 @OO) (And.intro @TJ @OQ)) (And.intro (And.intro @TK @X6) (And.intro @Ut @X7)))) (And.intro (And.intro (And.intro (And.intro @Uu @Uw) (And.intro @St.layAll.eq_1 @St.layAll.eq_2)) (And.intro (And.intro @St.lay.eq_1 @St.lay.eq_2) (And.intro @St.lay.eq_3 @H7))) (And.intro (And.intro (And.intro @Lr @St.bI.eq_1) (And.intro @St.bC.eq_1 @St.bC.eq_2)) (And.intro (And.intro @St.bC.eq_3 @St.bC.eq_4) (And.intro @St.bC.eq_5 @St.bC.eq_6)))))))))
def YL:=(And.intro (And.intro (And.intro (And.intro @List.isEmpty_nil.{0} (And.intro @aaK @Nq)) (And.intro @EN (And.intro @RY @RZ))) (And.intro (And.intro @Np (And.intro @Int.le_refl @yL)) (And.intro @Nat.le_refl (And.intro @St.bn.eq_1 @BV.frozen.eq_1)))) (And.intro (And.intro (And.intro @BV.frozen.eq_2 (And.intro @List.take_length.{0} @List.take_append_drop.{0})) (And.intro @aH (And.intro @Int.toNat_zero @true_and))) (And.intro (And.intro @and_true (And.intro @and_self @eq_self.{1})) (And.intro @qp (And.intro @List.drop_nil.{0} @List.take_nil.{0})))))
def bY:=(And.intro (And.intro @Nat.zero_le (And.intro @List.take_zero.{0} @List.take_nil.{0})) (And.intro (And.intro @List.take_succ_cons.{0} @List.length_cons.{0}) (And.intro @List.length_nil.{0} @Nat.le_refl)))
def bW:=And.intro @YL @ace
end Go.Proofs.YtdahanchdjadiaaDoor

namespace Go.Proofs.YtdahanchdjadiaaDoor.V
end Go.Proofs.YtdahanchdjadiaaDoor.V

namespace Go.Proofs.YtdahanchdjadiaaDoor.V
end Go.Proofs.YtdahanchdjadiaaDoor.V

namespace Go.Proofs.YtdahanchdjadiaaDoor.V
end Go.Proofs.YtdahanchdjadiaaDoor.V

namespace Go.Proofs.YtdahanchdjadiaaDoor.V
end Go.Proofs.YtdahanchdjadiaaDoor.V

namespace Go.Proofs.YtdahanchdjadiaaDoor
noncomputable def iter (env:Env) (f:Nat) (caps:List PV) (stop:Option Nat):Option (List (List PV)):=jE (den env) env f caps stop
def Dz (n:Nat) (caps:List PV) (stop:Option Nat):St:=⟨.pV :: (caps.map .pv++List.replicate (n - (caps.length+1)) .any),[],[],some stop⟩
def aeT:Ex × St→Option (List (List PV))
 |(.exit _,_)=>none
 |(.nZ _ _,_)=>none
 |(_,st)=>some st.ys
section
variable {env:Env}
theorem LQ (st:St):aeT (.normal,st)=some st.ys:=(rfl)
theorem YM (st:St):aeT (.ret,st)=some st.ys:=(rfl)
theorem vZ {f:Nat} {fn:je} {caps:List PV} {stop:Option Nat} (h:env f=some (.code fn)) (hl:caps.length+1=fn.nargs) (hr:fn.results.isEmpty=true):iter env f caps stop=(den env fn.body (Dz fn.ntmps caps stop)).bind aeT:=by
 unfold iter jE
 rw [h]
 simp only [if_pos (And.intro hl hr)]
 show (den env fn.body _).bind _=_
 congr 1
 funext ⟨e,st⟩
 cases e<;>rfl
noncomputable def uS (env:Env) (slots:List AV) (ps:List Nat) (assign body:aA) (nb:Nat) (x:List PV) (st:St):Option (Ex × St) :=
 (fC slots ps x).bind fun sl=>(den env assign { st with slots:=sl }).bind fun p=>match p with
  |(.normal,st)=>(den env body st).bind fun p=>match p with
   |(.normal,st)=>if nb≤st.boxes.length then some (.normal,{ st with boxes:=st.boxes.take nb }) else none
   |(.nZ _ _,_)=>none
   |p=>some p
  |_=>none
theorem ji {slots:List AV} {ps:List Nat} {assign body:aA} {nb k:Nat} {x:List PV} {xs:List (List PV)} {st:St} :
  rounds (den env) slots ps assign body nb k (x :: xs) st=(uS env slots ps assign body nb x st).bind fun p=>match p with
   |(.normal,st)=>rounds (den env) slots ps assign body nb (k+1) xs st
   |(e,st)=>some (some (e,k+1),st):=by
 conv=>lhs;unfold rounds
 unfold uS
 show (fC slots ps x).bind _=_
 cases fC slots ps x with
 |none=>rfl
 |some sl =>
  simp only [Option.bind_some]
  show (den env assign _).bind _=_
  cases den env assign { st with slots:=sl } with
  |none=>rfl
  |some p =>
   obtain ⟨e,s⟩:=p
   simp only [Option.bind_some]
   cases e with
   |normal =>
    simp only
    show (den env body _).bind _=_
    cases den env body s with
    |none=>rfl
    |some p =>
     obtain ⟨e,s⟩:=p
     simp only [Option.bind_some]
     cases e with
     |normal =>
      simp only
      split<;>rfl
     |exit i=>rfl
     |ret=>rfl
     |nZ t n=>rfl
   |exit i=>rfl
   |ret=>rfl
   |nZ t n=>rfl
theorem AP {slots:List AV} {ps:List Nat} {assign body:aA} {nb:Nat} {e:Ex} {m:Nat} {s:St}:∀ {xs:List (List PV)} {k:Nat} {st:St},rounds (den env) slots ps assign body nb k xs st=some (some (e,m),s) →
  k<m∧m≤k+xs.length∧rounds (den env) slots ps assign body nb k (xs.take (m - k)) st=some (some (e,m),s)
 |[],k,st,h=>by cases h
 |x :: xs,k,st,h=>by
  rw [ji] at h
  cases hr:uS env slots ps assign body nb x st with
  |none=>rw [hr] at h;cases h
  |some p =>
   obtain ⟨e1,s1⟩:=p
   rw [hr] at h
   simp only [Option.bind_some] at h
   cases e1 with
   |normal =>
    obtain ⟨h1,h2,h3⟩:=AP h
    refine ⟨by omega,by simp only [List.length_cons];omega,?_⟩
    rw [show m - k=(m - (k+1))+1 by omega,List.take_succ_cons,ji,hr]
    exact h3
   |exit i =>
    cases h
    refine ⟨by omega,by simp,?_⟩
    rw [show k+1 - k=0+1 by omega,List.take_succ_cons,ji,hr]
    rfl
   |ret =>
    cases h
    refine ⟨by omega,by simp,?_⟩
    rw [show k+1 - k=0+1 by omega,List.take_succ_cons,ji,hr]
    rfl
   |nZ t0 n0 =>
    cases h
    refine ⟨by omega,by simp,?_⟩
    rw [show k+1 - k=0+1 by omega,List.take_succ_cons,ji,hr]
    rfl
theorem acf {g:bG} {ps:List Nat} {assign body:aA} {st st1:St} {f:Nat} {caps:List PV} {xs:List (List PV)} (hg:st.bP g=some (.func f caps)) (hi:iter env f caps none=some xs)
  (hr:rounds (den env) (st.slots.map AV.froze) ps assign body st.boxes.length 0 xs { st with slots:=st.slots.map AV.froze }=some (none,st1)):den env (.rng g ps assign body) st=some (.normal,{ st1 with slots:=st.slots.map AV.froze }):=by
 rw [kY]
 show ranged (den env) env g ps assign body st=_
 unfold ranged
 rw [hg]
 unfold iter at hi
 simp only [zH,Option.bind_some,hi,hr]
theorem acg {g:bG} {ps:List Nat} {assign body:aA} {st st1:St} {f:Nat} {caps:List PV} {xs:List (List PV)} {e:Ex} {k:Nat} (hg:st.bP g=some (.func f caps)) (hi:iter env f caps none=some xs)
  (hr:rounds (den env) (st.slots.map AV.froze) ps assign body st.boxes.length 0 xs { st with slots:=st.slots.map AV.froze }=some (some (e,k),st1)) (hi2:iter env f caps (some k)=some (xs.take k)):den env (.rng g ps assign body) st=some (e,{ st1 with slots:=st.slots.map AV.froze }):=by
 obtain ⟨h1,h2,h3⟩:=AP hr
 rw [kY]
 show ranged (den env) env g ps assign body st=_
 unfold ranged
 rw [hg]
 unfold iter at hi hi2
 simp only [Nat.sub_zero] at h3
 have hl:(xs.take k).length=k:=by rw [List.length_take];omega
 simp only [zH,Option.bind_some,hi,hr,hi2,h3,hl,and_self,if_true]
theorem BQ (B:Nat→List Box) {g:bG} {ps:List Nat} {assign body:aA} {st:St} {f:Nat} {caps:List PV} {xs:List (List PV)} (hg:st.bP g=some (.func f caps)) (hi:iter env f caps none=some xs) (hB:st.boxes=B 0)
  (h:∀ j x,xs[j]?=some x→∀ sl0,∃ sl1,uS env (st.slots.map AV.froze) ps assign body st.boxes.length x ⟨sl0,B j,st.ys,st.stop⟩=some (.normal,⟨sl1,B (j+1),st.ys,st.stop⟩)) :
  den env (.rng g ps assign body) st=some (.normal,⟨st.slots.map AV.froze,B xs.length,st.ys,st.stop⟩):=by
 have key:∀ (l:List (List PV)) (j:Nat),xs.drop j=l→∀ (k:Nat) (sl0:List AV),∃ sl1,rounds (den env) (st.slots.map AV.froze) ps assign body st.boxes.length k l ⟨sl0,B j,st.ys,st.stop⟩=some (none,⟨sl1,B (j+l.length),st.ys,st.stop⟩):=by
  intro l
  induction l with
  |nil=>intro j _ k sl0;exact ⟨sl0,rfl⟩
  |cons x l ih =>
   intro j hj k sl0
   have hx:xs[j]?=some x:=by rw [← List.head?_drop,hj];rfl
   have hd:xs.drop (j+1)=l:=by rw [← List.drop_drop,hj];rfl
   obtain ⟨sl1,q⟩:=h j x hx sl0
   obtain ⟨sl2,q2⟩:=ih (j+1) hd (k+1) sl1
   refine ⟨sl2,?_⟩
   rw [ji,q]
   simp only [Option.bind_some,q2,List.length_cons]
   rw [show j+1+l.length=j+(l.length+1) by omega]
 obtain ⟨sl1,q⟩:=key xs 0 (by simp) 0 (st.slots.map AV.froze)
 rw [← hB,Nat.zero_add] at q
 have r:=acf hg hi q
 exact r
theorem LU (B:Nat→List Box) (m:Nat) {g:bG} {ps:List Nat} {assign body:aA} {st s:St} {e:Ex} {f:Nat} {caps:List PV} {xs:List (List PV)} (hg:st.bP g=some (.func f caps)) (hi:iter env f caps none=some xs) (hi2:iter env f caps (some (m+1))=some (xs.take (m+1))) (hB:st.boxes=B 0) (hm:m<xs.length)
  (h:∀ j x,j<m→xs[j]?=some x→∀ sl0,∃ sl1,uS env (st.slots.map AV.froze) ps assign body st.boxes.length x ⟨sl0,B j,st.ys,st.stop⟩=some (.normal,⟨sl1,B (j+1),st.ys,st.stop⟩))
  (he:e≠.normal) (hl:∀ x,xs[m]?=some x→∀ sl0,∃ sl1,uS env (st.slots.map AV.froze) ps assign body st.boxes.length x ⟨sl0,B m,st.ys,st.stop⟩=some (e,{ s with slots:=sl1 })) :
  den env (.rng g ps assign body) st=some (e,{ s with slots:=st.slots.map AV.froze }):=by
 have key:∀ (d j:Nat),j+d=m→∀ (k:Nat) (sl0:List AV),∃ sl1,rounds (den env) (st.slots.map AV.froze) ps assign body st.boxes.length k (xs.drop j) ⟨sl0,B j,st.ys,st.stop⟩=some (some (e,k+d+1),{ s with slots:=sl1 }):=by
  intro d
  induction d with
  |zero =>
   intro j hj k sl0
   obtain rfl:j=m:=by omega
   rw [List.drop_eq_getElem_cons hm]
   obtain ⟨sl1,q⟩:=hl _ (List.getElem?_eq_getElem hm) sl0
   refine ⟨sl1,?_⟩
   rw [ji,q]
   cases e with
   |normal=>exact absurd rfl he
   |exit i=>rfl
   |ret=>rfl
   |nZ t n=>rfl
  |succ d ih =>
   intro j hj k sl0
   have hj':j<xs.length:=by omega
   rw [List.drop_eq_getElem_cons hj']
   obtain ⟨sl1,q⟩:=h j _ (by omega) (List.getElem?_eq_getElem hj') sl0
   obtain ⟨sl2,q2⟩:=ih (j+1) (by omega) (k+1) sl1
   refine ⟨sl2,?_⟩
   rw [ji,q]
   simp only [Option.bind_some,q2]
   rw [show k+1+d+1=k+(d+1)+1 by omega]
 obtain ⟨sl1,q⟩:=key m 0 (by omega) 0 (st.slots.map AV.froze)
 rw [List.drop_zero,← hB,Nat.zero_add] at q
 have r:=acg hg hi q hi2
 exact r
noncomputable def QK (env:Env) (body:aA) (nb:Nat):Ex × St→Option (Ex × St)
 |(.normal,st)=>(den env body st).bind fun p=>match p with
  |(.normal,st)=>if nb≤st.boxes.length then some (.normal,{ st with boxes:=st.boxes.take nb }) else none
  |(.nZ _ _,_)=>none
  |p=>some p
 |_=>none
def rend (nb:Nat):Ex × St→Option (Ex × St)
 |(.normal,st)=>if nb≤st.boxes.length then some (.normal,{ st with boxes:=st.boxes.take nb }) else none
 |(.nZ _ _,_)=>none
 |p=>some p
theorem UQ (slots:List AV) (ps:List Nat) (assign body:aA) (nb:Nat) (x:List PV) (st:St):uS env slots ps assign body nb x st=(fC slots ps x).bind fun sl=>(den env assign { st with slots:=sl }).bind (QK env body nb):=by
 unfold uS
 rfl
theorem DC (body:aA) (nb:Nat) (st:St):QK env body nb (.normal,st)=(den env body st).bind (rend nb):=by
 rfl
theorem LV (nb:Nat) (st:St):rend nb (.normal,st)=if nb≤st.boxes.length then some (.normal,{ st with boxes:=st.boxes.take nb }) else none:=(rfl)
theorem UR (nb i:Nat) (st:St):rend nb (.exit i,st)=some (.exit i,st):=(rfl)
theorem YN (nb:Nat) (st:St):rend nb (.ret,st)=some (.ret,st):=(rfl)
theorem YO (slots:List AV):fC slots [] []=some slots:=(rfl)
theorem UU (slots:List AV) (p:Nat) (ps:List Nat) (v:PV) (vs:List PV):fC slots (p :: ps) (v :: vs)=fC (slots.set p (.pv v)) ps vs:=(rfl)
theorem YP (v:PV):AV.froze (.pv v)=.pv v:=(rfl)
theorem UW (sz:Nat) (es:List PV):AV.froze (.row sz es)=.pv (.list sz es):=(rfl)
theorem UY:AV.froze .any=.any:=(rfl)
theorem UZ (k:Bool) (l:List AV):AV.froze (.kN k l)=.any:=(rfl)
theorem U0 (r:Root) (i j:Nat):AV.froze (.ref r i j)=.any:=(rfl)
theorem U1 (r:Root) (i j:Nat):AV.froze (.oh r i j)=.any:=(rfl)
theorem Pz (i j:Nat):AV.froze (.aP i j)=.aP i j:=(rfl)
theorem YQ (f:Nat) (l:List AV):AV.froze (.fn f l)=.fn f l:=(rfl)
theorem U2:AV.froze .pV=.pV:=(rfl)
end
def wG:=And.intro @UQ (And.intro @DC (And.intro @LV (And.intro @UR (And.intro @YN (And.intro @YO (And.intro @UU (And.intro @YP (And.intro @UW (And.intro @UY (And.intro @UZ (And.intro @U0 (And.intro @U1 (And.intro @Pz (And.intro @YQ (And.intro @U2 (And.intro @LQ @YM))))))))))))))))
end Go.Proofs.YtdahanchdjadiaaDoor

namespace Go.Proofs.YtdahanchdjadiaaDoor.V
def uT (out:List bD) (i:Nat):List bD:=match out.getLast? with
 |some x=>if x.start+x.count=(i:Int) then out.dropLast++[⟨x.start,x.count+1⟩] else out++[⟨i,1⟩]
 |none=>[⟨i,1⟩]
def exts (l:List Nat):List bD:=l.foldl uT []
theorem gV (pre:List bD) (x:bD) (i:Nat):uT (pre++[x]) i=if x.start+x.count=(i:Int) then pre++[⟨x.start,x.count+1⟩] else pre++[x]++[⟨i,1⟩]:=by
 simp [uT]
theorem nG (l:List Nat) (i:Nat):exts (l++[i])=uT (exts l) i:=by simp [exts]
theorem jQ {α:Type} (l:List α):l=[]∨∃ p x,l=p++[x]:=by
 rcases List.eq_nil_or_concat l with h|⟨p,x,h⟩
 ·exact .inl h
 ·exact .inr ⟨p,x,by rw [h];simp⟩
theorem zM:∀ (n:Nat) (l:List Nat),l.length=n→∀ i:Nat,∃ pre x,exts (l++[i])=pre++[x]∧x.start+x.count=(i:Int)+1∧0≤x.start∧1≤x.count∧pre.length≤l.length:=by
 intro n
 induction n with
 |zero =>
  intro l hl i
  have:=List.eq_nil_of_length_eq_zero hl
  subst this
  exact ⟨[],⟨i,1⟩,rfl,rfl,by simp,by simp,by simp⟩
 |succ n ih =>
  intro l hl i
  rcases jQ l with rfl|⟨p,j,rfl⟩
  ·simp at hl
  ·obtain ⟨pre,x,e,h1,h2,h3,h4⟩:=ih p (by simpa using hl) j
   rw [nG,e,gV]
   split
   ·rename_i hx
    exact ⟨pre,_,rfl,by simp;omega,h2,by simp;omega,by simp;omega⟩
   ·exact ⟨pre++[x],_,rfl,by simp,by simp,by simp,by simp;omega⟩
theorem FW {n:Nat} (h:n≤lim):IntKind.i64.wrap (((n+1:Nat):Int) - 1)=(n:Int):=by
 rw [ay (by unfold lim at h;omega)];omega
def yI (l:List Nat):List (List PV):=l.map fun (i:Nat)=>[PV.int .i64 (i:Int)]
end Go.Proofs.YtdahanchdjadiaaDoor.V

namespace Go.Proofs.YtdahanchdjadiaaDoor.V
def ext (p:Nat→Bool) (n:Nat):List bD:=exts ((List.range n).filter p)
theorem LW (p:Nat→Bool):ext p 0=[]:=rfl
theorem pJ (p:Nat→Bool) (n:Nat):ext p (n+1)=if p n then uT (ext p n) n else ext p n:=by
 unfold ext
 rw [List.range_succ,List.filter_append]
 cases h:p n
 ·simp [h]
 ·rw [List.filter_cons_of_pos h,List.filter_nil,nG];rfl
theorem ach {p:Nat→Bool} {n:Nat} (h:n=0∨p (n - 1)=false):uT (ext p n) n=ext p n++[⟨(n:Int),1⟩]:=by
 unfold ext
 rcases jQ ((List.range n).filter p) with h0|⟨l,j,h0⟩
 ·rw [h0];rfl
 ·obtain ⟨pre,⟨s,c⟩,e0,h1,h2,h3,h4⟩:=zM _ l rfl j
  have hmem:j∈(List.range n).filter p:=by rw [h0];simp
  obtain ⟨q1,q2⟩:=List.mem_filter.1 hmem
  have hj:=List.mem_range.1 q1
  simp only at h1
  rw [h0,e0,gV,if_neg]
  intro hh
  simp only at hh
  have:j=n - 1:=by omega
  rcases h with h|h
  ·omega
  ·rw [← this,q2] at h;cases h
theorem wo {p:Nat→Bool} {a:Nat}:∀ k,(∀ s,a≤s→s<a+k→p s=false)→ext p (a+k)=ext p a
 |0,_=>rfl
 |k+1,h=>by
  rw [← Nat.add_assoc,pJ,h (a+k) (by omega) (by omega),if_neg (by simp)]
  exact wo k fun s h1 h2=>h s h1 (by omega)
theorem DF {p:Nat→Bool} {a:Nat} {pre:List bD} {s0:Int} (h0:ext p a=pre++[⟨s0,a - s0⟩]):∀ k,(∀ s,a≤s→s<a+k→p s=true)→ext p (a+k)=pre++[⟨s0,((a+k:Nat):Int) - s0⟩]
 |0,_=>h0
 |k+1,h=>by
  rw [← Nat.add_assoc,pJ,h (a+k) (by omega) (by omega),if_pos rfl,DF h0 k fun s h1 h2=>h s h1 (by omega),gV,if_pos (by simp only;omega)]
  congr 2
  simp only [bD.mk.injEq,true_and]
  omega
theorem U3 {p:Nat→Bool} {a k:Nat} (hn:a=0∨p (a - 1)=false) (h:∀ s,a≤s→s<a+(k+1)→p s=true):ext p (a+(k+1))=ext p a++[⟨(a:Int),((a+(k+1):Nat):Int) - a⟩]:=by
 have h1:ext p (a+1)=ext p a++[⟨(a:Int),((a+1:Nat):Int) - a⟩]:=by
  rw [pJ,h a (Nat.le_refl _) (by omega),if_pos rfl,ach hn]
  congr 2
  simp only [bD.mk.injEq,true_and]
  omega
 have:=DF (a:=a+1) h1 k fun s h2 h3=>h s (by omega) (by omega)
 rw [show a+(k+1)=a+1+k by omega]
 exact this
theorem FX {p q:Nat→Bool} {n:Nat} (h:∀ s,s<n→p s=q s):ext p n=ext q n:=by
 unfold ext
 rw [List.filter_congr fun s hs=>h s (List.mem_range.1 hs)]
def dep (i:Nat) (s:Nat):List End→Int
 |[]=>0
 |x :: l=>(if x.list=i∧x.pos≤s then x.step else 0)+dep i s l
def tot (i:Nat):List End→Int
 |[]=>0
 |x :: l=>(if x.list=i then x.step else 0)+tot i l
theorem wu (i s:Nat):∀ l m:List End,dep i s (l++m)=dep i s l+dep i s m
 |[],m=>by simp [dep]
 |x :: l,m=>by simp only [List.cons_append,dep,wu i s l m];omega
theorem QL {i s:Nat}:∀ {l:List End},(∀ x∈l,x.pos≤s)→dep i s l=tot i l
 |[],_=>rfl
 |x :: l,h=>by
  have h1:=h x (by simp)
  have ih:=QL (i:=i) (s:=s) (l:=l) fun y hy=>h y (by simp [hy])
  simp only [dep,tot,ih,h1,and_true]
theorem yT {i s:Nat}:∀ {l:List End},(∀ x∈l,s<x.pos)→dep i s l=0
 |[],_=>rfl
 |x :: l,h=>by
  have h1:=h x (by simp)
  have ih:=yT (i:=i) (s:=s) (l:=l) fun y hy=>h y (by simp [hy])
  simp only [dep,ih]
  rw [if_neg (by omega)];rfl
theorem yU (i:Nat):∀ l m:List End,tot i (l++m)=tot i l+tot i m
 |[],m=>by simp [tot]
 |x :: l,m=>by simp only [List.cons_append,tot,yU i l m];omega
def kD (keep:Bool→Bool→Bool) (l:List End) (s:Nat):Bool:=keep (decide (dep 0 s l > 0)) (decide (dep 1 s l > 0))
def jq (x:End):List End→Bool
 |[]=>false
 |y :: _=>decide (y.pos=x.pos)
def zN (keep:Bool→Bool→Bool):List End→Int→Int→Int→Bool→List bD
 |[],_,_,_,_=>[]
 |x :: l,d0,d1,st,ins =>
  if jq x l then zN keep l (if x.list=0 then d0+x.step else d0) (if x.list=1 then d1+x.step else d1) st ins
  else
   (if !keep (decide ((if x.list=0 then d0+x.step else d0) > 0)) (decide ((if x.list=1 then d1+x.step else d1) > 0))&&ins then [⟨st,x.pos - st⟩] else []) ++
   zN keep l (if x.list=0 then d0+x.step else d0) (if x.list=1 then d1+x.step else d1)
    (if keep (decide ((if x.list=0 then d0+x.step else d0) > 0)) (decide ((if x.list=1 then d1+x.step else d1) > 0))&&!ins then x.pos else st)
    (keep (decide ((if x.list=0 then d0+x.step else d0) > 0)) (decide ((if x.list=1 then d1+x.step else d1) > 0)))
def Asc:List End→Prop
 |[]=>True
 |[_]=>True
 |x :: y :: l=>x.pos≤y.pos∧Asc (y :: l)
theorem Asc.tail {x:End} {l:List End} (h:Asc (x :: l)):Asc l:=by
 cases l with
 |nil=>trivial
 |cons y l=>exact h.2
theorem Asc.le {x:End}:∀ {l:List End},Asc (x :: l)→∀ y∈l,x.pos≤y.pos
 |[],_,y,hy=>by cases hy
 |z :: l,h,y,hy=>by
  rcases List.mem_cons.1 hy with rfl|hy
  ·exact h.1
  ·exact Nat.le_trans h.1 (Asc.le h.2 y hy)
def atStart (N:Nat):List End→Nat→Prop
 |[],a=>a=N
 |x :: _,a=>a=x.pos
theorem wz {keep:Bool→Bool→Bool} (hk:keep false false=false) {L:List End} {N:Nat} (hN:∀ x∈L,x.pos≤N) (h0:tot 0 L=0) (h1:tot 1 L=0) :
  ∀ (R P:List End) (out:List bD) (st:Int) (ins:Bool) (a:Nat),L=P++R→Asc R→(∀ x∈P,∀ y∈R,x.pos≤y.pos)→(∀ x∈P,x.pos≤a) →
   atStart N R a→ext (kD keep L) a=out++(if ins then [⟨st,a - st⟩] else [])→(a=0∨ins=true∨kD keep L (a - 1)=false)→(R=[]→ins=false)→(a=0→ins=false) →
   ext (kD keep L) N=out++zN keep R (tot 0 P) (tot 1 P) st ins
 |[],P,out,st,ins,a,hL,_,_,_,ha,he,hi,hr,_=>by
  have ha:a=N:=ha
  rw [hr rfl] at he
  rw [ha] at he
  simpa [zN] using he
 |x :: l,P,out,st,ins,a,hL,hs,hP,hPa,ha,he,hi,_,hz=>by
  have ha:a=x.pos:=ha
  subst ha
  have hL2:L=(P++[x])++l:=by rw [hL];simp
  have t0:tot 0 (P++[x])=(if x.list=0 then tot 0 P+x.step else tot 0 P):=by
   rw [yU];simp only [tot];split<;>omega
  have t1:tot 1 (P++[x])=(if x.list=1 then tot 1 P+x.step else tot 1 P):=by
   rw [yU];simp only [tot];split<;>omega
  have hP2:∀ z∈P++[x],∀ y∈l,z.pos≤y.pos:=by
   intro z hz y hy
   rcases List.mem_append.1 hz with hz|hz
   ·exact hP z hz y (by simp [hy])
   ·simp only [List.mem_singleton] at hz;rw [hz];exact hs.le y hy
  have hPx:∀ z∈P++[x],z.pos≤x.pos:=by
   intro z hz
   rcases List.mem_append.1 hz with hz|hz
   ·exact hP z hz x (by simp)
   ·simp only [List.mem_singleton] at hz;rw [hz];exact Nat.le_refl _
  unfold zN
  rw [← t0,← t1]
  by_cases hn:jq x l=true
  ·rw [if_pos hn]
   cases l with
   |nil=>simp [jq] at hn
   |cons y l =>
    have hy:y.pos=x.pos:=by simpa [jq] using hn
    exact wz hk hN h0 h1 (y :: l) (P++[x]) out st ins x.pos hL2 hs.tail hP2 hPx hy.symm he hi (fun e=>by cases e) hz
  ·rw [if_neg hn]
   -- the next place
   obtain ⟨b,hb,hbl,hbx,hbm⟩:∃ b,x.pos≤b∧(∀ y∈l,b≤y.pos)∧(l≠[]→x.pos<b)∧atStart N l b:=by
    cases l with
    |nil=>exact ⟨N,hN x (by rw [hL];simp),fun y hy=>(by cases hy),fun h=>absurd rfl h,rfl⟩
    |cons y l =>
     have hy:y.pos≠x.pos:=by simpa [jq] using hn
     have:=hs.1
     exact ⟨y.pos,hs.1,fun z hz=>by
      rcases List.mem_cons.1 hz with rfl|hz
      ·exact Nat.le_refl _
      ·exact hs.tail.le z hz,fun _=>by omega,rfl⟩
   have hconst:∀ s,x.pos≤s→s<b→kD keep L s=keep (decide (tot 0 (P++[x]) > 0)) (decide (tot 1 (P++[x]) > 0)):=by
    intro s hs1 hs2
    unfold kD
    have e:∀ i,dep i s L=tot i (P++[x]):=by
     intro i
     rw [hL2,wu,QL (fun z hz=>by have:=hPx z hz;omega),yT (fun z hz=>by have:=hbl z hz;omega)]
     omega
    rw [e 0,e 1]
   have hlast:l=[]→keep (decide (tot 0 (P++[x]) > 0)) (decide (tot 1 (P++[x]) > 0))=false:=by
    intro hl
    have e0:tot 0 (P++[x])=0:=by rw [← h0,hL2,hl,List.append_nil]
    have e1:tot 1 (P++[x])=0:=by rw [← h1,hL2,hl,List.append_nil]
    rw [e0,e1]
    exact hk
   have hPb:∀ z∈P++[x],z.pos≤b:=fun z hz=>Nat.le_trans (hPx z hz) hb
   obtain ⟨k,rfl⟩:∃ k,b=x.pos+k:=⟨b - x.pos,by omega⟩
   generalize keep (decide (tot 0 (P++[x]) > 0)) (decide (tot 1 (P++[x]) > 0))=now at *
   have adG:k≠0→kD keep L (x.pos+k - 1)=now:=fun hk0=>hconst _ (by omega) (by omega)
   cases now with
   |false =>
    have hf:=wo (p:=kD keep L) (a:=x.pos) k fun s q1 q2=>hconst s q1 q2
    cases ins with
    |false =>
     simp only [Bool.not_false,Bool.and_false,Bool.false_eq_true,if_false,List.nil_append,Bool.and_true,Bool.false_and,List.append_nil,if_true] at he ⊢
     refine wz hk hN h0 h1 l (P++[x]) out _ false (x.pos+k) hL2 hs.tail hP2 hPb hbm ?_ ?_ (fun _=>rfl) (fun _=>rfl)
     ·rw [hf,he];simp
     ·by_cases hk0:k=0
      ·subst hk0
       rcases hi with hi|hi|hi
       ·exact .inl hi
       ·cases hi
       ·exact .inr (.inr hi)
      ·exact .inr (.inr (adG hk0))
    |true =>
     simp only [Bool.not_false,Bool.and_self,if_true,Bool.not_true,Bool.and_false,Bool.false_and,Bool.false_eq_true,if_false] at he ⊢
     rw [← List.append_assoc]
     by_cases hk0:k=0
     ·subst hk0
      have hl:l=[]:=by
       cases l with
       |nil=>rfl
       |cons y l=>have:=hbx (by simp);omega
      subst hl
      have hb2:x.pos+0=N:=hbm
      simp only [zN,List.append_nil]
      rw [← hb2]
      exact he
     ·refine wz hk hN h0 h1 l (P++[x]) _ _ false (x.pos+k) hL2 hs.tail hP2 hPb hbm ?_ (.inr (.inr (adG hk0))) (fun _=>rfl) (fun _=>rfl)
      rw [hf,he];simp
   |true =>
    have hl:l≠[]:=fun e=>by have:=hlast e;cases this
    have hk1:=hbx hl
    obtain ⟨j,rfl⟩:∃ j,k=j+1:=⟨k - 1,by omega⟩
    cases ins with
    |false =>
     simp only [Bool.not_true,Bool.false_and,Bool.false_eq_true,if_false,List.nil_append,Bool.not_false,Bool.and_self,if_true,List.append_nil] at he ⊢
     refine wz hk hN h0 h1 l (P++[x]) out _ true (x.pos+(j+1)) hL2 hs.tail hP2 hPb hbm ?_ (.inr (.inl rfl)) (fun e=>absurd e hl) (fun e=>by omega)
     have hi2:x.pos=0∨kD keep L (x.pos - 1)=false:=by
      rcases hi with hi|hi|hi
      ·exact .inl hi
      ·cases hi
      ·exact .inr hi
     rw [U3 hi2 fun s q1 q2=>hconst s q1 q2,he]
     simp
    |true =>
     simp only [Bool.not_true,Bool.false_and,Bool.false_eq_true,if_false,List.nil_append,Bool.and_false,if_true] at he ⊢
     refine wz hk hN h0 h1 l (P++[x]) out st true (x.pos+(j+1)) hL2 hs.tail hP2 hPb hbm ?_ (.inr (.inl rfl)) (fun e=>absurd e hl) (fun e=>by omega)
     rw [DF he (j+1) fun s q1 q2=>hconst s q1 q2]
     simp
theorem YR {keep:Bool→Bool→Bool} (hk:keep false false=false) {L:List End} {N:Nat} (hs:Asc L) (hN:∀ x∈L,x.pos≤N) (h0:tot 0 L=0) (h1:tot 1 L=0) :
  zN keep L 0 0 0 false=ext (kD keep L) N:=by
 cases L with
 |nil =>
  have:ext (kD keep ([]:List End)) (0+N)=ext (kD keep []) 0:=wo N fun s _ _=>hk
  rw [Nat.zero_add] at this
  rw [this];rfl
 |cons x l =>
  have hb:ext (kD keep (x :: l)) (0+x.pos)=ext (kD keep (x :: l)) 0:=wo x.pos fun s _ h2=>by
   unfold kD
   have e:∀ i,dep i s (x :: l)=0:=fun i=>yT fun y hy=>by
    rcases List.mem_cons.1 hy with rfl|hy
    ·omega
    ·have:=hs.le y hy;omega
   rw [e 0,e 1]
   exact hk
  rw [Nat.zero_add] at hb
  have:=wz hk hN h0 h1 (x :: l) [] [] 0 false x.pos rfl hs (fun z hz=>by cases hz) (fun z hz=>by cases hz) rfl (by rw [hb];rfl) (by
   by_cases h:x.pos=0
   ·exact .inl h
   ·refine .inr (.inr ?_)
    unfold kD
    have e:∀ i,dep i (x.pos - 1) (x :: l)=0:=fun i=>yT fun y hy=>by
     rcases List.mem_cons.1 hy with rfl|hy
     ·omega
     ·have:=hs.le y hy;omega
    rw [e 0,e 1]
    exact hk) (fun e=>by cases e) (fun _=>rfl)
  rw [this];rfl
end Go.Proofs.YtdahanchdjadiaaDoor.V

namespace Go.Proofs.YtdahanchdjadiaaDoor.V
abbrev Wd:=BitVec 64
structure Bm where
 size:Int
 ws:List Wd
 deriving DecidableEq
def eW (w:Wd):PV:=.int .u64 (w.toNat:Int)
def qL (b:Bm):PV:=.agg [.int .i64 b.size,.list 1 (b.ws.map eW)]
def bit (ws:List Wd) (i:Nat):Bool:=(ws.getD (i / 64) 0).getLsbD (i % 64)
theorem DI {ws:List Wd} {k:Nat} (h:k<ws.length) {j:Nat} (hj:j<64):bit ws (64 * k+j)=ws[k].getLsbD j:=by
 unfold bit
 have e1:(64 * k+j) / 64=k:=by omega
 have e2:(64 * k+j) % 64=j:=by omega
 rw [e1,e2];simp [h]
theorem zO {ws:List Wd} {i:Nat} (h:i / 64<ws.length):bit ws i=ws[i / 64].getLsbD (i % 64):=by
 unfold bit;simp [h]
theorem wB {ws:List Wd} {i:Nat} (h:64 * ws.length≤i):bit ws i=false:=by
 unfold bit
 have:ws.length≤i / 64:=by omega
 rw [List.getD_eq_getElem?_getD,List.getElem?_eq_none this];simp
theorem aeU {a b:List Wd} (hl:a.length=b.length) (h:∀ i,i<64 * a.length→bit a i=bit b i):a=b:=by
 apply List.ext_getElem hl
 intro k h1 h2
 apply BitVec.eq_of_getLsbD_eq
 intro j hj
 rw [← DI h1 hj,← DI h2 hj,h _ (by omega)]
theorem U4 (w:Wd):BitVec.ofInt 64 (w.toNat:Int)=w:=by
 apply BitVec.eq_of_toNat_eq
 have:=w.isLt
 rw [BitVec.toNat_ofInt]
 omega
theorem LX (n:Int):IntKind.u64.wrap n=n % 2 ^ 64:=by
 simp only [IntKind.wrap,IntKind.bits,IntKind.signed,Bool.false_and,Bool.false_eq_true,if_false]
theorem PD (w:Wd):IntKind.u64.wrap (w.toNat:Int)=(w.toNat:Int):=by
 have:=w.isLt
 simp only [IntKind.wrap,IntKind.bits,IntKind.signed,Bool.false_and,Bool.false_eq_true,if_false]
 omega
theorem ai4 (a b:Wd):IntKind.u64.wrap ((BitVec.ofInt IntKind.u64.bits (a.toNat:Int) ||| BitVec.ofInt IntKind.u64.bits (b.toNat:Int)).toNat:Int)=((a ||| b).toNat:Int):=by
 show IntKind.u64.wrap ((BitVec.ofInt 64 (a.toNat:Int) ||| BitVec.ofInt 64 (b.toNat:Int)).toNat:Int)=_
 rw [U4,U4,PD]
theorem QM (a b:Wd):IntKind.u64.wrap ((BitVec.ofInt IntKind.u64.bits (a.toNat:Int) &&& BitVec.ofInt IntKind.u64.bits (b.toNat:Int)).toNat:Int)=((a &&& b).toNat:Int):=by
 show IntKind.u64.wrap ((BitVec.ofInt 64 (a.toNat:Int) &&& BitVec.ofInt 64 (b.toNat:Int)).toNat:Int)=_
 rw [U4,U4,PD]
theorem YS (a b:Wd):IntKind.u64.wrap ((BitVec.ofInt IntKind.u64.bits (a.toNat:Int) &&& ~~~BitVec.ofInt IntKind.u64.bits (b.toNat:Int)).toNat:Int)=((a &&& ~~~b).toNat:Int):=by
 show IntKind.u64.wrap ((BitVec.ofInt 64 (a.toNat:Int) &&& ~~~BitVec.ofInt 64 (b.toNat:Int)).toNat:Int)=_
 rw [U4,U4,PD]
theorem QN (w:Wd) {s:Int} {n:Nat} (hs:s=(n:Int)):(w.toNat:Int).fdiv (2 ^ (min s.toNat IntKind.u64.bits))=((w >>> n).toNat:Int):=by
 subst hs
 rw [BitVec.toNat_ushiftRight,Nat.shiftRight_eq_div_pow,Int.toNat_natCast]
 have hw:=w.isLt
 show (w.toNat:Int).fdiv (2 ^ (min n 64))=_
 by_cases h:n≤64
 ·have h2:(0:Int)≤2 ^ n:=by have:=Int.natCast_nonneg (2 ^ n);push_cast at this;exact this
  rw [Nat.min_eq_left h,Int.fdiv_eq_ediv_of_nonneg _ h2]
  push_cast
  rfl
 ·rw [Nat.min_eq_right (by omega),Int.fdiv_eq_ediv_of_nonneg _ (by decide)]
  have h1:w.toNat / 2 ^ n=0:=Nat.div_eq_of_lt (Nat.lt_of_lt_of_le hw (Nat.pow_le_pow_right (by decide) (by omega)))
  rw [h1]
  omega
theorem ahl (w:Wd) {s:Int} {n:Nat} (hs:s=(n:Int)):IntKind.u64.wrap ((w.toNat:Int) * 2 ^ (min s.toNat IntKind.u64.bits))=((w <<< n).toNat:Int):=by
 subst hs
 rw [BitVec.toNat_shiftLeft,Nat.shiftLeft_eq,Int.toNat_natCast]
 have hw:=w.isLt
 rw [LX]
 show ((w.toNat:Int) * 2 ^ (min n 64)) % 2 ^ 64=_
 by_cases h:n≤64
 ·have e2:((2 ^ n:Nat):Int)=2 ^ n:=by push_cast;rfl
  have e3:((2 ^ 64:Nat):Int)=2 ^ 64:=by decide
  rw [Nat.min_eq_left h,Int.natCast_emod,Int.natCast_mul,e2,e3]
 ·rw [Nat.min_eq_right (by omega)]
  have e:2 ^ n=2 ^ 64 * 2 ^ (n - 64):=by rw [← Nat.pow_add];congr 1;omega
  have:w.toNat * 2 ^ n % 2 ^ 64=0:=by
   rw [e,Nat.mul_left_comm];exact Nat.mul_mod_right _ _
  rw [this]
  exact Int.mul_emod_left _ _
theorem ahm (a b:Wd):IntKind.u64.wrap ((a.toNat:Int) - (b.toNat:Int))=((a - b).toNat:Int):=by
 have h1:=a.isLt
 have h2:=b.isLt
 simp only [IntKind.wrap,IntKind.bits,IntKind.signed,Bool.false_and,Bool.false_eq_true,if_false]
 rw [BitVec.toNat_sub]
 omega
theorem QO (a b:Wd):((a.toNat:Int)==(b.toNat:Int))=decide (a=b):=by
 by_cases h:a=b
 ·subst h;simp
 ·have:a.toNat≠b.toNat:=fun e=>h (BitVec.eq_of_toNat_eq e)
  simp [h];omega
def tV (k:Nat) (a b:Int):Wd :=
 if max (a - 64 * (k:Int)) 0 ≥ min (b - 64 * (k:Int)) 64 then 0
 else (BitVec.allOnes 64 >>> (64 - (min (b - 64 * (k:Int)) 64 - max (a - 64 * (k:Int)) 0)).toNat) <<< (max (a - 64 * (k:Int)) 0).toNat
theorem DJ (k:Nat) (a b:Int) {j:Nat} (hj:j<64):(tV k a b).getLsbD j=decide (a≤64 * (k:Int)+j∧64 * (k:Int)+j<b):=by
 unfold tV
 split
 ·rename_i h
  rw [show (0:Wd).getLsbD j=false by simp]
  symm
  apply decide_eq_false
  omega
 ·rename_i h
  rw [BitVec.getLsbD_shiftLeft,BitVec.getLsbD_ushiftRight,BitVec.getLsbD_allOnes]
  rw [Bool.eq_iff_iff]
  simp only [Bool.and_eq_true,decide_eq_true_eq,Bool.not_eq_true',decide_eq_false_iff_not]
  omega
def bitsOf (w:Wd):List Nat:=(List.range 64).filter fun j=>w.getLsbD j
theorem U5:bitsOf 0=[]:=by
 unfold bitsOf
 rw [List.filter_eq_nil_iff]
 intro j _
 simp
theorem QS {w:Wd} (h:w≠0):Lib.ctz 64 w.toNat<64∧(∀ j,j<Lib.ctz 64 w.toNat→w.getLsbD j=false)∧w.getLsbD (Lib.ctz 64 w.toNat)=true∧∀ j,j<64→(w &&& (w - 1)).getLsbD j=(w.getLsbD j&&decide (j≠Lib.ctz 64 w.toNat)):=by
 have h0:0<w.toNat:=by
  rcases Nat.eq_zero_or_pos w.toNat with e|e
  ·exact absurd (BitVec.eq_of_toNat_eq (by simpa using e)) h
  ·exact e
 have hl:Lib.ctz 64 w.toNat=Lib.ctzFrom 64 w.toNat:=by unfold Lib.ctz;rw [if_neg (by omega)]
 rw [hl]
 obtain ⟨m,h1,h2⟩:=Lib.ctzFrom_spec 64 w.toNat h0 w.isLt
 generalize Lib.ctzFrom 64 w.toNat=c at h1 h2
 have hbit:∀ j,w.getLsbD j=if j<c then false else (2 * m+1).testBit (j - c):=fun j=>by
  rw [← BitVec.testBit_toNat,h1,Nat.testBit_two_pow_mul]
  by_cases hc:j<c
  ·rw [if_pos hc,decide_eq_false (by omega),Bool.false_and]
  ·rw [if_neg hc,decide_eq_true (by omega),Bool.true_and]
 have hsub:(w - 1).toNat=2 ^ c * (2 * m)+(2 ^ c - 1):=by
  have hp:0<2 ^ c:=Nat.pow_pos (by decide)
  rw [BitVec.toNat_sub]
  have:=w.isLt
  have e1:(1:Wd).toNat=1:=rfl
  rw [e1,show 2 ^ 64 - 1+w.toNat=(w.toNat - 1)+2 ^ 64 by omega,Nat.add_mod_right,Nat.mod_eq_of_lt (by omega),h1,Nat.mul_add,Nat.mul_one]
  omega
 have ahn:∀ j,(w - 1).getLsbD j=if j<c then true else (2 * m).testBit (j - c):=fun j=>by
  rw [← BitVec.testBit_toNat,hsub]
  have hp:2 ^ c - 1<2 ^ c:=by have:0<2 ^ c:=Nat.pow_pos (by decide);omega
  by_cases hc:j<c
  ·rw [if_pos hc,Nat.testBit_two_pow_mul_add _ hp,if_pos hc,Nat.testBit_two_pow_sub_one]
   simp [hc]
  ·rw [if_neg hc,Nat.testBit_two_pow_mul_add _ hp,if_neg hc]
 refine ⟨h2,fun j hj=>by rw [hbit,if_pos hj],by rw [hbit,if_neg (Nat.lt_irrefl _),Nat.sub_self];simp,fun j hj=>?_⟩
 rw [BitVec.getLsbD_and,hbit,ahn]
 by_cases hc:j<c
 ·simp [hc]
 ·rw [if_neg hc,if_neg hc]
  by_cases he:j=c
  ·subst he;simp
  ·obtain ⟨d,hd⟩:∃ d,j - c=d+1:=⟨j - c - 1,by omega⟩
   rw [hd,Nat.testBit_succ,Nat.testBit_succ,show (2 * m+1) / 2=m by omega,show 2 * m / 2=m by omega]
   simp [he]
theorem I8 {p q:Nat→Bool} {c n:Nat} (hc:c<n) (hlow:∀ j,j<c→p j=false) (hp:p c=true) (hq:∀ j,j<n→q j=(p j&&decide (j≠c))):(List.range n).filter p=c :: (List.range n).filter q:=by
 have e:List.range n=List.range c++(c :: (List.range (n - c - 1)).map (c+1+·)):=by
  apply List.ext_getElem
  ·simp;omega
  ·intro i h1 h2
   simp only [List.length_range] at h1
   rw [List.getElem_range,List.getElem_append]
   split
   ·simp
   ·rename_i h
    simp only [List.length_range] at h ⊢
    obtain ⟨d,hd⟩:∃ d,i=c+d:=⟨i - c,by omega⟩
    subst hd
    cases d with
    |zero=>simp
    |succ d=>simp [show c+(d+1) - c=d+1 by omega];omega
 have hq':∀ j,j∈List.range n→q j=(p j&&decide (j≠c)):=fun j hj=>hq j (List.mem_range.1 hj)
 rw [List.filter_congr hq',e,List.filter_append,List.filter_append]
 have h1:(List.range c).filter p=[]:=by
  rw [List.filter_eq_nil_iff];intro j hj;rw [hlow j (List.mem_range.1 hj)];simp
 have h2:(List.range c).filter (fun j=>p j&&decide (j≠c))=[]:=by
  rw [List.filter_eq_nil_iff];intro j hj;rw [hlow j (List.mem_range.1 hj)];simp
 rw [h1,h2,List.nil_append,List.nil_append,List.filter_cons_of_pos hp,List.filter_cons_of_neg (by simp)]
 congr 1
 apply List.filter_congr
 intro j hj
 obtain ⟨d,_,rfl⟩:=List.mem_map.1 hj
 simp;omega
theorem U6 {w:Wd} (h:w≠0):bitsOf w=Lib.ctz 64 w.toNat :: bitsOf (w &&& (w - 1)):=by
 obtain ⟨h1,h2,h3,h4⟩:=QS h
 exact I8 h1 h2 h3 h4
def uU (ws:List Wd) (a b:Int):List Nat:=(List.range (64 * ws.length)).filter fun (i:Nat)=>bit ws i&&decide (a≤(i:Int)∧(i:Int)<b)
theorem range_add (n m:Nat):List.range (n+m)=List.range n++(List.range m).map (n+·):=List.range_add
theorem PG {ws:List Wd} {k:Nat} (h:k<ws.length) (a b:Int):(List.range (64 * (k+1))).filter (fun (i:Nat)=>bit ws i&&decide (a≤(i:Int)∧(i:Int)<b))
  = (List.range (64 * k)).filter (fun (i:Nat)=>bit ws i&&decide (a≤(i:Int)∧(i:Int)<b))++(bitsOf (ws[k] &&& tV k a b)).map (64 * k+·):=by
 rw [show 64 * (k+1)=64 * k+64 by omega,List.range_add,List.filter_append,List.filter_map]
 congr 2
 unfold bitsOf
 apply List.filter_congr
 intro j hj
 have hj:=List.mem_range.1 hj
 rw [BitVec.getLsbD_and,DJ k a b hj]
 show (bit ws (64 * k+j)&&_)=_
 rw [DI h hj]
 push_cast
 rfl
def setW (ws:List Wd) (a b:Int):List Wd:=ws.mapIdx fun k w=>w ||| tV k a b
def EG (ws:List Wd) (a b:Int):List Wd:=ws.mapIdx fun k w=>w &&& ~~~tV k a b
theorem QT {ws:List Wd} {a b:Int} {i:Nat} (h:i<64 * ws.length):bit (setW ws a b) i=(bit ws i || decide (a≤(i:Int)∧(i:Int)<b)):=by
 have hk:i / 64<ws.length:=by omega
 have hk2:i / 64<(setW ws a b).length:=by simp [setW,hk]
 rw [zO hk,zO hk2]
 simp only [setW,List.getElem_mapIdx,BitVec.getLsbD_or]
 rw [DJ _ _ _ (Nat.mod_lt _ (by decide))]
 congr 2
 have:(64 * ((i / 64:Nat):Int))+((i % 64:Nat):Int)=(i:Int):=by omega
 rw [this]
theorem aci {ws:List Wd} {a b:Int} {i:Nat} (h:i<64 * ws.length):bit (EG ws a b) i=(bit ws i&&!decide (a≤(i:Int)∧(i:Int)<b)):=by
 have hk:i / 64<ws.length:=by omega
 have hk2:i / 64<(EG ws a b).length:=by simp [EG,hk]
 rw [zO hk,zO hk2]
 simp only [EG,List.getElem_mapIdx,BitVec.getLsbD_and,BitVec.getLsbD_not]
 rw [DJ _ _ _ (Nat.mod_lt _ (by decide))]
 have:(64 * ((i / 64:Nat):Int))+((i % 64:Nat):Int)=(i:Int):=by omega
 rw [this]
 have h64:decide (i % 64<64)=true:=decide_eq_true (Nat.mod_lt _ (by decide))
 rw [h64,Bool.true_and]
def jf (n:Int):Int:=(n+63) / 64
def okB (b:Bm):Bool:=decide (0≤b.size∧b.size≤4096∧(b.ws.length:Int)=jf b.size)&&(List.range (64 * b.ws.length)).all fun (i:Nat)=>decide ((i:Int)<b.size) || !bit b.ws i
theorem ig {b:Bm}:okB b=true ↔ (0≤b.size∧b.size≤4096∧(b.ws.length:Int)=jf b.size)∧∀ i:Nat,b.size≤(i:Int)→bit b.ws i=false:=by
 unfold okB
 simp only [Bool.and_eq_true,decide_eq_true_eq,List.all_eq_true,List.mem_range,Bool.or_eq_true,Bool.not_eq_true']
 refine and_congr Iff.rfl ⟨fun h i hi=>?_,fun h i hi=>?_⟩
 ·by_cases c:i<64 * b.ws.length
  ·exact (h i c).resolve_left (by omega)
  ·exact wB (by omega)
 ·by_cases c:(i:Int)<b.size
  ·exact .inl c
  ·exact .inr (h i (by omega))
theorem iH {b:Bm} (h:okB b=true):0≤b.size∧b.size≤4096∧b.ws.length≤64∧b.size≤64 * (b.ws.length:Int)∧64 * (b.ws.length:Int)<b.size+64:=by
 have:=(ig.1 h).1
 unfold jf at this
 omega
theorem LY {b:Bm} (h:okB b=true) {i:Nat} (hb:bit b.ws i=true):(i:Int)<b.size:=by
 rcases Int.lt_or_le (i:Int) b.size with c|c
 ·exact c
 ·rw [(ig.1 h).2 i c] at hb;cases hb
theorem aeV {a b:Bm} (ha:okB a=true) (hb:okB b=true) (hs:a.size=b.size) (h:∀ i:Nat,(i:Int)<a.size→bit a.ws i=bit b.ws i):a=b:=by
 have h1:=(ig.1 ha)
 have h2:=(ig.1 hb)
 have e:a.ws=b.ws:=aeU (by have:=h1.1.2.2;have:=h2.1.2.2;rw [hs] at *;omega) fun i _=>by
  rcases Int.lt_or_le (i:Int) a.size with c|c
  ·exact h i c
  ·rw [h1.2 i c,h2.2 i (by omega)]
 cases a;cases b;simp_all
theorem YT {b:Bm} (h:0≤b.size∧b.size≤4096∧(b.ws.length:Int)=jf b.size):okB b=true ↔ (b.size % 64=0∨∀ (hw:b.ws.length - 1<b.ws.length),b.ws[b.ws.length - 1] >>> (b.size % 64).toNat=0):=by
 rw [ig]
 unfold jf at h ⊢
 constructor
 ·rintro ⟨_,h2⟩
  by_cases c:b.size % 64=0
  ·exact .inl c
  ·refine .inr fun hw=>?_
   apply BitVec.eq_of_getLsbD_eq
   intro j hj
   rw [BitVec.getLsbD_ushiftRight]
   by_cases cj:(b.size % 64).toNat+j<64
   ·rw [← DI hw cj,h2 _ (by omega)];simp
   ·rw [BitVec.getLsbD_of_ge _ _ (by omega)];simp
 ·intro hr
  refine ⟨by omega,fun i hi=>?_⟩
  by_cases c:i<64 * b.ws.length
  ·have hw:b.ws.length - 1<b.ws.length:=by omega
   have hk:i / 64=b.ws.length - 1:=by omega
   rcases hr with hr|hr
   ·omega
   ·have:=congrArg (fun w:Wd=>w.getLsbD (i % 64 - (b.size % 64).toNat)) (hr hw)
    simp only [BitVec.getLsbD_ushiftRight,BitVec.getLsbD_zero] at this
    rw [show (b.size % 64).toNat+(i % 64 - (b.size % 64).toNat)=i % 64 by omega] at this
    rw [show i=64 * (b.ws.length - 1)+i % 64 by omega,DI hw (Nat.mod_lt _ (by decide))]
    simpa using this
  ·exact wB (by omega)
def I9 (b:Bm):List bD:=ext (bit b.ws) b.size.toNat
def PI (b:Bm):Int:=if okB b then 0 else 3
theorem YU {b:Bm} (h:okB b=true) (a:Int) (ha:a≤0):uU b.ws a b.size=(List.range b.size.toNat).filter (bit b.ws):=by
 unfold uU
 obtain ⟨h1,h2,h3,h4,h5⟩:=iH h
 rw [show 64 * b.ws.length=b.size.toNat+(64 * b.ws.length - b.size.toNat) by omega,List.range_add,List.filter_append]
 have e:(((List.range (64 * b.ws.length - b.size.toNat)).map (b.size.toNat+·)).filter fun (i:Nat)=>bit b.ws i&&decide (a≤(i:Int)∧(i:Int)<b.size))=[]:=by
  rw [List.filter_eq_nil_iff]
  intro i hi
  obtain ⟨d,_,rfl⟩:=List.mem_map.1 hi
  rw [decide_eq_false (by omega)];simp
 rw [e,List.append_nil]
 apply List.filter_congr
 intro i hi
 have hi:=List.mem_range.1 hi
 rw [decide_eq_true (by omega),Bool.and_true]
end Go.Proofs.YtdahanchdjadiaaDoor.V

namespace Go.Proofs.YtdahanchdjadiaaDoor.V
theorem uV {b:Bm} (h:okB b=true):PI b=0:=by unfold PI;rw [if_pos h]
theorem nH {b:Bm} (h:okB b=false):PI b=3:=by unfold PI;rw [if_neg (by rw [h];exact Bool.false_ne_true)]
theorem q64 {n:Int} (h:0≤n):(n+64 - 1).tdiv 64=jf n:=by
 unfold jf;rw [Int.tdiv_eq_ediv_of_nonneg (by omega)];congr 1;omega
theorem q63 {n:Int} (h:0≤n):(n+63).tdiv 64=jf n:=by
 unfold jf;rw [Int.tdiv_eq_ediv_of_nonneg (by omega)]
theorem z64:((64:Int)=0)=False:=eq_false (by decide)
theorem adH {n:Int} (h:0≤n∧n≤4096):cal env 56 [.int .i64 n]=some [(.int .i64 (jf n),false)]:=by
 have W1:IntKind.i64.wrap (n+64)=n+64:=ay (by omega)
 have W2:IntKind.i64.wrap (n+64 - 1)=n+64 - 1:=ay (by omega)
 have W3:IntKind.i64.wrap (jf n)=jf n:=ay (by unfold jf;omega)
 rw [ah agY rfl];simp only [Yn];simp only [start,aO,aY,aK,aX,aH,aI,aN,aU,Nat.reduceAdd,Nat.reduceSub]
 simp only [W1,W2,q64 h.1,W3,z64,bW,reduceCtorEq,Nat.reduceEqDiff,Nat.reduceAdd,Nat.reduceLT,Nat.reduceLeDiff,Nat.beq]
theorem QU {b:Bm}:cal env 57 [qL b]=some [(.int .i64 (PI b),false)]:=by
 unfold qL
 have P:∀ x y:PV,part [x,y] 0 (some 2)=some (.agg [x,y]):=fun _ _=>rfl
 by_cases c0:b.size<0
 ·have hE:PI b=3:=nH (by rw [Bool.eq_false_iff];intro h;have:=iH h;omega)
  rw [hE]
  rw [ah FV rfl];simp only [EF];simp only [start,aO,aY,aK,aX,aH,aI,aN,aU,Nat.reduceAdd,Nat.reduceSub]
  simp only [c0,P,bW,reduceCtorEq,Nat.reduceEqDiff,Nat.reduceAdd,Nat.reduceLT,Nat.reduceLeDiff,Nat.beq]
 ·by_cases c1:b.size > 4096
  ·have hE:PI b=3:=nH (by rw [Bool.eq_false_iff];intro h;have:=iH h;omega)
   rw [hE]
   have F1:(b.size > 4096)=True:=eq_true c1
   rw [ah FV rfl];simp only [EF];simp only [start,aO,aY,aK,aX,aH,aI,aN,aU,Nat.reduceAdd,Nat.reduceSub]
   simp only [c0,F1,P,bW,reduceCtorEq,Nat.reduceEqDiff,Nat.reduceAdd,Nat.reduceLT,Nat.reduceLeDiff,Nat.beq]
  ·have F1:(b.size > 4096)=False:=eq_false c1
   have e1:=adH (n:=b.size) (by omega)
   by_cases c2:(b.ws.length:Int)=jf b.size
   ·have F2:((b.ws.length:Int) != jf b.size)=false:=by simp [c2]
    have hr:=YT (b:=b) ⟨by omega,by omega,c2⟩
    have hw:=c2
    unfold jf at hw
    have M:b.size.tmod 64=b.size % 64:=Int.tmod_eq_emod_of_nonneg (by omega)
    by_cases c3:b.size % 64=0
    ·have hE:PI b=0:=uV (hr.2 (.inl c3))
     rw [hE]
     have F3:(b.size % 64 > 0)=False:=eq_false (by omega)
     rw [ah FV rfl];simp only [EF];simp only [start,aO,aY,aK,aX,aH,aI,aN,aU,Nat.reduceAdd,Nat.reduceSub]
     simp only [c0,F1,F2,F3,M,e1,z64,P,bW,reduceCtorEq,Nat.reduceEqDiff,Nat.reduceAdd,Nat.reduceLT,Nat.reduceLeDiff,Nat.beq]
    ·have F3:(b.size % 64 > 0)=True:=eq_true (by omega)
     have hi:b.ws.length - 1<b.ws.length:=by omega
     have W:IntKind.i64.wrap ((b.ws.length:Int) - 1)=((b.ws.length - 1:Nat):Int):=by rw [ay (by omega)];omega
     have S0:(b.size % 64<0)=False:=eq_false (by omega)
     have S:=QN b.ws[b.ws.length - 1] (s:=b.size % 64) (n:=(b.size % 64).toNat) (by omega)
     have B:=QO (b.ws[b.ws.length - 1] >>> (b.size % 64).toNat) 0
     have B0:((0:Wd).toNat:Int)=0:=rfl
     rw [B0] at B
     have B':(((b.ws[b.ws.length - 1] >>> (b.size % 64).toNat).toNat:Int) != 0)=!decide (b.ws[b.ws.length - 1] >>> (b.size % 64).toNat=0):=by unfold bne;rw [B]
     by_cases c4:b.ws[b.ws.length - 1] >>> (b.size % 64).toNat=0
     ·have hE:PI b=0:=uV (hr.2 (.inr fun _=>c4))
      rw [hE]
      rw [decide_eq_true c4] at B'
      rw [ah FV rfl];simp only [EF];simp only [start,aO,aY,aK,aX,aH,aI,aN,aU,Nat.reduceAdd,Nat.reduceSub]
      simp only [c0,F1,F2,F3,M,e1,z64,P,W,S0,S,B',aj hi,eW,List.getElem?_map,List.getElem?_eq_getElem hi,bW,reduceCtorEq,Nat.reduceEqDiff,Nat.reduceAdd,Nat.reduceLT,Nat.reduceLeDiff,Nat.beq]
     ·have hE:PI b=3:=nH (by
       rw [Bool.eq_false_iff];intro h
       rcases hr.1 h with h|h
       ·exact c3 h
       ·exact c4 (h hi))
      rw [hE]
      rw [decide_eq_false c4] at B'
      rw [ah FV rfl];simp only [EF];simp only [start,aO,aY,aK,aX,aH,aI,aN,aU,Nat.reduceAdd,Nat.reduceSub]
      simp only [c0,F1,F2,F3,M,e1,z64,P,W,S0,S,B',aj hi,eW,List.getElem?_map,List.getElem?_eq_getElem hi,bW,reduceCtorEq,Nat.reduceEqDiff,Nat.reduceAdd,Nat.reduceLT,Nat.reduceLeDiff,Nat.beq]
   ·have F2:((b.ws.length:Int) != jf b.size)=true:=by simp [c2]
    have hE:PI b=3:=nH (by rw [Bool.eq_false_iff];intro h;exact c2 (ig.1 h).1.2.2)
    rw [hE]
    rw [ah FV rfl];simp only [EF];simp only [start,aO,aY,aK,aX,aH,aI,aN,aU,Nat.reduceAdd,Nat.reduceSub]
    simp only [c0,F1,F2,e1,P,bW,reduceCtorEq,Nat.reduceEqDiff,Nat.reduceAdd,Nat.reduceLT,Nat.reduceLeDiff,Nat.beq]
theorem adI {k:Nat} {a b:Int} (hk:k≤100000) (ha:-1000000≤a∧a≤1000000) (hb':-1000000≤b∧b≤1000000):cal env 78 [.int .i64 (k:Nat),.int .i64 a,.int .i64 b]=some [(eW (tV k a b),false)]:=by
 have W0:IntKind.i64.wrap ((k:Int) * 64)=64 * (k:Int):=by rw [ay (by omega)];omega
 have W1:IntKind.i64.wrap (a - 64 * (k:Int))=a - 64 * (k:Int):=ay (by omega)
 have W2:IntKind.i64.wrap (b - 64 * (k:Int))=b - 64 * (k:Int):=ay (by omega)
 have X1:(if a - 64 * (k:Int)<0 then 0 else a - 64 * (k:Int))=max (a - 64 * (k:Int)) 0:=by split<;>omega
 have X2:(if 64<b - 64 * (k:Int) then 64 else b - 64 * (k:Int))=min (b - 64 * (k:Int)) 64:=by split<;>omega
 unfold tV eW
 generalize hf:max (a - 64 * (k:Int)) 0=f at X1 ⊢
 generalize ht:min (b - 64 * (k:Int)) 64=t at X2 ⊢
 by_cases c:f ≥ t
 ·have F1:(f ≥ t)=True:=eq_true c
  rw [if_pos c]
  have B0:((0:Wd).toNat:Int)=0:=rfl
  rw [B0]
  rw [ah adE rfl];simp only [UO];simp only [start,aO,aY,aK,aX,aH,aI,aN,aU,Nat.reduceAdd,Nat.reduceSub]
  simp only [W0,W1,W2,X1,X2,F1,bW,reduceCtorEq,Nat.reduceEqDiff,Nat.reduceAdd,Nat.reduceLT,Nat.reduceLeDiff,Nat.beq]
 ·have F1:(f ≥ t)=False:=eq_false c
  rw [if_neg c]
  have W3:IntKind.i64.wrap (t - f)=t - f:=ay (by omega)
  have W4:IntKind.i64.wrap (64 - (t - f))=64 - (t - f):=ay (by omega)
  have A:(18446744073709551615:Int)=((BitVec.allOnes 64).toNat:Int):=rfl
  have S0:(64 - (t - f)<0)=False:=eq_false (by omega)
  have S1:(f<0)=False:=eq_false (by omega)
  have S2:=QN (BitVec.allOnes 64) (s:=64 - (t - f)) (n:=(64 - (t - f)).toNat) (by omega)
  have S3:=ahl (BitVec.allOnes 64 >>> (64 - (t - f)).toNat) (s:=f) (n:=f.toNat) (by omega)
  rw [← A] at S2
  rw [ah adE rfl];simp only [UO];simp only [start,aO,aY,aK,aX,aH,aI,aN,aU,Nat.reduceAdd,Nat.reduceSub]
  simp only [W0,W1,W2,W3,W4,X1,X2,F1,S0,S1,S2,S3,bW,reduceCtorEq,Nat.reduceEqDiff,Nat.reduceAdd,Nat.reduceLT,Nat.reduceLeDiff,Nat.beq]
end Go.Proofs.YtdahanchdjadiaaDoor.V

namespace Go.Proofs.YtdahanchdjadiaaDoor.V
def VP (b:Bm):List PV:=[.int .i64 b.size,.list 1 (b.ws.map eW)]
def tz (w:Wd):Nat:=Lib.ctz 64 w.toNat
theorem aho {w:Wd}:cal env 79 [.int .u64 (w.toNat:Int)]=some [(.int .i64 (tz w:Nat),false)]:=by
 rw [BH ahe]
 have:=w.isLt
 have e:tzX [.int .u64 (w.toNat:Int)]=if (0:Int)≤(w.toNat:Int)∧(w.toNat:Int)<18446744073709551616 then some [(.int .i64 (Lib.ctz 64 (w.toNat:Int).toNat:Nat),false)] else none:=rfl
 rw [e,if_pos (by omega),Int.toNat_natCast]
 rfl
theorem aeW {b:Bm} {a:Int} {k:Nat} {w0:Wd} {ys0:List (List PV)} (hk:k≤100000)
  {st:St} (h:st.head [0,1,2,4,5,10,11,12] st.boxes.length=some ⟨[.pV,.pv (.dH (VP b) 0),.pv (.dH [.int .i64 a] 0),.any,.pv (.int .i64 (k:Nat)),.pv (eW w0),.any,.any,.any,.any,.pv (.list 1 (b.ws.map eW)),.pv (.int .i64 b.ws.length),.pv (.int .i64 (k:Nat)),.any,.any,.any,.any,.any,.any,.any,.any,.any,.any,.any,.any,.any,.any,.any,.any,.any,.any,.any,.any,.any,.any,.any,.any,.any,.any],[],ys0,some none⟩) :
  den env IW st=some (.normal,⟨[.pV,.pv (.dH (VP b) 0),.pv (.dH [.int .i64 a] 0),.any,.any,.any,.any,.any,.any,.any,.pv (.list 1 (b.ws.map eW)),.pv (.int .i64 b.ws.length),.pv (.int .i64 (k:Nat)),.any,.any,.any,.any,.any,.any,.any,.any,.any,.any,.any,.any,.any,.any,.any,.any,.any,.any,.any,.any,.any,.any,.any,.any,.any,.any],[],ys0++yI ((bitsOf w0).map (64 * k+·)),some none⟩):=by
 unfold IW
 refine FN (env:=env) (fun p:Wd × List (List PV)=>⟨[.pV,.pv (.dH (VP b) 0),.pv (.dH [.int .i64 a] 0),.any,.pv (.int .i64 (k:Nat)),.pv (eW p.1),.any,.any,.any,.any,.pv (.list 1 (b.ws.map eW)),.pv (.int .i64 b.ws.length),.pv (.int .i64 (k:Nat)),.any,.any,.any,.any,.any,.any,.any,.any,.any,.any,.any,.any,.any,.any,.any,.any,.any,.any,.any,.any,.any,.any,.any,.any,.any,.any],[],p.2,some none⟩)
  (fun p=>some (.normal,⟨[.pV,.pv (.dH (VP b) 0),.pv (.dH [.int .i64 a] 0),.any,.any,.any,.any,.any,.any,.any,.pv (.list 1 (b.ws.map eW)),.pv (.int .i64 b.ws.length),.pv (.int .i64 (k:Nat)),.any,.any,.any,.any,.any,.any,.any,.any,.any,.any,.any,.any,.any,.any,.any,.any,.any,.any,.any,.any,.any,.any,.any,.any,.any,.any],[],p.2++yI ((bitsOf p.1).map (64 * k+·)),some none⟩)) (fun _=>True) (fun p=>(bitsOf p.1).length) (w0,ys0) h trivial (fun _=>rfl) (fun _=>rfl) ?_
 rintro ⟨w,ys⟩ rb _ ih
 simp only [eW] at ih ⊢
 have B:=QO w 0
 have B0:((0:Wd).toNat:Int)=0:=rfl
 rw [B0] at B
 have B':((w.toNat:Int) != 0)=!decide (w=0):=by unfold bne;rw [B]
 by_cases c:w=0
 ·rw [decide_eq_true c] at B'
  subst c
  simp only [IV,B',U5,List.map_nil,bW,reduceCtorEq,Nat.reduceEqDiff,Nat.reduceAdd,Nat.reduceLT,Nat.reduceLeDiff,Nat.beq]
  simp only [yI,List.map_nil,List.append_nil]
  rfl
 ·rw [decide_eq_false c] at B'
  have e1:=aho (w:=w)
  have ht:=(QS c).1
  have W0:IntKind.i64.wrap ((k:Int) * 64)=64 * (k:Int):=by rw [ay (by omega)];omega
  have W1:IntKind.i64.wrap (64 * (k:Int)+((tz w:Nat):Int))=((64 * k+tz w:Nat):Int):=by unfold tz;rw [ay (by omega)];omega
  have W2:=ahm w 1
  have W3:=QM w (w - 1)
  have B1:((1:Wd).toNat:Int)=1:=rfl
  rw [B1] at W2
  have hc:=U6 c
  simp only [IV,B',e1,W0,W1,W2,W3,bW,reduceCtorEq,Nat.reduceEqDiff,Nat.reduceAdd,Nat.reduceLT,Nat.reduceLeDiff,Nat.beq]
  rw [ih (w &&& (w - 1),ys++[[.int .i64 ((64 * k+tz w:Nat):Int)]]) (by simp only;rw [hc,List.length_cons];omega) trivial _ rfl]
  rw [hc]
  simp only [yI,List.map_cons,List.append_assoc,List.cons_append,List.nil_append]
  rfl
theorem acj {b:Bm} {a:Int} (hb:b.ws.length≤64) (hs:0≤b.size∧b.size≤4096) (ha:-1000000≤a∧a≤1000000)
  {st:St} (h:st.head [0,1,2,10,11,12] st.boxes.length=some ⟨[.pV,.pv (.dH (VP b) 0),.pv (.dH [.int .i64 a] 0),.any,.any,.any,.any,.any,.any,.any,.pv (.list 1 (b.ws.map eW)),.pv (.int .i64 b.ws.length),.pv (.int .i64 (0:Nat)),.any,.any,.any,.any,.any,.any,.any,.any,.any,.any,.any,.any,.any,.any,.any,.any,.any,.any,.any,.any,.any,.any,.any,.any,.any,.any],[],[],some none⟩) :
  den env IY st=some (.normal,⟨[.any,.any,.any,.any,.any,.any,.any,.any,.any,.any,.any,.any,.any,.any,.any,.any,.any,.any,.any,.any,.any,.any,.any,.any,.any,.any,.any,.any,.any,.any,.any,.any,.any,.any,.any,.any,.any,.any,.any],[],yI (uU b.ws a b.size),some none⟩):=by
 unfold IY
 refine dw (env:=env) b.ws.length (fun k=>⟨[.pV,.pv (.dH (VP b) 0),.pv (.dH [.int .i64 a] 0),.any,.any,.any,.any,.any,.any,.any,.pv (.list 1 (b.ws.map eW)),.pv (.int .i64 b.ws.length),.pv (.int .i64 k),.any,.any,.any,.any,.any,.any,.any,.any,.any,.any,.any,.any,.any,.any,.any,.any,.any,.any,.any,.any,.any,.any,.any,.any,.any,.any],[],yI ((List.range (64 * k)).filter fun (i:Nat)=>bit b.ws i&&decide (a≤(i:Int)∧(i:Int)<b.size)),some none⟩)
  (fun _=>some (.normal,⟨[.any,.any,.any,.any,.any,.any,.any,.any,.any,.any,.any,.any,.any,.any,.any,.any,.any,.any,.any,.any,.any,.any,.any,.any,.any,.any,.any,.any,.any,.any,.any,.any,.any,.any,.any,.any,.any,.any,.any],[],yI (uU b.ws a b.size),some none⟩)) h (fun _=>rfl) (fun _=>rfl) ?_ ?_
 ·intro k rb hi ih
  have hi1:=dN hi (by unfold lim;omega)
  have F1:((k:Int)<(b.ws.length:Int))=True:=eq_true (by omega)
  have e1:=adI (k:=k) (a:=a) (b:=b.size) (by omega) ha (by omega)
  have W3:=QM b.ws[k] (tV k a b.size)
  rw [PG hi] at ih
  unfold eW at e1
  simp only [IX,F1,e1,W3,VP,eW,aj hi,List.getElem?_map,List.getElem?_eq_getElem hi,bW,reduceCtorEq,Nat.reduceEqDiff,Nat.reduceAdd,Nat.reduceLT,Nat.reduceLeDiff,Nat.beq]
  rw [aeW (b:=b) (a:=a) (k:=k) (w0:=b.ws[k] &&& tV k a b.size) (ys0:=yI ((List.range (64 * k)).filter fun (i:Nat)=>bit b.ws i&&decide (a≤(i:Int)∧(i:Int)<b.size))) (by omega)]
  rotate_left
  ·rfl
  simp only [bW,reduceCtorEq,Nat.reduceEqDiff,Nat.reduceAdd,Nat.reduceLT,Nat.reduceLeDiff,Nat.beq]
  rw [ih _ (by simp only [hi1];simp only [yI,List.map_append];rfl)]
 ·intro rb
  simp only [IX,Int.lt_irrefl,bW,reduceCtorEq,Nat.reduceEqDiff,Nat.reduceAdd,Nat.reduceLT,Nat.reduceLeDiff,Nat.beq]
  rfl
theorem aeX {b:Bm} {a:Int} (ha:-1000000≤a∧a≤1000000):iter env 77 [.dH (VP b) 0,.dH [.int .i64 a] 0] none=some (yI (if okB b then uU b.ws a b.size else [])):=by
 have P:part (VP b) 0 (some 2)=some (qL b):=rfl
 have e1:=QU (b:=b)
 rw [vZ ahd rfl rfl]
 simp only [YB,Dz,aO,aY,aK,aX,aH,aI,aN,aU,Nat.reduceAdd,Nat.reduceSub]
 cases c:okB b with
 |false =>
  rw [nH c] at e1
  have Z:((3:Int) != 0)=true:=rfl
  simp only [P,e1,Z,wG,bW,reduceCtorEq,Nat.reduceEqDiff,Nat.reduceAdd,Nat.reduceLT,Nat.reduceLeDiff,Nat.beq]
  rfl
 |true =>
  rw [uV c] at e1
  have Z:((0:Int) != 0)=false:=rfl
  obtain ⟨h1,h2,h3,_⟩:=iH c
  have P2:part (VP b) 1 none=some (.list 1 (b.ws.map eW)):=rfl
  simp only [P,P2,e1,Z,List.length_map,wG,bW,reduceCtorEq,Nat.reduceEqDiff,Nat.reduceAdd,Nat.reduceLT,Nat.reduceLeDiff,Nat.beq]
  rw [acj (a:=a) h3 ⟨h1,h2⟩ ha]
  rotate_left
  ·rfl
  ·rfl
theorem ahp {b:Bm} {a:Int}:cal env 62 [qL b,.int .i64 a]=some [(.func 77 [.dH (VP b) 0,.dH [.int .i64 a] 0],false)]:=by
 unfold qL VP
 rw [ah ag3 rfl];simp only [Yq];simp only [start,aO,aY,aK,aX,aH,aI,aN,aU,Nat.reduceAdd,Nat.reduceSub]
 simp only [bW,reduceCtorEq,Nat.reduceEqDiff,Nat.reduceAdd,Nat.reduceLT,Nat.reduceLeDiff,Nat.beq]
end Go.Proofs.YtdahanchdjadiaaDoor.V

namespace Go.Proofs.YtdahanchdjadiaaDoor
def look:List (Nat × AV)→Nat→AV
 |[],_=>.any
 |(j,v) :: l,i=>dK (Nat.beq i j) v (look l i)
def sl (n:Nat) (l:List (Nat × AV)):List AV:=(List.range n).map (look l)
def mapA (f:AV→AV):List (Nat × AV)→List (Nat × AV)
 |[]=>[]
 |(j,v) :: l=>(j,f v) :: mapA f l
def keepA (l:List (Nat × AV)):List Nat→List (Nat × AV)
 |[]=>[]
 |k :: ks=>(k,look l k) :: keepA l ks
def AQ:Nat→List PV→List (Nat × AV)
 |_,[]=>[]
 |k,v :: l=>(k,.pv v) :: AQ (k+1) l
def LZ (nb:Nat):List (Nat × AV)→Bool
 |[]=>true
 |(_,v) :: l=>AV.low nb v&&LZ nb l
def PK (n:Nat):List Nat→Bool
 |[]=>true
 |k :: ks=>decide (k<n)&&PK n ks
theorem YV (i:Nat) (v:AV) (l:List (Nat × AV)):look ((i,v) :: l) i=v:=by
 show dK (Nat.beq i i) v _=v
 rw [Nat.beq_refl];rfl
theorem look_nil (i:Nat):look [] i=.any:=(rfl)
theorem aeY {n i:Nat} {l:List (Nat × AV)} (h':i<n):(sl n l).getD i .any=look l i:=by
 simp [sl,List.getD_eq_getElem?_getD,h']
theorem acn {n i:Nat} {l:List (Nat × AV)} (h':i<n):(sl n l)[i]?=some (look l i):=by
 simp [sl,h']
theorem nI (l:List (Nat × AV)) (i j:Nat) (v:AV):look ((j,v) :: l) i=if i=j then v else look l i:=by
 show dK (Nat.beq i j) v _=_
 by_cases h:i=j
 ·subst h;rw [Nat.beq_refl,if_pos rfl];rfl
 ·rw [if_neg h]
  have:Nat.beq i j=false:=by
   cases e:Nat.beq i j with
   |false=>rfl
   |true=>exact absurd (Nat.eq_of_beq_eq_true e) h
  rw [this];rfl
theorem aeZ (n i:Nat) (v:AV) (l:List (Nat × AV)):(sl n l).set i v=sl n ((i,v) :: l):=by
 apply List.ext_getElem (by simp [sl])
 intro k h1 h2
 have hk:k<n:=by simpa [sl] using h2
 simp only [sl,List.getElem_set,List.getElem_map,List.getElem_range,nI]
 by_cases h:i=k
 ·subst h;simp
 ·rw [if_neg h,if_neg (fun e=>h e.symm)]
theorem U7 {i j:Nat} {v:AV} {l:List (Nat × AV)} (h:(i==j)=false):look ((j,v) :: l) i=look l i:=by
 rw [nI,if_neg (by simpa using h)]
theorem FY (f:AV→AV) (hf:f .any=.any):∀ (l:List (Nat × AV)) (i:Nat),look (mapA f l) i=f (look l i)
 |[],i=>hf.symm
 |(j,v) :: l,i=>by
  show look ((j,f v) :: mapA f l) i=_
  rw [nI,nI,FY f hf l i]
  split<;>rfl
theorem Ja {f:AV→AV} (hf:f .any=.any) (n:Nat) (l:List (Nat × AV)):(sl n l).map f=sl n (mapA f l):=by
 unfold sl
 rw [List.map_map]
 apply List.map_congr_left
 intro i _
 exact (FY f hf l i).symm
theorem aco (n d:Nat) (l:List (Nat × AV)):(sl n l).map (AV.kill d)=sl n (mapA (AV.kill d) l):=Ja rfl n l
theorem YW (n d:Nat) (l:List (Nat × AV)):(sl n l).map (AV.cu d)=sl n (mapA (AV.cu d) l):=Ja rfl n l
theorem YX (n d y:Nat) (l:List (Nat × AV)):(sl n l).map (AV.iw d y)=sl n (mapA (AV.iw d y) l):=Ja rfl n l
theorem YZ (n:Nat) (l:List (Nat × AV)):(sl n l).map AV.froze=sl n (mapA AV.froze l):=Ja rfl n l
theorem Y0 (f:AV→AV):mapA f []=[]:=(rfl)
theorem U8 (f:AV→AV) (j:Nat) (v:AV) (l:List (Nat × AV)):mapA f ((j,v) :: l)=(j,f v) :: mapA f l:=(rfl)
theorem U9 (l:List (Nat × AV)):keepA l []=[]:=(rfl)
theorem xB (l:List (Nat × AV)) (k:Nat) (ks:List Nat):keepA l (k :: ks)=(k,look l k) :: keepA l ks:=(rfl)
theorem Y1 (nb:Nat):LZ nb []=true:=(rfl)
theorem FZ (nb k:Nat) (v:AV) (l:List (Nat × AV)):LZ nb ((k,v) :: l)=(AV.low nb v&&LZ nb l):=(rfl)
theorem Y2 (n:Nat):PK n []=true:=(rfl)
theorem Gf (n k:Nat) (l:List Nat):PK n (k :: l)=(decide (k<n)&&PK n l):=(rfl)
theorem Va (k:Nat):AQ k []=[]:=(rfl)
theorem DK (k:Nat) (v:PV) (l:List PV):AQ k (v :: l)=(k,.pv v) :: AQ (k+1) l:=(rfl)
theorem xC (l:List (Nat × AV)):∀ (ks:List Nat) (i:Nat),look (keepA l ks) i=if ks.contains i then look l i else .any
 |[],i=>rfl
 |k :: ks,i=>by
  rw [xB,nI,xC l ks i,List.contains_cons]
  by_cases h:i=k
  ·subst h;simp
  ·have:(i==k)=false:=by simpa using h
   rw [if_neg h,this,Bool.false_or]
theorem L6 (nb n:Nat) (l:List (Nat × AV)):∀ ks:List Nat,PK n ks=true→(LZ nb (keepA l ks)=true ↔ ∀ k∈ks,(look l k).low nb=true)
 |[],_=>by simp [keepA,LZ]
 |k :: ks,h=>by
  rw [Gf,Bool.and_eq_true] at h
  rw [xB,FZ,Bool.and_eq_true,L6 nb n l ks h.2]
  simp
theorem QV {n nb:Nat} {l:List (Nat × AV)} {keep:List Nat} {bx:List Box} {ys:List (List PV)} {sp:Option (Option Nat)} (h:PK n keep=true) (hb:nb≤bx.length) (hl:LZ nb (keepA l keep)=true) :
  St.head ⟨sl n l,bx,ys,sp⟩ keep nb=some ⟨sl n (keepA l keep),bx.take nb,ys,sp⟩:=by
 have e:((sl n l).zipIdx.map fun (v,i)=>if keep.contains i then v else AV.any)=sl n (keepA l keep):=by
  apply List.ext_getElem (by simp [sl])
  intro i h1 h2
  simp only [sl,List.getElem_map,List.getElem_zipIdx,List.getElem_range,xC,Nat.zero_add]
 unfold St.head
 simp only
 rw [e,if_pos]
 rw [Bool.and_eq_true,decide_eq_true_eq]
 refine ⟨?_,hb⟩
 rw [List.all_eq_true]
 intro v hv
 unfold sl at hv
 obtain ⟨i,hi,rfl⟩:=List.mem_map.1 hv
 rw [xC]
 split
 ·rename_i hc
  exact (L6 nb n l keep h).1 hl i (by simpa using hc)
 ·rfl
theorem Y3 {n nb:Nat} {e:Ex} {l:List (Nat × AV)} {keep:List Nat} {bx:List Box} {ys:List (List PV)} {sp:Option (Option Nat)} (h:PK n keep=true) (hb:nb≤bx.length) (hl:LZ nb (keepA l keep)=true) :
  lX keep nb (e,⟨sl n l,bx,ys,sp⟩)=some (e,⟨sl n (keepA l keep),bx.take nb,ys,sp⟩):=by
 unfold lX
 simp only
 rw [QV h hb hl]
 rfl
theorem DL:∀ (l:List PV) (k i:Nat),look (AQ k l) i=if k≤i then ((l[i - k]?).map AV.pv).getD .any else .any:=by
 intro l
 induction l with
 |nil=>intro k i;simp [AQ,look]
 |cons v l ih =>
  intro k i
  rw [DK,nI,ih]
  by_cases h1:i=k
  ·subst h1;simp
  ·rw [if_neg h1]
   by_cases h2:k≤i
   ·rw [if_pos (by omega),if_pos h2,show i - k=(i - (k+1))+1 by omega,List.getElem?_cons_succ]
   ·rw [if_neg (by omega),if_neg h2]
theorem Vb {n:Nat} {x:kF} {args:List PV} (hn:args.length+1≤n):Oz n x args=⟨sl n ((0,x.av) :: AQ 1 args),x.boxes,[],none⟩:=by
 unfold Oz
 congr 1
 apply List.ext_getElem (by simp [sl];omega)
 intro i h1 h2
 simp only [sl,List.getElem_map,List.getElem_range,nI,DL]
 cases i with
 |zero=>simp
 |succ i =>
  rw [List.getElem_cons_succ,if_neg (by omega),if_pos (by omega),show i+1 - 1=i by omega]
  by_cases hi:i<args.length
  ·rw [List.getElem_append_left (by simpa using hi)]
   simp [hi]
  ·rw [List.getElem_append_right (by simp;omega)]
   simp [hi]
theorem Y4 {n:Nat} {args:List PV} (hn:args.length≤n):start n args=⟨sl n (AQ 0 args),[],[],none⟩:=by
 have key:=DL
 unfold start
 congr 1
 apply List.ext_getElem (by simp [sl];omega)
 intro i h1 h2
 simp only [sl,List.getElem_map,List.getElem_range,key,Nat.zero_le,if_true,Nat.sub_zero]
 by_cases hi:i<args.length
 ·rw [List.getElem_append_left (by simpa using hi)]
  simp [hi]
 ·rw [List.getElem_append_right (by simp;omega)]
  simp [hi]
theorem ae0 (nb:Nat) (v:PV):AV.low nb (.pv v)=true:=(rfl)
theorem acp (nb:Nat):AV.low nb .any=true:=(rfl)
theorem acr (nb:Nat):AV.low nb .pV=true:=(rfl)
theorem acs (nb sz:Nat) (es:List PV):AV.low nb (.row sz es)=true:=(rfl)
theorem Y5 (nb o j:Nat):AV.low nb (.aP o j)=decide (o<nb):=(rfl)
theorem Y6 (nb t off len:Nat):AV.low nb (.ref (.slot t) off len)=true:=(rfl)
theorem Y7 (nb o j off len:Nat):AV.low nb (.ref (.cell o j) off len)=decide (o<nb):=(rfl)
theorem Y8 (nb t i j:Nat):AV.low nb (.oh (.slot t) i j)=true:=(rfl)
theorem Y9 (nb o q i j:Nat):AV.low nb (.oh (.cell o q) i j)=decide (o<nb):=(rfl)
theorem ae1 (nb f:Nat) (caps:List AV):AV.low nb (.fn f caps)=caps.all fun c=>match c with
  |.pv _=>true
  |.aP o _=>o<nb
  |_=>false:=(rfl)
def aG:=And.intro @YV (And.intro @U7 (And.intro @look_nil (And.intro @aeY (And.intro @acn (And.intro @aeZ (And.intro @aco (And.intro (And.intro @YW @YX) (And.intro @YZ (And.intro @Y0 (And.intro @U8 (And.intro @U9 (And.intro @xB (And.intro @Y1 (And.intro @FZ (And.intro @Y2 (And.intro @Gf (And.intro @Va (And.intro @DK (And.intro @QV (And.intro @Y3 (And.intro @Y4 (And.intro @Vb (And.intro @ae0 (And.intro @acp (And.intro @acr (And.intro @acs (And.intro @Y5 (And.intro @Y6 (And.intro @Y7 (And.intro @Y8 (And.intro @Y9 (@ae1))))))))))))))))))))))))))))))))
def ak:=And.intro @aG (And.intro @bY (And.intro @YL @ace))
end Go.Proofs.YtdahanchdjadiaaDoor

namespace Go.Proofs.YtdahanchdjadiaaDoor.V
theorem L8:qL ⟨0,[]⟩=.agg [.int .i64 0,.list 1 []]:=rfl
def JG (x y:Wd):Wd:=x ||| y
end Go.Proofs.YtdahanchdjadiaaDoor.V

namespace Go.Proofs.YtdahanchdjadiaaDoor.V
theorem acu {n:Int} (h:0≤n):((jf n).toNat:Int)=jf n:=by unfold jf;omega
def newE (n:Int):Int:=if n<0∨n > 4096 then 2 else 0
def qY (n:Int):Bm:=if n<0∨n > 4096 then ⟨0,[]⟩ else ⟨n,List.replicate (jf n).toNat 0⟩
theorem adJ {n:Int}:cal env 29 [.int .i64 n]=some [(qL (qY n),false),(.int .i64 (newE n),false)]:=by
 have hz:=L8
 unfold newE qY
 by_cases c0:n<0
 ·rw [if_pos (.inl c0),if_pos (.inl c0),hz]
  have F0:(n<0)=True:=eq_true c0
  rw [ah YH rfl];simp only [Po,aG,Nat.reduceBEq,Nat.reduceLeDiff,Nat.reduceAdd,List.length_cons,List.length_nil]
  simp only [F0,ak,Nat.reduceMul,Nat.reduceBEq,Nat.reduceLT,Nat.reduceLeDiff,reduceCtorEq,Nat.reduceEqDiff,Nat.reduceAdd,Nat.beq]
 ·have F0:(n<0)=False:=eq_false c0
  by_cases c1:n > 4096
  ·rw [if_pos (.inr c1),if_pos (.inr c1),hz]
   have F1:(n > 4096)=True:=eq_true c1
   rw [ah YH rfl];simp only [Po,aG,Nat.reduceBEq,Nat.reduceLeDiff,Nat.reduceAdd,List.length_cons,List.length_nil]
   simp only [F0,F1,ak,Nat.reduceMul,Nat.reduceBEq,Nat.reduceLT,Nat.reduceLeDiff,reduceCtorEq,Nat.reduceEqDiff,Nat.reduceAdd,Nat.beq]
  ·have F1:(n > 4096)=False:=eq_false c1
   rw [if_neg (by omega),if_neg (by omega)]
   have e1:=adH (n:=n) (by omega)
   have hw:0≤jf n∧jf n≤64:=by unfold jf;omega
   have F3:(0≤jf n)=True:=eq_true hw.1
   have F4:(jf n≤(lim:Int))=True:=eq_true (by unfold lim;omega)
   have F5:(jf n≤jf n)=True:=eq_true (Int.le_refl _)
   have z0:eW 0=.int .u64 0:=rfl
   unfold qL
   rw [List.map_replicate,z0]
   rw [ah YH rfl];simp only [Po,aG,Nat.reduceBEq,Nat.reduceLeDiff,Nat.reduceAdd,List.length_cons,List.length_nil]
   simp only [F0,F1,e1,F3,F4,F5,ak,Nat.reduceMul,Nat.reduceBEq,Nat.reduceLT,Nat.reduceLeDiff,reduceCtorEq,Nat.reduceEqDiff,Nat.reduceAdd,Nat.beq]
def qZ (size:Int) (e:bD):Bool:=decide (0≤e.start)&&decide (0≤e.count)&&decide (e.start≤size)&&decide (e.count≤size - e.start)
theorem lG {size:Int} {e:bD}:qZ size e=true ↔ 0≤e.start∧0≤e.count∧e.start≤size∧e.count≤size - e.start:=by
 unfold qZ;simp [and_assoc]
theorem ahq {size:Int} {e:bD} (hs:0≤size∧size≤4096):cal env 80 [aW e,.int .i64 size]=some [(.bool (qZ size e),false)]:=by
 unfold qZ aW
 by_cases c0:0≤e.start
 ·have F0:(e.start ≥ 0)=True:=eq_true c0
  rw [decide_eq_true c0]
  by_cases c1:0≤e.count
  ·have F1:(e.count ≥ 0)=True:=eq_true c1
   rw [decide_eq_true c1]
   by_cases c2:e.start≤size
   ·have F2:(e.start≤size)=True:=eq_true c2
    have W:IntKind.i64.wrap (size - e.start)=size - e.start:=ay (by omega)
    rw [decide_eq_true c2]
    rw [ah QI rfl];simp only [LJ,aG,Nat.reduceBEq,Nat.reduceLeDiff,Nat.reduceAdd,List.length_cons,List.length_nil]
    simp only [F0,F1,F2,W,ak,Nat.reduceMul,Nat.reduceBEq,Nat.reduceLT,Nat.reduceLeDiff,reduceCtorEq,Nat.reduceEqDiff,Nat.reduceAdd,Nat.beq]
   ·have F2:(e.start≤size)=False:=eq_false c2
    rw [decide_eq_false c2]
    rw [ah QI rfl];simp only [LJ,aG,Nat.reduceBEq,Nat.reduceLeDiff,Nat.reduceAdd,List.length_cons,List.length_nil]
    simp only [F0,F1,F2,ak,Nat.reduceMul,Nat.reduceBEq,Nat.reduceLT,Nat.reduceLeDiff,reduceCtorEq,Nat.reduceEqDiff,Nat.reduceAdd,Nat.beq]
  ·have F1:(e.count ≥ 0)=False:=eq_false c1
   rw [decide_eq_false c1]
   rw [ah QI rfl];simp only [LJ,aG,Nat.reduceBEq,Nat.reduceLeDiff,Nat.reduceAdd,List.length_cons,List.length_nil]
   simp only [F0,F1,ak,Nat.reduceMul,Nat.reduceBEq,Nat.reduceLT,Nat.reduceLeDiff,reduceCtorEq,Nat.reduceEqDiff,Nat.reduceAdd,Nat.beq]
 ·have F0:(e.start ≥ 0)=False:=eq_false c0
  rw [decide_eq_false c0]
  rw [ah QI rfl];simp only [LJ,aG,Nat.reduceBEq,Nat.reduceLeDiff,Nat.reduceAdd,List.length_cons,List.length_nil]
  simp only [F0,ak,Nat.reduceMul,Nat.reduceBEq,Nat.reduceLT,Nat.reduceLeDiff,reduceCtorEq,Nat.reduceEqDiff,Nat.reduceAdd,Nat.beq]
def Za (f:Wd→Wd→Wd) (ws:List Wd) (e:bD):List Wd:=ws.mapIdx fun k w=>f w (tV k e.start (e.start+e.count))
theorem QW (f:Wd→Wd→Wd) (ws:List Wd) (e:bD):(Za f ws e).length=ws.length:=by simp [Za]
def BR (b:Bm) (e:bD):Int:=if okB b=false then 3 else if qZ b.size e=false then 2 else 0
def xQ (f:Wd→Wd→Wd) (b:Bm) (e:bD):Bm:=if BR b e=0 then ⟨b.size,Za f b.ws e⟩ else ⟨0,[]⟩
def zQ (a b:List Wd) (i:Nat):List PV:=(a.take i++b.drop i).map eW
theorem Zb {a b:List Wd} (h:a.length=b.length) (i:Nat):(zQ a b i).length=b.length:=by simp [zQ];omega
theorem Zd {a b:List Wd} (h:a.length=b.length) {i:Nat} (hi:i<b.length):(zQ a b i)[i]?=some (eW b[i]):=by
 unfold zQ
 rw [List.getElem?_map,List.getElem?_append_right (by simp;omega),List.length_take,Nat.min_eq_left (by omega),Nat.sub_self,List.getElem?_drop,Nat.add_zero,List.getElem?_eq_getElem hi]
 rfl
theorem Ze {a b:List Wd} (h:a.length=b.length) {i:Nat} (hi:i<a.length):(zQ a b i).set i (eW a[i])=zQ a b (i+1):=by
 unfold zQ
 rw [← List.map_set,List.set_append_right _ _ (by simp;omega),List.length_take,Nat.min_eq_left (by omega),Nat.sub_self,List.take_succ_eq_append_getElem hi,List.append_assoc]
 congr 2
 rw [List.drop_eq_getElem_cons (show i<b.length by omega)]
 rfl
theorem Vd (a b:List Wd):zQ a b 0=b.map eW:=by simp [zQ]
theorem Zf {a b:List Wd} (h:a.length=b.length):zQ a b b.length=a.map eW:=by
 unfold zQ
 rw [List.take_of_length_le (by omega),List.drop_of_length_le (Nat.le_refl _),List.append_nil]
theorem acv {f:Wd→Wd→Wd} {ws:List Wd} {e:bD} {i:Nat} (h:i<(Za f ws e).length) (h2:i<ws.length):(Za f ws e)[i]=f ws[i] (tV i e.start (e.start+e.count)):=by
 simp [Za]
theorem ahr {es:List PV} (hl:es.length≤lim):cal env 81 [.list 1 es]=some [(.list 1 es,true)]:=(BH ahf).trans (if_pos ⟨rfl,hl⟩)
set_option maxRecDepth 20000 in
theorem ae2 {b:Bm} {e:bD} {f:Wd→Wd→Wd} {gf:Nat} (hf:∀ x y,cal env gf [eW x,eW y]=some [(eW (f x y),false)]) (hm:b.ws.length≤64) (he:0≤e.start∧e.start≤4096∧0≤e.count∧e.count≤4096) {st:St} (h:st.head [3,4,5,6,9,25,27,28] st.boxes.length=some ⟨sl 55 [(3,.aP 0 0),(4,.aP 1 0),(5,.aP 2 0),(6,.aP 3 0),(9,.row 1 (zQ (Za f b.ws e) b.ws ((0:Nat)))),(25,.any),(27,.pv (.int .i64 b.ws.length)),(28,.pv (.int .i64 (0:Nat)))],[⟨false,[.pv (.func gf [])]⟩,⟨false,[.pv (.int .i64 b.size),.pv (.list 1 (b.ws.map eW))]⟩,⟨false,[.pv (.int .i64 e.start),.pv (.int .i64 e.count)]⟩,⟨false,[.pv (.int .i64 0),.row 1 []]⟩],[],none⟩) :
  den env IL st=some (.normal,⟨sl 55 [(4,.aP 1 0),(6,.aP 3 0),(7,.any),(9,.row 1 ((Za f b.ws e).map eW))],[⟨false,[.pv (.func gf [])]⟩,⟨false,[.pv (.int .i64 b.size),.pv (.list 1 (b.ws.map eW))]⟩,⟨false,[.pv (.int .i64 e.start),.pv (.int .i64 e.count)]⟩,⟨false,[.pv (.int .i64 0),.row 1 []]⟩],[],none⟩):=by
 unfold IL
 refine dw (env:=env) (nb:=4) (b.ws.length) (fun i=>⟨sl 55 [(3,.aP 0 0),(4,.aP 1 0),(5,.aP 2 0),(6,.aP 3 0),(9,.row 1 (zQ (Za f b.ws e) b.ws (i))),(25,.any),(27,.pv (.int .i64 b.ws.length)),(28,.pv (.int .i64 i))],[⟨false,[.pv (.func gf [])]⟩,⟨false,[.pv (.int .i64 b.size),.pv (.list 1 (b.ws.map eW))]⟩,⟨false,[.pv (.int .i64 e.start),.pv (.int .i64 e.count)]⟩,⟨false,[.pv (.int .i64 0),.row 1 []]⟩],[],none⟩) (fun i=>some (.normal,⟨sl 55 [(4,.aP 1 0),(6,.aP 3 0),(7,.any),(9,.row 1 ((Za f b.ws e).map eW))],[⟨false,[.pv (.func gf [])]⟩,⟨false,[.pv (.int .i64 b.size),.pv (.list 1 (b.ws.map eW))]⟩,⟨false,[.pv (.int .i64 e.start),.pv (.int .i64 e.count)]⟩,⟨false,[.pv (.int .i64 0),.row 1 []]⟩],[],none⟩)) h (fun _=>rfl) (fun _=>by simp only [aG,bY,Nat.reduceMul,Nat.reduceBEq,Nat.reduceLT,Nat.reduceLeDiff,Nat.reduceAdd,decide_true,Bool.and_self,Bool.true_and]) ?_ ?_
 ·intro i rb hi ih
  have hi1:=dN hi (by unfold lim;omega)
  have F1:((i:Int)<(b.ws.length:Int))=True:=eq_true (by omega)
  have hcl:=QW f b.ws e
  have f1:=Zb hcl i
  have f2:=Zd hcl hi
  have f3:=Ze hcl (i:=i) (by omega)
  have e1:=hf b.ws[i] (tV i e.start (e.start+e.count))
  rw [acv (by omega) hi] at f3
  have W:IntKind.i64.wrap (e.start+e.count)=e.start+e.count:=ay (by omega)
  have e2:=adI (k:=i) (a:=e.start) (b:=e.start+e.count) (by omega) (by omega) (by omega)
  unfold eW at e1 e2 f2 f3 ih ⊢
  simp only [IK,F1,W,e1,e2,f1,f2,f3,aj hi,Option.map_some,List.length_map,ak,Nat.reduceMul,Nat.reduceBEq,Nat.reduceLT,Nat.reduceLeDiff,reduceCtorEq,Nat.reduceEqDiff,Nat.reduceAdd,Nat.beq]
  rw [ih _ (by simp only [hi1,ak,Nat.reduceMul,Nat.reduceBEq,Nat.reduceLT,Nat.reduceLeDiff,reduceCtorEq,Nat.reduceEqDiff,Nat.reduceAdd,Nat.beq]<;>rfl)]
 ·intro rb
  rw [Zf (QW f b.ws e)]
  simp only [IK,Int.lt_irrefl,ak,Nat.reduceMul,Nat.reduceBEq,Nat.reduceLT,Nat.reduceLeDiff,reduceCtorEq,Nat.reduceEqDiff,Nat.reduceAdd,Nat.beq]
theorem adK {b:Bm} {e:bD} {f:Wd→Wd→Wd} {gf:Nat} (hf:∀ x y,cal env gf [eW x,eW y]=some [(eW (f x y),false)]) :
  cal env 66 [.agg [.func gf []],qL b,aW e]=some [(qL (xQ f b e),false),(.int .i64 (BR b e),false)]:=by
 have P:∀ b:Bm,part [PV.int .i64 b.size,.list 1 (b.ws.map eW)] 0 (some 2)=some (qL b):=fun _=>rfl
 have e1:=QU (b:=b)
 have Z0:((0:Int) != 0)=false:=rfl
 have Z3:((3:Int) != 0)=true:=rfl
 have hz:=L8
 have eA:qL b=.agg [.int .i64 b.size,.list 1 (b.ws.map eW)]:=rfl
 have eX:aW e=.agg [.int .i64 e.start,.int .i64 e.count]:=rfl
 unfold xQ
 cases c1:okB b with
 |false =>
  have hE:BR b e=3:=by unfold BR;rw [if_pos c1]
  rw [hE,if_neg (by decide),hz]
  rw [nH c1] at e1
  rw [eA] at e1 ⊢;rw [eX]
  rw [ah YK rfl];simp only [Py,aG,Nat.reduceBEq,Nat.reduceLeDiff,Nat.reduceAdd,List.length_cons,List.length_nil]
  simp only [e1,Z3,vX,FT,Lu,ak,Nat.reduceMul,Nat.reduceBEq,Nat.reduceLT,Nat.reduceLeDiff,reduceCtorEq,Nat.reduceEqDiff,Nat.reduceAdd,Nat.beq]
 |true =>
  rw [uV c1] at e1
  have hsz:=iH c1
  have e2:=ahq (size:=b.size) (e:=e) ⟨hsz.1,hsz.2.1⟩
  cases c2:qZ b.size e with
  |false =>
   have hE:BR b e=2:=by unfold BR;rw [if_neg (by rw [c1];decide),if_pos c2]
   rw [hE,if_neg (by decide),hz]
   rw [c2] at e2
   rw [eA] at e1 ⊢;rw [eX] at e2 ⊢
   rw [ah YK rfl];simp only [Py,aG,Nat.reduceBEq,Nat.reduceLeDiff,Nat.reduceAdd,List.length_cons,List.length_nil]
   simp only [e1,e2,Z0,ak,Nat.reduceMul,Nat.reduceBEq,Nat.reduceLT,Nat.reduceLeDiff,reduceCtorEq,Nat.reduceEqDiff,Nat.reduceAdd,Nat.beq]
  |true =>
   have hE:BR b e=0:=by unfold BR;rw [if_neg (by rw [c1];decide),if_neg (by rw [c2];decide)]
   rw [hE,if_pos rfl]
   rw [c2] at e2
   have hfi:=lG.1 c2
   have k1:=ahr (es:=b.ws.map eW) (by rw [List.length_map];unfold lim;omega)
   rw [eA] at e1 ⊢;rw [eX] at e2 ⊢
   rw [ah YK rfl];simp only [Py,aG,Nat.reduceBEq,Nat.reduceLeDiff,Nat.reduceAdd,List.length_cons,List.length_nil]
   simp only [e1,e2,k1,Z0,List.length_map,ak,Nat.reduceMul,Nat.reduceBEq,Nat.reduceLT,Nat.reduceLeDiff,reduceCtorEq,Nat.reduceEqDiff,Nat.reduceAdd,Nat.beq]
   have q1:b.ws.length≤64:=by omega
   have q2:0≤e.start∧e.start≤4096∧0≤e.count∧e.count≤4096:=by omega
   rw [ae2 hf q1 q2]
   rotate_left
   ·rw [Vd]
    simp only [aG,bY,Nat.reduceMul,Nat.reduceBEq,Nat.reduceLT,Nat.reduceLeDiff,Nat.reduceAdd,decide_true,Bool.and_self,Bool.true_and]<;>rfl
   ·simp only [e1,e2,k1,Z0,List.length_map,ak,Nat.reduceMul,Nat.reduceBEq,Nat.reduceLT,Nat.reduceLeDiff,reduceCtorEq,Nat.reduceEqDiff,Nat.reduceAdd,Nat.beq]
    rfl
theorem ahs (x y:Wd):cal env 65 [eW x,eW y]=some [(eW (x ||| y),false)]:=by
 have W:=ai4 x y
 unfold eW
 rw [ah ag4 rfl];simp only [Yr];simp only [start,aO,aY,aK,aX,aH,aI,aN,aU,Nat.reduceAdd,Nat.reduceSub]
 simp only [W,bW,reduceCtorEq,Nat.reduceEqDiff,Nat.reduceAdd,Nat.reduceLT,Nat.reduceLeDiff,Nat.beq]
theorem aht (x y:Wd):cal env 67 [eW x,eW y]=some [(eW (x &&& ~~~y),false)]:=by
 have W:=YS x y
 unfold eW
 rw [ah ag5 rfl];simp only [Yt];simp only [start,aO,aY,aK,aX,aH,aI,aN,aU,Nat.reduceAdd,Nat.reduceSub]
 simp only [W,bW,reduceCtorEq,Nat.reduceEqDiff,Nat.reduceAdd,Nat.reduceLT,Nat.reduceLeDiff,Nat.beq]
def clW (x y:Wd):Wd:=x &&& ~~~y
--+
theorem adL {b:Bm} {e:bD}:cal env 42 [qL b,aW e]=some [(qL (xQ JG b e),false),(.int .i64 (BR b e),false)]:=by
 have e1:=adK (b:=b) (e:=e) (f:=JG) (gf:=65) ahs
 have eA:∀ a:Bm,qL a=.agg [.int .i64 a.size,.list 1 (a.ws.map eW)]:=fun _=>rfl
 have eX:aW e=.agg [.int .i64 e.start,.int .i64 e.count]:=rfl
 rw [eA,eA,eX] at e1 ⊢
 rw [ah agR rfl];simp only [Yh];simp only [start,aO,aY,aK,aX,aH,aI,aN,aU,Nat.reduceAdd,Nat.reduceSub]
 simp only [e1,bW,reduceCtorEq,Nat.reduceEqDiff,Nat.reduceAdd,Nat.reduceLT,Nat.reduceLeDiff,Nat.beq]
--+
theorem ahu {b:Bm} {e:bD}:cal env 45 [qL b,aW e]=some [(qL (xQ clW b e),false),(.int .i64 (BR b e),false)]:=by
 have e1:=adK (b:=b) (e:=e) (f:=clW) (gf:=67) aht
 have eA:∀ a:Bm,qL a=.agg [.int .i64 a.size,.list 1 (a.ws.map eW)]:=fun _=>rfl
 have eX:aW e=.agg [.int .i64 e.start,.int .i64 e.count]:=rfl
 rw [eA,eA,eX] at e1 ⊢
 rw [ah agT rfl];simp only [Yi];simp only [start,aO,aY,aK,aX,aH,aI,aN,aU,Nat.reduceAdd,Nat.reduceSub]
 simp only [e1,bW,reduceCtorEq,Nat.reduceEqDiff,Nat.reduceAdd,Nat.reduceLT,Nat.reduceLeDiff,Nat.beq]
end Go.Proofs.YtdahanchdjadiaaDoor.V

namespace Go.Proofs.YtdahanchdjadiaaDoor.V
theorem sorted_at {l:List Nat} (hs:l.Pairwise (·<·)) {j i:Nat} (h:l[j]?=some i):j≤i∧∀ k∈l.take j,k<i:=by
 obtain ⟨hj,rfl⟩:=List.getElem?_eq_some_iff.1 h
 have hp:=List.pairwise_iff_getElem.1 hs
 refine ⟨?_,fun k hk=>?_⟩
 ·clear h
  induction j with
  |zero=>exact Nat.zero_le _
  |succ j ih =>
   have h1:=ih (by omega)
   have h2:=hp j (j+1) (by omega) hj (by omega)
   omega
 ·obtain ⟨m,hm,rfl⟩:=List.mem_iff_getElem.1 hk
  rw [List.getElem_take]
  simp only [List.length_take] at hm
  exact hp m j (by omega) hj (by omega)
def DN (b:Bm):List Nat:=if okB b then uU b.ws 0 b.size else []
theorem acw {b:Bm} {j i:Nat} (h:(DN b)[j]?=some i):i<4096∧j≤i∧∀ k∈(DN b).take j,k<i:=by
 unfold DN at h ⊢
 split at h
 ·rename_i c
  rw [if_pos c]
  have hs:(uU b.ws 0 b.size).Pairwise (·<·):=List.pairwise_lt_range.filter _
  have hm:=List.mem_of_getElem? h
  simp only [uU,List.mem_filter,List.mem_range,Bool.and_eq_true,decide_eq_true_eq] at hm
  have:=iH c
  exact ⟨by omega,sorted_at hs h⟩
 ·simp at h
def BU (b:Bm):List bD:=if okB b then I9 b else []
theorem ae3 (b:Bm):exts (DN b)=BU b:=by
 unfold DN BU I9 ext
 split
 ·rename_i c;rw [YU c 0 (by omega)]
 ·rfl
theorem ahv {b:Bm}:cal env 36 [qL b]=some [(.list 2 ((BU b).map aW),true)]:=by
 have e1:=ahp (b:=b) (a:=0)
 have eA:∀ a:Bm,qL a=.agg [.int .i64 a.size,.list 1 (a.ws.map eW)]:=fun _=>rfl
 rw [eA] at e1 ⊢
 rw [ah agP rfl];simp only [Yf];simp only [start,aO,aY,aK,aX,aH,aI,aN,aU,Nat.reduceAdd,Nat.reduceSub]
 simp only [e1,bW,reduceCtorEq,Nat.reduceEqDiff,Nat.reduceAdd,Nat.reduceLT,Nat.reduceLeDiff,Nat.beq]
 rw [BQ (env:=env) (fun j=>[⟨false,[.pv (.int .i64 b.size),.pv (.list 1 (b.ws.map eW))]⟩,⟨false,[.row 2 ((exts ((DN b).take j)).map aW)]⟩]) (xs:=yI (DN b)) rfl (by have:=aeX (b:=b) (a:=0) (by omega);exact this) rfl ?_]
 ·simp only [yI,List.length_map,List.take_length,wG,bW,reduceCtorEq,Nat.reduceEqDiff,Nat.reduceAdd,Nat.reduceLT,Nat.reduceLeDiff,Nat.beq]
  rw [ae3]
 ·intro j x hx sl0
  simp only [yI,List.getElem?_map,Option.map_eq_some_iff] at hx
  obtain ⟨i,hi,rfl⟩:=hx
  obtain ⟨k1,k2,k3⟩:=acw hi
  have hlim:lim=1073741824:=rfl
  have hj:=(List.getElem?_eq_some_iff.1 hi).1
  have ht:(DN b).take (j+1)=(DN b).take j++[i]:=by rw [List.take_add_one,hi];rfl
  have hlen:((DN b).take j).length=j:=by simp;omega
  rw [ht]
  rcases jQ ((DN b).take j) with h0|⟨p,q,h0⟩
  ·have F2:(((0:Nat):Int) > 0)=False:=eq_false (by omega)
   have F3:(0+1≤lim)=True:=eq_true (by omega)
   have e0:exts ([]:List Nat)=[]:=rfl
   have e2:exts [i]=[⟨i,1⟩]:=rfl
   refine ⟨?_,?_⟩
   rotate_left
   ·simp only [h0,List.nil_append,BI,BJ,F2,F3,e0,e2,aW,List.map_nil,List.map_cons,wG,bW,reduceCtorEq,Nat.reduceEqDiff,Nat.reduceAdd,Nat.reduceLT,Nat.reduceLeDiff,Nat.beq]
    rfl
  ·obtain ⟨pre,⟨s,c⟩,e0,h1,h2,h3,h4⟩:=zM _ p rfl q
   have hqi:q<i:=k3 q (by rw [h0];simp)
   simp only at h1 h2 h3
   have hpl:p.length+1=j:=by rw [h0] at hlen;simpa using hlen
   have F2:(((pre.length+1:Nat):Int) > 0)=True:=eq_true (by omega)
   have F3:=FW (n:=pre.length) (by omega)
   have F4:IntKind.i64.wrap (s+c)=s+c:=ay (by omega)
   have F5:IntKind.i64.wrap (c+1)=c+1:=ay (by omega)
   have F6:(pre.length+1+1≤lim)=True:=eq_true (by omega)
   have F7:index (.int .i64 (pre.length:Int)) (pre.length+1)=some pre.length:=aj (by omega)
   by_cases hc:s+c=(i:Int)
   ·have F8:(s+c==(i:Int))=true:=by simpa using hc
    have e2:exts (p++[q]++[i])=pre++[⟨s,c+1⟩]:=by rw [nG,e0,gV,if_pos hc]
    refine ⟨?_,?_⟩
    rotate_left
    ·simp only [h0,BI,BJ,e0,e2,F2,F3,F4,F5,F6,F7,F8,aW,List.map_append,List.map_cons,List.map_nil,wG,bW,reduceCtorEq,Nat.reduceEqDiff,Nat.reduceAdd,Nat.reduceLT,Nat.reduceLeDiff,Nat.beq]
     rfl
   ·have F8:(s+c==(i:Int))=false:=by simpa using hc
    have e2:exts (p++[q]++[i])=pre++[⟨s,c⟩]++[⟨i,1⟩]:=by rw [nG,e0,gV,if_neg hc]
    refine ⟨?_,?_⟩
    rotate_left
    ·simp only [h0,BI,BJ,e0,e2,F2,F3,F4,F5,F6,F7,F8,aW,List.map_append,List.map_cons,List.map_nil,wG,bW,reduceCtorEq,Nat.reduceEqDiff,Nat.reduceAdd,Nat.reduceLT,Nat.reduceLeDiff,Nat.beq]
     rfl
theorem adM (w:Wd) (s:Nat):(w >>> s &&& 1==(1:Wd))=w.getLsbD s:=by
 have h:w >>> s &&& 1=if w.getLsbD s then 1 else 0:=by
  apply BitVec.eq_of_getLsbD_eq
  intro j hj
  rw [BitVec.getLsbD_and,BitVec.getLsbD_ushiftRight]
  cases j with
  |zero=>cases h:w.getLsbD s<;>simp [h]
  |succ j =>
   have:(1:Wd).getLsbD (j+1)=false:=by
    rw [show (1:Wd)=1#64 from rfl,BitVec.getLsbD_one];simp
   rw [this,Bool.and_false]
   cases w.getLsbD s<;>simp
 rw [h]
 cases w.getLsbD s<;>rfl
theorem adN {b:Bm} {i:Nat} (h:i / 64<b.ws.length) (hi:i≤1000000):cal env 52 [qL b,.int .i64 (i:Nat)]=some [(.bool (bit b.ws i),false)]:=by
 unfold qL
 have T1:(i:Int).tdiv 64=((i / 64:Nat):Int):=by rw [Int.tdiv_eq_ediv_of_nonneg (by omega)];omega
 have T2:(i:Int).tmod 64=((i % 64:Nat):Int):=by rw [Int.tmod_eq_emod_of_nonneg (by omega)];omega
 have W1:IntKind.i64.wrap ((i / 64:Nat):Int)=((i / 64:Nat):Int):=ay (by omega)
 have W2:IntKind.u64.wrap ((i % 64:Nat):Int)=((i % 64:Nat):Int):=by rw [LX];omega
 have S0:(((i % 64:Nat):Int)<0)=False:=eq_false (by omega)
 have S1:=QN b.ws[i / 64] (s:=((i % 64:Nat):Int)) (n:=i % 64) rfl
 have S2:=QM (b.ws[i / 64] >>> (i % 64)) 1
 have B1:((1:Wd).toNat:Int)=1:=rfl
 have S3:=QO (b.ws[i / 64] >>> (i % 64) &&& 1) 1
 rw [B1] at S2 S3
 have S4:decide (b.ws[i / 64] >>> (i % 64) &&& 1=(1:Wd))=bit b.ws i:=by rw [zO h,← adM];rfl
 rw [S4] at S3
 rw [ah agX rfl];simp only [Ym];simp only [start,aO,aY,aK,aX,aH,aI,aN,aU,Nat.reduceAdd,Nat.reduceSub]
 simp only [z64,T1,T2,W1,W2,S0,S1,S2,S3,eW,aj h,List.getElem?_map,List.getElem?_eq_getElem h,bW,reduceCtorEq,Nat.reduceEqDiff,Nat.reduceAdd,Nat.reduceLT,Nat.reduceLeDiff,Nat.beq]
def sS (ws:List Wd) (k:Nat):Bool:=(List.range (64 * ws.length)).any fun i=>decide (k≤i)&&bit ws i
theorem lH {ws:List Wd} {k:Nat}:sS ws k=true ↔ ∃ i,k≤i∧i<64 * ws.length∧bit ws i=true:=by
 simp only [sS,List.any_eq_true,List.mem_range,Bool.and_eq_true,decide_eq_true_eq]
 exact ⟨fun ⟨i,h1,h2,h3⟩=>⟨i,h2,h1,h3⟩,fun ⟨i,h1,h2,h3⟩=>⟨i,h2,h1,h3⟩⟩
theorem Jb {ws:List Wd} {k:Nat} (h:bit ws k=false):sS ws k=sS ws (k+1):=by
 rw [Bool.eq_iff_iff,lH,lH]
 constructor
 ·rintro ⟨j,h1,h2,h3⟩
  have:j≠k:=fun e=>by rw [e,h] at h3;cases h3
  exact ⟨j,by omega,h2,h3⟩
 ·rintro ⟨j,h1,h2,h3⟩
  exact ⟨j,by omega,h2,h3⟩
theorem ae4 {b:Bm} {s:Nat} (hs:b.size=(s:Int)) (hl:b.ws.length≤64) (hsl:s≤64 * b.ws.length) {st:St} (h:st.head [1,3] st.boxes.length=some ⟨[.any,.aP 0 0,.any,.pv (.int .i64 ((s+(0:Nat):Nat):Int)),.any,.any,.any,.any,.any,.any,.any,.any,.any,.any,.any,.any,.any,.any,.any,.any,.any,.any,.any,.any,.any,.any,.any,.any,.any,.any,.any,.any,.any,.any,.any],[⟨false,[.pv (.int .i64 b.size),.pv (.list 1 (b.ws.map eW))]⟩],[],none⟩) :
  den env IB st=if sS b.ws (s+(0:Nat)) then some (.ret,⟨[.any,.any,.pv (.int .i64 3),.any,.any,.any,.any,.any,.any,.any,.any,.any,.any,.any,.any,.any,.any,.any,.any,.any,.any,.any,.any,.any,.any,.any,.any,.any,.any,.any,.any,.any,.any,.any,.any],[⟨false,[.pv (.int .i64 b.size),.pv (.list 1 (b.ws.map eW))]⟩],[],none⟩) else some (.normal,⟨[.any,.any,.any,.any,.any,.any,.any,.any,.any,.any,.any,.any,.any,.any,.any,.any,.any,.any,.any,.any,.any,.any,.any,.any,.any,.any,.any,.any,.any,.any,.any,.any,.any,.any,.any],[⟨false,[.pv (.int .i64 b.size),.pv (.list 1 (b.ws.map eW))]⟩],[],none⟩):=by
 unfold IB
 refine dw (env:=env) (64 * b.ws.length - s) (fun i=>⟨[.any,.aP 0 0,.any,.pv (.int .i64 ((s+i:Nat):Int)),.any,.any,.any,.any,.any,.any,.any,.any,.any,.any,.any,.any,.any,.any,.any,.any,.any,.any,.any,.any,.any,.any,.any,.any,.any,.any,.any,.any,.any,.any,.any],[⟨false,[.pv (.int .i64 b.size),.pv (.list 1 (b.ws.map eW))]⟩],[],none⟩) (fun i=>if sS b.ws (s+i) then some (.ret,⟨[.any,.any,.pv (.int .i64 3),.any,.any,.any,.any,.any,.any,.any,.any,.any,.any,.any,.any,.any,.any,.any,.any,.any,.any,.any,.any,.any,.any,.any,.any,.any,.any,.any,.any,.any,.any,.any,.any],[⟨false,[.pv (.int .i64 b.size),.pv (.list 1 (b.ws.map eW))]⟩],[],none⟩) else some (.normal,⟨[.any,.any,.any,.any,.any,.any,.any,.any,.any,.any,.any,.any,.any,.any,.any,.any,.any,.any,.any,.any,.any,.any,.any,.any,.any,.any,.any,.any,.any,.any,.any,.any,.any,.any,.any],[⟨false,[.pv (.int .i64 b.size),.pv (.list 1 (b.ws.map eW))]⟩],[],none⟩)) h (fun _=>rfl) (fun _=>rfl) ?_ ?_
 ·intro i rb hi ih
  have hi1:IntKind.i64.wrap (((s+i:Nat):Int)+1)=((s+(i+1):Nat):Int):=by rw [ay (by omega)];omega
  have W1:IntKind.i64.wrap (64 * (b.ws.length:Int))=64 * (b.ws.length:Int):=ay (by omega)
  have F1:(((s+i:Nat):Int)<64 * (b.ws.length:Int))=True:=eq_true (by omega)
  have e1:=adN (b:=b) (i:=s+i) (by omega) (by omega)
  have P2:part [PV.int .i64 b.size,.list 1 (b.ws.map fun w=>PV.int .u64 (w.toNat:Int))] 0 (some 2)=some (.agg [PV.int .i64 b.size,.list 1 (b.ws.map fun w=>PV.int .u64 (w.toNat:Int))]):=rfl
  unfold qL at e1
  unfold eW at e1 ih ⊢
  cases c:bit b.ws (s+i) with
  |true =>
   rw [c] at e1
   have h:sS b.ws (s+i)=true:=lH.2 ⟨s+i,by omega,by omega,c⟩
   rw [if_pos h]
   simp only [BN,F1,W1,e1,P2,List.length_map,bW,reduceCtorEq,Nat.reduceEqDiff,Nat.reduceAdd,Nat.reduceLT,Nat.reduceLeDiff,Nat.beq]
   rfl
  |false =>
   rw [c] at e1
   have h:=Jb c
   simp only [BN,F1,W1,e1,P2,List.length_map,bW,reduceCtorEq,Nat.reduceEqDiff,Nat.reduceAdd,Nat.reduceLT,Nat.reduceLeDiff,Nat.beq]
   rw [ih _ (by simp only [hi1];rfl),h]
   rfl
 ·intro rb
  have W1:IntKind.i64.wrap (64 * (b.ws.length:Int))=64 * (b.ws.length:Int):=ay (by omega)
  have F1:(((s+(64 * b.ws.length - s):Nat):Int)<64 * (b.ws.length:Int))=False:=eq_false (by omega)
  rw [if_neg (by rw [lH];rintro ⟨j,h1,h2,_⟩;omega)]
  simp only [BN,F1,W1,List.length_map,bW,reduceCtorEq,Nat.reduceEqDiff,Nat.reduceAdd,Nat.reduceLT,Nat.reduceLeDiff,Nat.beq]
  rfl
end Go.Proofs.YtdahanchdjadiaaDoor.V

namespace Go.Proofs.YtdahanchdjadiaaDoor.V
theorem ahw {b:Bm}:cal env 51 [qL b]=some [(.int .i64 (PI b),false)]:=by
 unfold qL
 have P:∀ x y:PV,part [x,y] 0 (some 2)=some (.agg [x,y]):=fun _ _=>rfl
 by_cases c0:b.size<0
 ·have hE:PI b=3:=nH (by rw [Bool.eq_false_iff];intro h;have:=iH h;omega)
  rw [hE]
  rw [ah QH rfl];simp only [LH];simp only [start,aO,aY,aK,aX,aH,aI,aN,aU,Nat.reduceAdd,Nat.reduceSub]
  simp only [c0,P,bW,reduceCtorEq,Nat.reduceEqDiff,Nat.reduceAdd,Nat.reduceLT,Nat.reduceLeDiff,Nat.beq]
 ·by_cases c1:b.size > 4096
  ·have hE:PI b=3:=nH (by rw [Bool.eq_false_iff];intro h;have:=iH h;omega)
   rw [hE]
   have F1:(b.size > 4096)=True:=eq_true c1
   rw [ah QH rfl];simp only [LH];simp only [start,aO,aY,aK,aX,aH,aI,aN,aU,Nat.reduceAdd,Nat.reduceSub]
   simp only [c0,F1,P,bW,reduceCtorEq,Nat.reduceEqDiff,Nat.reduceAdd,Nat.reduceLT,Nat.reduceLeDiff,Nat.beq]
  ·have F1:(b.size > 4096)=False:=eq_false c1
   have W0:IntKind.i64.wrap (b.size+63)=b.size+63:=ay (by omega)
   have W3:IntKind.i64.wrap (jf b.size)=jf b.size:=ay (by unfold jf;omega)
   have T:=q63 (n:=b.size) (by omega)
   by_cases c2:(b.ws.length:Int)=jf b.size
   ·have F2:((b.ws.length:Int) != jf b.size)=false:=by simp [c2]
    have hw:=c2
    unfold jf at hw
    have hs:b.size=((b.size.toNat:Nat):Int):=by omega
    rw [ah QH rfl];simp only [LH];simp only [start,aO,aY,aK,aX,aH,aI,aN,aU,Nat.reduceAdd,Nat.reduceSub]
    simp only [c0,F1,F2,W0,W3,T,z64,P,List.length_map,bW,reduceCtorEq,Nat.reduceEqDiff,Nat.reduceAdd,Nat.reduceLT,Nat.reduceLeDiff,Nat.beq]
    rw [ae4 (b:=b) (s:=b.size.toNat) hs (by omega) (by omega)]
    rotate_left
    ·rw [Nat.add_zero,← hs];rfl
    ·cases c:okB b with
     |true =>
      rw [uV c,if_neg]
      ·simp only [c0,F1,F2,W0,W3,T,z64,P,List.length_map,bW,reduceCtorEq,Nat.reduceEqDiff,Nat.reduceAdd,Nat.reduceLT,Nat.reduceLeDiff,Nat.beq]
      ·rw [lH]
       rintro ⟨i,h1,h2,h3⟩
       rw [(ig.1 c).2 i (by omega)] at h3
       cases h3
     |false =>
      rw [nH c,if_pos]
      ·simp only [c0,F1,F2,W0,W3,T,z64,P,List.length_map,bW,reduceCtorEq,Nat.reduceEqDiff,Nat.reduceAdd,Nat.reduceLT,Nat.reduceLeDiff,Nat.beq]
      ·rw [lH]
       apply Classical.byContradiction
       intro hn
       have:okB b=true:=ig.2 ⟨⟨by omega,by omega,c2⟩,fun i hi=>by
        by_cases hl:i<64 * b.ws.length
        ·cases hb:bit b.ws i with
         |false=>rfl
         |true=>exact absurd ⟨i,by omega,hl,hb⟩ hn
        ·exact wB (by omega)⟩
       rw [this] at c;cases c
   ·have F2:((b.ws.length:Int) != jf b.size)=true:=by simp [c2]
    have hE:PI b=3:=nH (by rw [Bool.eq_false_iff];intro h;exact c2 (ig.1 h).1.2.2)
    rw [hE]
    rw [ah QH rfl];simp only [LH];simp only [start,aO,aY,aK,aX,aH,aI,aN,aU,Nat.reduceAdd,Nat.reduceSub]
    simp only [c0,F1,F2,W0,W3,T,z64,P,List.length_map,bW,reduceCtorEq,Nat.reduceEqDiff,Nat.reduceAdd,Nat.reduceLT,Nat.reduceLeDiff,Nat.beq]
end Go.Proofs.YtdahanchdjadiaaDoor.V

namespace Go.Proofs.YtdahanchdjadiaaDoor.V
def uX (b:Bm) (s:Int):Bool:=okB b&&(decide (0≤s)&&(decide (s<b.size)&&bit b.ws s.toNat))
theorem Zh {b:Bm} {s:Int}:cal env 41 [qL b,.int .i64 s]=some [(.bool (uX b s),false)]:=by
 have e1:=QU (b:=b)
 have P:∀ x y:PV,part [x,y] 0 (some 2)=some (.agg [x,y]):=fun _ _=>rfl
 have eA:qL b=.agg [.int .i64 b.size,.list 1 (b.ws.map eW)]:=rfl
 have Z0:((0:Int)==0)=true:=rfl
 have Z3:((3:Int)==0)=false:=rfl
 unfold uX
 rw [eA] at e1 ⊢
 cases c:okB b with
 |false =>
  rw [nH c] at e1
  rw [ah QG rfl];simp only [LG,aG,Nat.reduceBEq,Nat.reduceLeDiff,Nat.reduceAdd,List.length_cons,List.length_nil]
  simp only [e1,Z3,P,ak,Nat.reduceMul,Nat.reduceBEq,Nat.reduceLT,Nat.reduceLeDiff,reduceCtorEq,Nat.reduceEqDiff,Nat.reduceAdd,Nat.beq]
 |true =>
  rw [uV c] at e1
  have hs:=iH c
  by_cases c0:0≤s
  ·have F0:(s ≥ 0)=True:=eq_true c0
   rw [decide_eq_true c0]
   by_cases c1:s<b.size
   ·have F1:(s<b.size)=True:=eq_true c1
    rw [decide_eq_true c1]
    obtain ⟨i,rfl⟩:∃ i:Nat,s=(i:Int):=⟨s.toNat,by omega⟩
    have h:i / 64<b.ws.length:=by omega
    have T1:(i:Int).tdiv 64=((i / 64:Nat):Int):=by rw [Int.tdiv_eq_ediv_of_nonneg (by omega)];omega
    have T2:(i:Int).tmod 64=((i % 64:Nat):Int):=by rw [Int.tmod_eq_emod_of_nonneg (by omega)];omega
    have W1:IntKind.i64.wrap ((i / 64:Nat):Int)=((i / 64:Nat):Int):=ay (by omega)
    have S0:(((i % 64:Nat):Int)<0)=False:=eq_false (by omega)
    have S1:=QN b.ws[i / 64] (s:=((i % 64:Nat):Int)) (n:=i % 64) rfl
    have S2:=QM (b.ws[i / 64] >>> (i % 64)) 1
    have B1:((1:Wd).toNat:Int)=1:=rfl
    have S3:=QO (b.ws[i / 64] >>> (i % 64) &&& 1) 1
    rw [B1] at S2 S3
    have S4:decide (b.ws[i / 64] >>> (i % 64) &&& 1=(1:Wd))=bit b.ws i:=by rw [zO h,← adM];rfl
    rw [S4] at S3
    have e9:(i:Int).toNat=i:=by omega
    rw [e9]
    rw [ah QG rfl];simp only [LG,aG,Nat.reduceBEq,Nat.reduceLeDiff,Nat.reduceAdd,List.length_cons,List.length_nil]
    simp only [e1,Z0,P,F0,F1,z64,T1,T2,W1,S0,S1,S2,S3,eW,aj h,List.getElem?_map,List.getElem?_eq_getElem h,ak,Nat.reduceMul,Nat.reduceBEq,Nat.reduceLT,Nat.reduceLeDiff,reduceCtorEq,Nat.reduceEqDiff,Nat.reduceAdd,Nat.beq]
   ·have F1:(s<b.size)=False:=eq_false c1
    rw [decide_eq_false c1]
    rw [ah QG rfl];simp only [LG,aG,Nat.reduceBEq,Nat.reduceLeDiff,Nat.reduceAdd,List.length_cons,List.length_nil]
    simp only [e1,Z0,P,F0,F1,ak,Nat.reduceMul,Nat.reduceBEq,Nat.reduceLT,Nat.reduceLeDiff,reduceCtorEq,Nat.reduceEqDiff,Nat.reduceAdd,Nat.beq]
  ·have F0:(s ≥ 0)=False:=eq_false c0
   rw [decide_eq_false c0]
   rw [ah QG rfl];simp only [LG,aG,Nat.reduceBEq,Nat.reduceLeDiff,Nat.reduceAdd,List.length_cons,List.length_nil]
   simp only [e1,Z0,P,F0,ak,Nat.reduceMul,Nat.reduceBEq,Nat.reduceLT,Nat.reduceLeDiff,reduceCtorEq,Nat.reduceEqDiff,Nat.reduceAdd,Nat.beq]
end Go.Proofs.YtdahanchdjadiaaDoor.V

namespace Go.Proofs.YtdahanchdjadiaaDoor.V
structure fZ where
 size:Int
 aZ:Int
 act:List Int
 bm:Bm
def kL (i:fZ):PV:=.agg [.int .i64 i.size,.int .i64 i.aZ,.list 1 (i.act.map eI),.int .i64 i.bm.size,.list 1 (i.bm.ws.map eW)]
def Ve:fZ:=⟨0,0,[],⟨0,[]⟩⟩
theorem iy:kL Ve=.agg [.int .i64 0,.int .i64 0,.list 1 [],.int .i64 0,.list 1 []]:=rfl
def lI (s g:Int):Bool:=decide (1≤s)&&decide (s≤4096)&&decide (1≤g)&&decide (g≤4096)
theorem bT {s g:Int}:lI s g=true ↔ 1≤s∧s≤4096∧1≤g∧g≤4096:=by unfold lI;simp [and_assoc]
--+
theorem adO {s g:Int}:cal env 27 [.int .i64 s,.int .i64 g]=some [(.bool (lI s g),false)]:=by
 unfold lI
 by_cases c0:1≤s
 ·have F0:(s ≥ 1)=True:=eq_true c0
  rw [decide_eq_true c0]
  by_cases c1:s≤4096
  ·have F1:(s≤4096)=True:=eq_true c1
   rw [decide_eq_true c1]
   by_cases c2:1≤g
   ·have F2:(g ≥ 1)=True:=eq_true c2
    rw [decide_eq_true c2]
    rw [ah QE rfl];simp only [LC,aG,Nat.reduceBEq,Nat.reduceLeDiff,Nat.reduceAdd,List.length_cons,List.length_nil]
    simp only [F0,F1,F2,ak,Nat.reduceMul,Nat.reduceBEq,Nat.reduceLT,Nat.reduceLeDiff,reduceCtorEq,Nat.reduceEqDiff,Nat.reduceAdd,Nat.beq]
   ·have F2:(g ≥ 1)=False:=eq_false c2
    rw [decide_eq_false c2]
    rw [ah QE rfl];simp only [LC,aG,Nat.reduceBEq,Nat.reduceLeDiff,Nat.reduceAdd,List.length_cons,List.length_nil]
    simp only [F0,F1,F2,ak,Nat.reduceMul,Nat.reduceBEq,Nat.reduceLT,Nat.reduceLeDiff,reduceCtorEq,Nat.reduceEqDiff,Nat.reduceAdd,Nat.beq]
  ·have F1:(s≤4096)=False:=eq_false c1
   rw [decide_eq_false c1]
   rw [ah QE rfl];simp only [LC,aG,Nat.reduceBEq,Nat.reduceLeDiff,Nat.reduceAdd,List.length_cons,List.length_nil]
   simp only [F0,F1,ak,Nat.reduceMul,Nat.reduceBEq,Nat.reduceLT,Nat.reduceLeDiff,reduceCtorEq,Nat.reduceEqDiff,Nat.reduceAdd,Nat.beq]
 ·have F0:(s ≥ 1)=False:=eq_false c0
  rw [decide_eq_false c0]
  rw [ah QE rfl];simp only [LC,aG,Nat.reduceBEq,Nat.reduceLeDiff,Nat.reduceAdd,List.length_cons,List.length_nil]
  simp only [F0,ak,Nat.reduceMul,Nat.reduceBEq,Nat.reduceLT,Nat.reduceLeDiff,reduceCtorEq,Nat.reduceEqDiff,Nat.reduceAdd,Nat.beq]
--+
def lY (s g:Int):Int:=(s+g - 1) / g
theorem lq {s g:Int} (h:lI s g=true):1≤lY s g∧lY s g≤s:=by
 obtain ⟨h1,h2,h3,h4⟩:=bT.1 h
 unfold lY
 constructor
 ·exact (Int.le_ediv_iff_mul_le (by omega)).2 (by omega)
 ·have:s+g - 1<(s+1) * g:=by
   have h5:s≤s * g:=by
    have:=Int.mul_le_mul_of_nonneg_left h3 (show 0≤s by omega)
    omega
   rw [Int.add_mul,Int.one_mul];omega
  have:=Int.ediv_lt_of_lt_mul (by omega) this
  omega
--+
theorem adP {s g:Int} (h:lI s g=true):cal env 28 [.int .i64 s,.int .i64 g]=some [(.int .i64 (lY s g),false)]:=by
 obtain ⟨h1,h2,h3,h4⟩:=bT.1 h
 have hg:=lq h
 have W1:IntKind.i64.wrap (s+g)=s+g:=ay (by omega)
 have W2:IntKind.i64.wrap (s+g - 1)=s+g - 1:=ay (by omega)
 have Q:(s+g - 1).tdiv g=lY s g:=by unfold lY;exact Int.tdiv_eq_ediv_of_nonneg (by omega)
 have W3:IntKind.i64.wrap (lY s g)=lY s g:=ay (by omega)
 have Z:(g=0)=False:=eq_false (by omega)
 rw [ah agM rfl];simp only [Yc,aG,Nat.reduceBEq,Nat.reduceLeDiff,Nat.reduceAdd,List.length_cons,List.length_nil]
 simp only [W1,W2,Q,W3,Z,ak,Nat.reduceMul,Nat.reduceBEq,Nat.reduceLT,Nat.reduceLeDiff,reduceCtorEq,Nat.reduceEqDiff,Nat.reduceAdd,Nat.beq]
--+
def uY (s g:Int):Int:=if lI s g then 0 else 2
def jG (s g:Int):fZ:=if lI s g then ⟨s,g,List.replicate (lY s g).toNat 0,qY (lY s g)⟩ else Ve
theorem ae5 {s g:Int}:cal env 9 [.int .i64 s,.int .i64 g]=some [(kL (jG s g),false),(.int .i64 (uY s g),false)]:=by
 have e0:=adO (s:=s) (g:=g)
 unfold jG uY
 cases c:lI s g with
 |false =>
  rw [if_neg (by decide),if_neg (by decide),iy]
  rw [c] at e0
  rw [ah agH rfl];simp only [fn9,aG,Nat.reduceBEq,Nat.reduceLeDiff,Nat.reduceAdd,List.length_cons,List.length_nil]
  simp only [e0,ak,Nat.reduceMul,Nat.reduceBEq,Nat.reduceLT,Nat.reduceLeDiff,reduceCtorEq,Nat.reduceEqDiff,Nat.reduceAdd,Nat.beq]
 |true =>
  rw [if_pos rfl,if_pos rfl]
  rw [c] at e0
  have hg:=lq c
  obtain ⟨_,h2,_,_⟩:=bT.1 c
  have e1:=adP c
  have e2:=adJ (n:=lY s g)
  have hE:newE (lY s g)=0:=by unfold newE;rw [if_neg (by omega)]
  rw [hE] at e2
  have F3:(0≤lY s g)=True:=eq_true (by omega)
  have F4:(lY s g≤(lim:Int))=True:=eq_true (by unfold lim;omega)
  have F5:(lY s g≤lY s g)=True:=eq_true (Int.le_refl _)
  have eA:qL (qY (lY s g))=.agg [.int .i64 (qY (lY s g)).size,.list 1 ((qY (lY s g)).ws.map eW)]:=rfl
  rw [eA] at e2
  unfold kL
  rw [List.map_replicate,show eI 0=.int .i64 0 from rfl]
  rw [ah agH rfl];simp only [fn9,aG,Nat.reduceBEq,Nat.reduceLeDiff,Nat.reduceAdd,List.length_cons,List.length_nil]
  simp only [e0,e1,e2,F3,F4,F5,ak,Nat.reduceMul,Nat.reduceBEq,Nat.reduceLT,Nat.reduceLeDiff,reduceCtorEq,Nat.reduceEqDiff,Nat.reduceAdd,Nat.beq]
end Go.Proofs.YtdahanchdjadiaaDoor.V

namespace Go.Proofs.YtdahanchdjadiaaDoor.V
def DR (i:fZ) (g:Nat) (n:Int):Bool:=decide (n<0) || (decide (n > 4096) || (decide (n > 0)&&!uX i.bm g))
def jR (i:fZ) (k:Nat):Bool:=((List.range i.act.length).drop k).all fun g=>!DR i g (i.act.getD g 0)
theorem Vf {i:fZ} {k:Nat} (h:k<i.act.length):jR i k=(!DR i k i.act[k]&&jR i (k+1)):=by
 unfold jR
 rw [List.drop_eq_getElem_cons (by rw [List.length_range];exact h),List.all_cons,List.getElem_range]
 congr 2
 rw [List.getD_eq_getElem?_getD,List.getElem?_eq_getElem h]
 rfl
theorem Zi (i:fZ):jR i i.act.length=true:=by
 unfold jR
 rw [List.drop_of_length_le (by rw [List.length_range];exact Nat.le_refl _)]
 rfl
def ae6 (i:fZ):Bool:=lI i.size i.aZ&&(decide ((i.act.length:Int)=lY i.size i.aZ)&&(okB i.bm&&decide (i.bm.size=(i.act.length:Int))))
def gG (i:fZ):Bool:=ae6 i&&jR i 0
def Zj (i:fZ):Int:=if gG i then 0 else 3
def pK (i:fZ):List BV:=[.pv (.int .i64 i.size),.pv (.int .i64 i.aZ),.pv (.list 1 (i.act.map eI)),.pv (.int .i64 i.bm.size),.pv (.list 1 (i.bm.ws.map eW))]
theorem bF (i:fZ):pK i=[.pv (.int .i64 i.size),.pv (.int .i64 i.aZ),.pv (.list 1 (i.act.map eI)),.pv (.int .i64 i.bm.size),.pv (.list 1 (i.bm.ws.map eW))]:=rfl
def acy (n:Nat) (i:fZ) (b:Bool):Option (Ex × St):=if b then some (.normal,⟨sl n [(2,.any)],[⟨false,pK i⟩],[],none⟩) else some (.ret,⟨sl n [(2,.pv (.int .i64 3))],[⟨false,pK i⟩],[],none⟩)
theorem Zk (n:Nat) (i:fZ):acy n i true=some (.normal,⟨sl n [(2,.any)],[⟨false,pK i⟩],[],none⟩):=rfl
theorem Jc (n:Nat) (i:fZ):acy n i false=some (.ret,⟨sl n [(2,.pv (.int .i64 3))],[⟨false,pK i⟩],[],none⟩):=rfl
theorem dF (a b c:PV) (x y:PV):part [a,b,c,x,y] 3 (some 2)=some (.agg [x,y]):=rfl
set_option maxRecDepth 20000 in
theorem ae7 {i0:fZ} (hl:i0.act.length≤lim) {st:St} (h:st.head [1,38,39,40] st.boxes.length=some ⟨sl 63 [(1,.aP 0 0),(38,.pv (.list 1 (i0.act.map eI))),(39,.pv (.int .i64 i0.act.length)),(40,.pv (.int .i64 (0:Nat)))],[⟨false,pK i0⟩],[],none⟩) :
  den env Iu st=acy 63 i0 (jR i0 ((0:Nat))):=by
 unfold Iu
 refine dw (env:=env) (nb:=1) (i0.act.length) (fun i=>⟨sl 63 [(1,.aP 0 0),(38,.pv (.list 1 (i0.act.map eI))),(39,.pv (.int .i64 i0.act.length)),(40,.pv (.int .i64 i))],[⟨false,pK i0⟩],[],none⟩) (fun i=>acy 63 i0 (jR i0 (i))) h (fun _=>rfl) (fun _=>by simp only [aG,bY,Nat.reduceMul,Nat.reduceBEq,Nat.reduceLT,Nat.reduceLeDiff,Nat.reduceAdd,decide_true,Bool.and_self,Bool.true_and]) ?_ ?_
 ·intro i rb hi ih
  have hi1:=dN hi hl
  have F1:((i:Int)<(i0.act.length:Int))=True:=eq_true (by omega)
  rw [Vf hi]
  have e1:=Zh (b:=i0.bm) (s:=(i:Int))
  have eA:qL i0.bm=.agg [.int .i64 i0.bm.size,.list 1 (i0.bm.ws.map eW)]:=rfl
  rw [eA] at e1
  have hx:(i0.act.map eI)[i]?=some (.int .i64 i0.act[i]):=by rw [List.getElem?_map,List.getElem?_eq_getElem hi];rfl
  unfold DR
  generalize i0.act[i]=n at *
  by_cases c0:n<0
  ·have F2:(n<0)=True:=eq_true c0
   rw [decide_eq_true c0]
   simp only [sO,F1,F2,hx,aj hi,List.length_map,bF,Jc,ak,Nat.reduceMul,Nat.reduceBEq,Nat.reduceLT,Nat.reduceLeDiff,reduceCtorEq,Nat.reduceEqDiff,Nat.reduceAdd,Nat.beq]
  ·have F2:(n<0)=False:=eq_false c0
   rw [decide_eq_false c0]
   by_cases c1:n > 4096
   ·have F3:(n > 4096)=True:=eq_true c1
    rw [decide_eq_true c1]
    simp only [sO,F1,F2,F3,hx,aj hi,List.length_map,bF,Jc,ak,Nat.reduceMul,Nat.reduceBEq,Nat.reduceLT,Nat.reduceLeDiff,reduceCtorEq,Nat.reduceEqDiff,Nat.reduceAdd,Nat.beq]
   ·have F3:(n > 4096)=False:=eq_false c1
    rw [decide_eq_false c1]
    by_cases c2:n > 0
    ·have F4:(n > 0)=True:=eq_true c2
     rw [decide_eq_true c2]
     cases c3:uX i0.bm (i:Int) with
     |true =>
      rw [c3] at e1
      simp only [sO,F1,F2,F3,F4,hx,e1,dF,aj hi,List.length_map,bF,ak,Nat.reduceMul,Nat.reduceBEq,Nat.reduceLT,Nat.reduceLeDiff,reduceCtorEq,Nat.reduceEqDiff,Nat.reduceAdd,Nat.beq]
      rw [ih _ (by simp only [hi1,bF,ak,Nat.reduceMul,Nat.reduceBEq,Nat.reduceLT,Nat.reduceLeDiff,reduceCtorEq,Nat.reduceEqDiff,Nat.reduceAdd,Nat.beq]<;>rfl)]
     |false =>
      rw [c3] at e1
      simp only [sO,F1,F2,F3,F4,hx,e1,dF,aj hi,List.length_map,bF,Jc,ak,Nat.reduceMul,Nat.reduceBEq,Nat.reduceLT,Nat.reduceLeDiff,reduceCtorEq,Nat.reduceEqDiff,Nat.reduceAdd,Nat.beq]
    ·have F4:(n > 0)=False:=eq_false c2
     rw [decide_eq_false c2]
     simp only [sO,F1,F2,F3,F4,hx,aj hi,List.length_map,bF,ak,Nat.reduceMul,Nat.reduceBEq,Nat.reduceLT,Nat.reduceLeDiff,reduceCtorEq,Nat.reduceEqDiff,Nat.reduceAdd,Nat.beq]
     rw [ih _ (by simp only [hi1,bF,ak,Nat.reduceMul,Nat.reduceBEq,Nat.reduceLT,Nat.reduceLeDiff,reduceCtorEq,Nat.reduceEqDiff,Nat.reduceAdd,Nat.beq]<;>rfl)]
 ·intro rb
  rw [Zi,Zk]
  simp only [sO,Int.lt_irrefl,bF,ak,Nat.reduceMul,Nat.reduceBEq,Nat.reduceLT,Nat.reduceLeDiff,reduceCtorEq,Nat.reduceEqDiff,Nat.reduceAdd,Nat.beq]
theorem Zm {i:fZ} (hl:i.act.length≤lim):cal env 33 [kL i]=some [(.int .i64 (Zj i),false)]:=by
 have e0:=adO (s:=i.size) (g:=i.aZ)
 have e2:=QU (b:=i.bm)
 have eA:qL i.bm=.agg [.int .i64 i.bm.size,.list 1 (i.bm.ws.map eW)]:=rfl
 have AU:kL i=.agg [.int .i64 i.size,.int .i64 i.aZ,.list 1 (i.act.map eI),.int .i64 i.bm.size,.list 1 (i.bm.ws.map eW)]:=rfl
 have Z0:((0:Int) != 0)=false:=rfl
 have Z3:((3:Int) != 0)=true:=rfl
 rw [eA] at e2
 rw [AU]
 unfold Zj gG ae6
 cases c0:lI i.size i.aZ with
 |false =>
  rw [c0] at e0
  rw [ah LM rfl];simp only [Iw,aG,Nat.reduceBEq,Nat.reduceLeDiff,Nat.reduceAdd,List.length_cons,List.length_nil]
  simp only [e0,ak,Nat.reduceMul,Nat.reduceBEq,Nat.reduceLT,Nat.reduceLeDiff,reduceCtorEq,Nat.reduceEqDiff,Nat.reduceAdd,Nat.beq]
 |true =>
  rw [c0] at e0
  have e1:=adP c0
  by_cases c1:(i.act.length:Int)=lY i.size i.aZ
  ·have G1:((i.act.length:Int) != lY i.size i.aZ)=false:=by simp [c1]
   rw [decide_eq_true c1]
   cases c2:okB i.bm with
   |false =>
    rw [nH c2] at e2
    rw [ah LM rfl];simp only [Iw,aG,Nat.reduceBEq,Nat.reduceLeDiff,Nat.reduceAdd,List.length_cons,List.length_nil]
    simp only [e0,e1,e2,G1,Z3,dF,List.length_map,ak,Nat.reduceMul,Nat.reduceBEq,Nat.reduceLT,Nat.reduceLeDiff,reduceCtorEq,Nat.reduceEqDiff,Nat.reduceAdd,Nat.beq]
   |true =>
    rw [uV c2] at e2
    by_cases c3:i.bm.size=(i.act.length:Int)
    ·have G3:(i.bm.size != (i.act.length:Int))=false:=by simp [c3]
     rw [decide_eq_true c3]
     rw [ah LM rfl];simp only [Iw,aG,Nat.reduceBEq,Nat.reduceLeDiff,Nat.reduceAdd,List.length_cons,List.length_nil]
     simp only [e0,e1,e2,G1,G3,Z0,dF,List.length_map,ak,Nat.reduceMul,Nat.reduceBEq,Nat.reduceLT,Nat.reduceLeDiff,reduceCtorEq,Nat.reduceEqDiff,Nat.reduceAdd,Nat.beq]
     rw [ae7 (i0:=i) hl]
     rotate_left
     ·rw [bF]
      simp only [aG,bY,Nat.reduceMul,Nat.reduceBEq,Nat.reduceLT,Nat.reduceLeDiff,Nat.reduceAdd,decide_true,Bool.and_self,Bool.true_and]<;>rfl
     ·cases jR i 0 with
      |true =>
       rw [Zk,bF]
       simp only [e0,e1,e2,G1,G3,Z0,dF,List.length_map,ak,Nat.reduceMul,Nat.reduceBEq,Nat.reduceLT,Nat.reduceLeDiff,reduceCtorEq,Nat.reduceEqDiff,Nat.reduceAdd,Nat.beq]
      |false =>
       rw [Jc,bF]
       simp only [e0,e1,e2,G1,G3,Z0,dF,List.length_map,ak,Nat.reduceMul,Nat.reduceBEq,Nat.reduceLT,Nat.reduceLeDiff,reduceCtorEq,Nat.reduceEqDiff,Nat.reduceAdd,Nat.beq]
    ·have G3:(i.bm.size != (i.act.length:Int))=true:=by simp [c3]
     rw [decide_eq_false c3]
     rw [ah LM rfl];simp only [Iw,aG,Nat.reduceBEq,Nat.reduceLeDiff,Nat.reduceAdd,List.length_cons,List.length_nil]
     simp only [e0,e1,e2,G1,G3,Z0,dF,List.length_map,ak,Nat.reduceMul,Nat.reduceBEq,Nat.reduceLT,Nat.reduceLeDiff,reduceCtorEq,Nat.reduceEqDiff,Nat.reduceAdd,Nat.beq]
  ·have G1:((i.act.length:Int) != lY i.size i.aZ)=true:=by simp [c1]
   rw [decide_eq_false c1]
   rw [ah LM rfl];simp only [Iw,aG,Nat.reduceBEq,Nat.reduceLeDiff,Nat.reduceAdd,List.length_cons,List.length_nil]
   simp only [e0,e1,G1,List.length_map,ak,Nat.reduceMul,Nat.reduceBEq,Nat.reduceLT,Nat.reduceLeDiff,reduceCtorEq,Nat.reduceEqDiff,Nat.reduceAdd,Nat.beq]
end Go.Proofs.YtdahanchdjadiaaDoor.V

namespace Go.Proofs.YtdahanchdjadiaaDoor.V
def lZ (s:Int) (e:bD):Bool:=decide (0≤e.start)&&(decide (1≤e.count)&&(decide (e.start<s)&&decide (e.count≤s - e.start)))
theorem iI {s:Int} {e:bD}:lZ s e=true ↔ 0≤e.start∧1≤e.count∧e.start<s∧e.count≤s - e.start:=by unfold lZ;simp
def jd (s g:Int) (e:bD):bD:=if lZ s e then ⟨e.start / g,(e.start+e.count - 1) / g - e.start / g+1⟩ else ⟨0,0⟩
def ae8 (s:Int) (e:bD):Int:=if lZ s e then 0 else 2
theorem zS {s g:Int} {e:bD} (h:lI s g=true) (hb:lZ s e=true):0≤(jd s g e).start∧1≤(jd s g e).count∧(jd s g e).start+(jd s g e).count≤lY s g:=by
 obtain ⟨h1,h2,h3,h4⟩:=bT.1 h
 obtain ⟨b1,b2,b3,b4⟩:=iI.1 hb
 have k0:0≤e.start / g:=Int.ediv_nonneg b1 (by omega)
 have k1:e.start / g≤(e.start+e.count - 1) / g:=Int.ediv_le_ediv (by omega) (by omega)
 have k2:(e.start+e.count - 1) / g≤(s - 1) / g:=Int.ediv_le_ediv (by omega) (by omega)
 have k3:lY s g=(s - 1) / g+1:=by
  unfold lY
  rw [show s+g - 1=(s - 1)+1 * g by omega,Int.add_mul_ediv_right _ _ (by omega)]
 unfold jd
 rw [if_pos hb,k3]
 simp only
 omega
theorem ahx {i:fZ} {e:bD} (h:lI i.size i.aZ=true):cal env 63 [kL i,aW e]=some [(aW (jd i.size i.aZ e),false),(.int .i64 (ae8 i.size e),false)]:=by
 obtain ⟨h1,h2,h3,h4⟩:=bT.1 h
 have AU:kL i=.agg [.int .i64 i.size,.int .i64 i.aZ,.list 1 (i.act.map eI),.int .i64 i.bm.size,.list 1 (i.bm.ws.map eW)]:=rfl
 have eX:aW e=.agg [.int .i64 e.start,.int .i64 e.count]:=rfl
 have hz:aW ⟨0,0⟩=.agg [.int .i64 0,.int .i64 0]:=rfl
 rw [AU,eX]
 unfold ae8 jd
 by_cases c0:e.start<0
 ·have F0:(e.start<0)=True:=eq_true c0
  have hb:lZ i.size e=false:=by rw [Bool.eq_false_iff];intro hh;have:=iI.1 hh;omega
  rw [hb,if_neg (by decide),if_neg (by decide),hz]
  rw [ah LP rfl];simp only [IJ,aG,Nat.reduceBEq,Nat.reduceLeDiff,Nat.reduceAdd,List.length_cons,List.length_nil]
  simp only [F0,ak,Nat.reduceMul,Nat.reduceBEq,Nat.reduceLT,Nat.reduceLeDiff,reduceCtorEq,Nat.reduceEqDiff,Nat.reduceAdd,Nat.beq]
 ·have F0:(e.start<0)=False:=eq_false c0
  by_cases c1:e.count<1
  ·have F1:(e.count<1)=True:=eq_true c1
   have hb:lZ i.size e=false:=by rw [Bool.eq_false_iff];intro hh;have:=iI.1 hh;omega
   rw [hb,if_neg (by decide),if_neg (by decide),hz]
   rw [ah LP rfl];simp only [IJ,aG,Nat.reduceBEq,Nat.reduceLeDiff,Nat.reduceAdd,List.length_cons,List.length_nil]
   simp only [F0,F1,ak,Nat.reduceMul,Nat.reduceBEq,Nat.reduceLT,Nat.reduceLeDiff,reduceCtorEq,Nat.reduceEqDiff,Nat.reduceAdd,Nat.beq]
  ·have F1:(e.count<1)=False:=eq_false c1
   by_cases c2:e.start ≥ i.size
   ·have F2:(e.start ≥ i.size)=True:=eq_true c2
    have hb:lZ i.size e=false:=by rw [Bool.eq_false_iff];intro hh;have:=iI.1 hh;omega
    rw [hb,if_neg (by decide),if_neg (by decide),hz]
    rw [ah LP rfl];simp only [IJ,aG,Nat.reduceBEq,Nat.reduceLeDiff,Nat.reduceAdd,List.length_cons,List.length_nil]
    simp only [F0,F1,F2,ak,Nat.reduceMul,Nat.reduceBEq,Nat.reduceLT,Nat.reduceLeDiff,reduceCtorEq,Nat.reduceEqDiff,Nat.reduceAdd,Nat.beq]
   ·have F2:(e.start ≥ i.size)=False:=eq_false c2
    have W1:IntKind.i64.wrap (i.size - e.start)=i.size - e.start:=ay (by omega)
    by_cases c3:e.count > i.size - e.start
    ·have F3:(e.count > i.size - e.start)=True:=eq_true c3
     have hb:lZ i.size e=false:=by rw [Bool.eq_false_iff];intro hh;have:=iI.1 hh;omega
     rw [hb,if_neg (by decide),if_neg (by decide),hz]
     rw [ah LP rfl];simp only [IJ,aG,Nat.reduceBEq,Nat.reduceLeDiff,Nat.reduceAdd,List.length_cons,List.length_nil]
     simp only [F0,F1,F2,F3,W1,ak,Nat.reduceMul,Nat.reduceBEq,Nat.reduceLT,Nat.reduceLeDiff,reduceCtorEq,Nat.reduceEqDiff,Nat.reduceAdd,Nat.beq]
    ·have F3:(e.count > i.size - e.start)=False:=eq_false c3
     have hb:lZ i.size e=true:=iI.2 (by omega)
     have hin:=zS h hb
     have hgl:=lq h
     rw [hb,if_pos rfl,if_pos rfl]
     have Zg:(i.aZ=0)=False:=eq_false (by omega)
     have Q1:e.start.tdiv i.aZ=e.start / i.aZ:=Int.tdiv_eq_ediv_of_nonneg (by omega)
     have Q2:(e.start+e.count - 1).tdiv i.aZ=(e.start+e.count - 1) / i.aZ:=Int.tdiv_eq_ediv_of_nonneg (by omega)
     have d1:0≤e.start / i.aZ∧e.start / i.aZ≤4096:=by
      refine ⟨Int.ediv_nonneg (by omega) (by omega),?_⟩
      have:=Int.ediv_le_self i.aZ (show 0≤e.start by omega);omega
     have d2:0≤(e.start+e.count - 1) / i.aZ∧(e.start+e.count - 1) / i.aZ≤4096:=by
      refine ⟨Int.ediv_nonneg (by omega) (by omega),?_⟩
      have:=Int.ediv_le_self i.aZ (show 0≤e.start+e.count - 1 by omega);omega
     have W2:IntKind.i64.wrap (e.start / i.aZ)=e.start / i.aZ:=ay (by omega)
     have W3:IntKind.i64.wrap (e.start+e.count)=e.start+e.count:=ay (by omega)
     have W4:IntKind.i64.wrap (e.start+e.count - 1)=e.start+e.count - 1:=ay (by omega)
     have W5:IntKind.i64.wrap ((e.start+e.count - 1) / i.aZ)=(e.start+e.count - 1) / i.aZ:=ay (by omega)
     have W6:IntKind.i64.wrap ((e.start+e.count - 1) / i.aZ - e.start / i.aZ)=(e.start+e.count - 1) / i.aZ - e.start / i.aZ:=ay (by omega)
     have W7:IntKind.i64.wrap ((e.start+e.count - 1) / i.aZ - e.start / i.aZ+1)=(e.start+e.count - 1) / i.aZ - e.start / i.aZ+1:=ay (by omega)
     unfold aW
     rw [ah LP rfl];simp only [IJ,aG,Nat.reduceBEq,Nat.reduceLeDiff,Nat.reduceAdd,List.length_cons,List.length_nil]
     simp only [F0,F1,F2,F3,W1,W2,W3,W4,W5,W6,W7,Q1,Q2,Zg,ak,Nat.reduceMul,Nat.reduceBEq,Nat.reduceLT,Nat.reduceLeDiff,reduceCtorEq,Nat.reduceEqDiff,Nat.reduceAdd,Nat.beq]
end Go.Proofs.YtdahanchdjadiaaDoor.V

namespace Go.Proofs.YtdahanchdjadiaaDoor.V
def yR (s:Int) (n:Nat):List (List PV):=(List.range n).map fun (j:Nat)=>[PV.int .i64 (s+(j:Int))]
theorem Jd (s:Int) (n:Nat):yR s (n+1)=yR s n++[[.int .i64 (s+(n:Int))]]:=by simp [yR,List.range_succ]
theorem uZ (s:Int) (n:Nat):(yR s n).length=n:=by simp [yR]
theorem acz (s:Int) {n m:Nat} (h:m≤n):(yR s n).take m=yR s m:=by
 unfold yR
 rw [← List.map_take,List.take_range,Nat.min_eq_left h]
theorem QX {s:Int} {n j:Nat} {x:List PV} (h:(yR s n)[j]?=some x):j<n∧x=[.int .i64 (s+(j:Int))]:=by
 have hj:=(List.getElem?_eq_some_iff.1 h).1
 rw [uZ] at hj
 refine ⟨hj,?_⟩
 unfold yR at h
 rw [List.getElem?_map,List.getElem?_range hj] at h
 simpa using h.symm
theorem ae9 {s:Int} {n:Nat} (hs:0≤s∧s≤100000) (hn:n≤100000)
  {st:St} (h:st.head [0,1,5,6] st.boxes.length=some ⟨[.pV,.pv (.dH [.int .i64 s,.int .i64 n] 0),.any,.any,.any,.pv (.int .i64 n),.pv (.int .i64 (0:Nat)),.any,.any,.any,.any,.any,.any,.any,.any,.any,.any],[],[],some none⟩) :
  den env yQ st=some (.normal,⟨[.any,.any,.any,.any,.any,.any,.any,.any,.any,.any,.any,.any,.any,.any,.any,.any,.any],[],yR s n,some none⟩):=by
 unfold yQ
 refine dw (env:=env) n (fun i=>⟨[.pV,.pv (.dH [.int .i64 s,.int .i64 n] 0),.any,.any,.any,.pv (.int .i64 n),.pv (.int .i64 i),.any,.any,.any,.any,.any,.any,.any,.any,.any,.any],[],yR s i,some none⟩) (fun _=>some (.normal,⟨[.any,.any,.any,.any,.any,.any,.any,.any,.any,.any,.any,.any,.any,.any,.any,.any,.any],[],yR s n,some none⟩)) h (fun _=>rfl) (fun _=>rfl) ?_ ?_
 ·intro i rb hi ih
  have hi1:=dN hi (by unfold lim;omega)
  have F1:((i:Int)<(n:Int))=True:=eq_true (by omega)
  have W1:IntKind.i64.wrap (s+(i:Int))=s+(i:Int):=ay (by omega)
  simp only [yP,F1,W1,bW,reduceCtorEq,Nat.reduceEqDiff,Nat.reduceAdd,Nat.reduceLT,Nat.reduceLeDiff,Nat.beq]
  rw [ih _ (by simp only [hi1];rw [Jd];rfl)]
 ·intro rb
  simp only [yP,Int.lt_irrefl,bW,reduceCtorEq,Nat.reduceEqDiff,Nat.reduceAdd,Nat.reduceLT,Nat.reduceLeDiff,Nat.beq]
  rfl
theorem acA {s:Int} {n m:Nat} (hs:0≤s∧s≤100000) (hn:n≤100000) (hm:m<n)
  {st:St} (h:st.head [0,1,5,6] st.boxes.length=some ⟨[.pV,.pv (.dH [.int .i64 s,.int .i64 n] 0),.any,.any,.any,.pv (.int .i64 n),.pv (.int .i64 (0:Nat)),.any,.any,.any,.any,.any,.any,.any,.any,.any,.any],[],[],some (some (m+1))⟩) :
  den env yQ st=some (.ret,⟨[.any,.any,.any,.any,.any,.any,.any,.any,.any,.any,.any,.any,.any,.any,.any,.any,.any],[],yR s (m+1),some (some (m+1))⟩):=by
 unfold yQ
 refine dw (env:=env) m (fun i=>⟨[.pV,.pv (.dH [.int .i64 s,.int .i64 n] 0),.any,.any,.any,.pv (.int .i64 n),.pv (.int .i64 i),.any,.any,.any,.any,.any,.any,.any,.any,.any,.any],[],yR s i,some (some (m+1))⟩) (fun _=>some (.ret,⟨[.any,.any,.any,.any,.any,.any,.any,.any,.any,.any,.any,.any,.any,.any,.any,.any,.any],[],yR s (m+1),some (some (m+1))⟩)) h (fun _=>rfl) (fun _=>rfl) ?_ ?_
 ·intro i rb hi ih
  have hi1:=dN hi (by unfold lim;omega)
  have F1:((i:Int)<(n:Int))=True:=eq_true (by omega)
  have F2:((yR s i).length<m+1)=True:=eq_true (by rw [uZ];omega)
  have F3:((yR s i).length+1==m+1)=false:=by rw [uZ];simp;omega
  have W1:IntKind.i64.wrap (s+(i:Int))=s+(i:Int):=ay (by omega)
  simp only [yP,F1,F2,F3,W1,bW,reduceCtorEq,Nat.reduceEqDiff,Nat.reduceAdd,Nat.reduceLT,Nat.reduceLeDiff,Nat.beq]
  rw [ih _ (by simp only [hi1];rw [Jd];rfl)]
 ·intro rb
  have F1:((m:Int)<(n:Int))=True:=eq_true (by omega)
  have F2:((yR s m).length<m+1)=True:=eq_true (by rw [uZ];omega)
  have F3:((yR s m).length+1==m+1)=true:=by rw [uZ];simp
  have W1:IntKind.i64.wrap (s+(m:Int))=s+(m:Int):=ay (by omega)
  simp only [yP,F1,F2,F3,W1,bW,reduceCtorEq,Nat.reduceEqDiff,Nat.reduceAdd,Nat.reduceLT,Nat.reduceLeDiff,Nat.beq]
  rw [Jd]
  rfl
theorem Zo {s:Int} {n:Nat} (hs:0≤s∧s≤100000) (hn:n≤100000):iter env 64 [.dH [.int .i64 s,.int .i64 n] 0] none=some (yR s n):=by
 rw [vZ adB rfl rfl]
 simp only [UL,Dz,aO,aY,aK,aX,aH,aI,aN,aU,Nat.reduceAdd,Nat.reduceSub]
 simp only [bW,reduceCtorEq,Nat.reduceEqDiff,Nat.reduceAdd,Nat.reduceLT,Nat.reduceLeDiff,Nat.beq]
 rw [ae9 hs hn]
 rotate_left
 ·rfl
 ·rfl
theorem acB {s:Int} {n m:Nat} (hs:0≤s∧s≤100000) (hn:n≤100000) (hm:m<n):iter env 64 [.dH [.int .i64 s,.int .i64 n] 0] (some (m+1))=some ((yR s n).take (m+1)):=by
 rw [acz s (by omega),vZ adB rfl rfl]
 simp only [UL,Dz,aO,aY,aK,aX,aH,aI,aN,aU,Nat.reduceAdd,Nat.reduceSub]
 simp only [bW,reduceCtorEq,Nat.reduceEqDiff,Nat.reduceAdd,Nat.reduceLT,Nat.reduceLeDiff,Nat.beq]
 rw [acA hs hn hm]
 rotate_left
 ·rfl
 ·rfl
theorem adQ {e:bD}:cal env 40 [aW e]=some [(.func 64 [.dH [.int .i64 e.start,.int .i64 e.count] 0],false)]:=by
 unfold aW
 rw [ah agQ rfl];simp only [Yg];simp only [start,aO,aY,aK,aX,aH,aI,aN,aU,Nat.reduceAdd,Nat.reduceSub]
 simp only [bW,reduceCtorEq,Nat.reduceEqDiff,Nat.reduceAdd,Nat.reduceLT,Nat.reduceLeDiff,Nat.beq]
def xE (n:Int):Int:=if n=4096 then 0 else n+1
def pY (n:Int):Int:=if n=4096 then 6 else 0
def sU (n:Int):Int:=if n=0 then 0 else n - 1
def nV (n:Int):Int:=if n=0 then 12 else 0
theorem ahy {n:Int} (hn:0≤n∧n≤4096):cal env 39 [.int .i64 n]=some [(.int .i64 (xE n),false),(.int .i64 (pY n),false)]:=by
 have W:IntKind.i64.wrap (n+1)=n+1:=ay (by omega)
 unfold xE pY
 by_cases c:n=4096
 ·have F1:(n==4096)=true:=by simp [c]
  rw [if_pos c,if_pos c]
  rw [ah adz rfl];simp only [UJ];simp only [start,aO,aY,aK,aX,aH,aI,aN,aU,Nat.reduceAdd,Nat.reduceSub]
  simp only [F1,bW,reduceCtorEq,Nat.reduceEqDiff,Nat.reduceAdd,Nat.reduceLT,Nat.reduceLeDiff,Nat.beq]
 ·have F1:(n==4096)=false:=by simp [c]
  rw [if_neg c,if_neg c]
  rw [ah adz rfl];simp only [UJ];simp only [start,aO,aY,aK,aX,aH,aI,aN,aU,Nat.reduceAdd,Nat.reduceSub]
  simp only [F1,W,bW,reduceCtorEq,Nat.reduceEqDiff,Nat.reduceAdd,Nat.reduceLT,Nat.reduceLeDiff,Nat.beq]
theorem ahz {n:Int} (hn:0≤n∧n≤4096):cal env 43 [.int .i64 n]=some [(.int .i64 (sU n),false),(.int .i64 (nV n),false)]:=by
 have W:IntKind.i64.wrap (n - 1)=n - 1:=ay (by omega)
 unfold sU nV
 by_cases c:n=0
 ·have F1:(n==0)=true:=by simp [c]
  rw [if_pos c,if_pos c]
  rw [ah adA rfl];simp only [UK];simp only [start,aO,aY,aK,aX,aH,aI,aN,aU,Nat.reduceAdd,Nat.reduceSub]
  simp only [F1,bW,reduceCtorEq,Nat.reduceEqDiff,Nat.reduceAdd,Nat.reduceLT,Nat.reduceLeDiff,Nat.beq]
 ·have F1:(n==0)=false:=by simp [c]
  rw [if_neg c,if_neg c]
  rw [ah adA rfl];simp only [UK];simp only [start,aO,aY,aK,aX,aH,aI,aN,aU,Nat.reduceAdd,Nat.reduceSub]
  simp only [F1,W,bW,reduceCtorEq,Nat.reduceEqDiff,Nat.reduceAdd,Nat.reduceLT,Nat.reduceLeDiff,Nat.beq]
end Go.Proofs.YtdahanchdjadiaaDoor.V

namespace Go.Proofs.YtdahanchdjadiaaDoor.V
theorem Zp {i:fZ}:jR i 0=true ↔ ∀ g (h:g<i.act.length),DR i g i.act[g]=false:=by
 unfold jR
 rw [List.drop_zero,List.all_eq_true]
 constructor
 ·intro h g hg
  have:=h g (List.mem_range.2 hg)
  rw [List.getD_eq_getElem?_getD,List.getElem?_eq_getElem hg] at this
  simpa using this
 ·intro h g hg
  have hg:=List.mem_range.1 hg
  rw [List.getD_eq_getElem?_getD,List.getElem?_eq_getElem hg]
  simpa using h g hg
theorem bU {i:fZ}:gG i=true ↔ lI i.size i.aZ=true∧(i.act.length:Int)=lY i.size i.aZ∧okB i.bm=true∧i.bm.size=(i.act.length:Int)∧∀ g (h:g<i.act.length),DR i g i.act[g]=false:=by
 unfold gG ae6
 rw [Bool.and_eq_true,Zp]
 simp [and_assoc]
theorem yV {i:fZ} {g:Nat} {n:Int} (h:DR i g n=false):(0≤n∧n≤4096)∧(0<n→uX i.bm g=true):=by
 unfold DR at h
 simp only [Bool.or_eq_false_iff,decide_eq_false_iff_not,Bool.and_eq_false_iff,Bool.not_eq_false'] at h
 obtain ⟨h1,h2,h3⟩:=h
 refine ⟨by omega,fun h4=>?_⟩
 rcases h3 with h3|h3
 ·omega
 ·simpa using h3
theorem afa {i:fZ} (h:gG i=true) {g:Nat} (hg:g<i.act.length):0≤i.act[g]∧i.act[g]≤4096:=(yV ((bU.1 h).2.2.2.2 g hg)).1
def jS (v:Int→Int) (l:List Int) (s j:Nat):List Int:=l.mapIdx fun k n=>if s≤k∧k<s+j then v n else n
theorem dU (v:Int→Int) (l:List Int) (s j:Nat):(jS v l s j).length=l.length:=by simp [jS]
theorem nX {v:Int→Int} {l:List Int} {s j k:Nat} (h:k<(jS v l s j).length):(jS v l s j)[k]=if s≤k∧k<s+j then v (l[k]'(by rw [dU] at h;exact h)) else l[k]'(by rw [dU] at h;exact h):=List.getElem_mapIdx
theorem xG (v:Int→Int) (l:List Int) (s:Nat):jS v l s 0=l:=by
 apply List.ext_getElem
 ·exact dU ..
 ·intro k h1 h2
  rw [nX,if_neg (by omega)]
theorem Vg (v:Int→Int) {l:List Int} {s j:Nat} (h:s+j<l.length):(jS v l s j)[s+j]?=some l[s+j]:=by
 rw [List.getElem?_eq_getElem (by rw [dU];exact h),nX,if_neg (by omega)]
theorem Vh (v:Int→Int) {l:List Int} {s j:Nat} (h:s+j<l.length):(jS v l s j).set (s+j) (v l[s+j])=jS v l s (j+1):=by
 apply List.ext_getElem
 ·simp [dU]
 ·intro k h1 h2
  rw [List.getElem_set,nX,nX]
  split
  ·subst_vars;rw [if_pos (by omega)]
  ·by_cases c:s≤k∧k<s+j
   ·rw [if_pos c,if_pos (by omega)]
   ·rw [if_neg c,if_neg (by omega)]
def zT (er:Int→Int) (l:List Int) (s c:Nat):Int:=match ((l.drop s).take c).find? fun n=>er n != 0 with
 |some n=>er n
 |none=>0
theorem pO (er:Int→Int) {l:List Int} {s c:Nat} (h:s+c≤l.length):(zT er l s c=0∧∀ j (hj:j<c),er (l[s+j]'(by omega))=0)∨∃ m,∃ hm:m<c,(∀ j (hj:j<m),er (l[s+j]'(by omega))=0)∧er (l[s+m]'(by omega))≠0∧zT er l s c=er (l[s+m]'(by omega)):=by
 induction c generalizing s with
 |zero=>exact .inl ⟨by simp [zT],fun j hj=>by omega⟩
 |succ c ih =>
  have hs:s<l.length:=by omega
  have e:zT er l s (c+1)=if er l[s]=0 then zT er l (s+1) c else er l[s]:=by
   unfold zT
   rw [List.drop_eq_getElem_cons hs,List.take_succ_cons,List.find?_cons]
   by_cases c0:er l[s]=0
   ·rw [if_pos c0];simp [c0]
   ·rw [if_neg c0]
    have:(er l[s] != 0)=true:=by simp [c0]
    rw [this]
  rw [e]
  by_cases c0:er l[s]=0
  ·rw [if_pos c0]
   rcases ih (s:=s+1) (by omega) with ⟨h1,h2⟩|⟨m,hm,h1,h2,h3⟩
   ·refine .inl ⟨h1,fun j hj=>?_⟩
    cases j with
    |zero=>exact c0
    |succ j =>
     have:=h2 j (by omega)
     simp only [show s+1+j=s+(j+1) by omega] at this
     exact this
   ·refine .inr ⟨m+1,by omega,fun j hj=>?_,?_,?_⟩
    ·cases j with
     |zero=>exact c0
     |succ j =>
      have:=h1 j (by omega)
      simp only [show s+1+j=s+(j+1) by omega] at this
      exact this
    ·simp only [show s+1+m=s+(m+1) by omega] at h2
     exact h2
    ·rw [h3]
     simp only [show s+1+m=s+(m+1) by omega]
  ·rw [if_neg c0]
   exact .inr ⟨0,by omega,fun j hj=>by omega,c0,rfl⟩
def BX (er:Int→Int) (i:fZ) (e:bD):Int:=if gG i=false then 3 else if lZ i.size e=false then 2 else zT er i.act (jd i.size i.aZ e).start.toNat (jd i.size i.aZ e).count.toNat
def JH (v er:Int→Int) (i:fZ) (e:bD):fZ:=if BX er i e=0 then { i with act:=jS v i.act (jd i.size i.aZ e).start.toNat (jd i.size i.aZ e).count.toNat } else Ve
def cgX (er:Int→Int) (i:fZ) (e:bD):bD:=if BX er i e=0 then jd i.size i.aZ e else ⟨0,0⟩
theorem Zq {es:List PV} (hl:es.length≤lim):cal env 44 [.list 1 es]=some [(.list 1 es,true)]:=(BH agS).trans (if_pos ⟨rfl,hl⟩)
set_option maxRecDepth 20000 in
theorem adR {f:Nat} {v er:Int→Int} (hf:∀ n,0≤n∧n≤4096→cal env f [.int .i64 n]=some [(.int .i64 (v n),false),(.int .i64 (er n),false)]) {i:fZ} {e:bD} (hl:i.act.length≤lim) :
  cal env 38 [kL i,aW e,.func f []]=some [(kL (JH v er i e),false),(aW (cgX er i e),false),(.int .i64 (BX er i e),false)]:=by
 have e0:=Zm (i:=i) hl
 have AU:kL i=.agg [.int .i64 i.size,.int .i64 i.aZ,.list 1 (i.act.map eI),.int .i64 i.bm.size,.list 1 (i.bm.ws.map eW)]:=rfl
 have eX:aW e=.agg [.int .i64 e.start,.int .i64 e.count]:=rfl
 have hz:aW ⟨0,0⟩=.agg [.int .i64 0,.int .i64 0]:=rfl
 have Z0:((0:Int) != 0)=false:=rfl
 have Z3:((3:Int) != 0)=true:=rfl
 have Z2:((2:Int) != 0)=true:=rfl
 have N3:¬ ((3:Int)=0):=by decide
 have N2:¬ ((2:Int)=0):=by decide
 unfold Zj at e0
 cases c0:gG i with
 |false =>
  have hE:BX er i e=3:=by unfold BX;rw [c0];rfl
  unfold JH cgX
  rw [hE,if_neg N3,if_neg N3,hz,iy]
  rw [c0] at e0
  rw [AU] at e0 ⊢
  rw [eX]
  rw [ah QF rfl];simp only [LD,aG,Nat.reduceBEq,Nat.reduceLeDiff,Nat.reduceAdd,List.length_cons,List.length_nil]
  simp only [e0,Z3,ak,Nat.reduceMul,Nat.reduceBEq,Nat.reduceLT,Nat.reduceLeDiff,reduceCtorEq,Nat.reduceEqDiff,Nat.reduceAdd,Nat.beq]
 |true =>
  obtain ⟨h1,h2,h3,h4,h5⟩:=bU.1 c0
  rw [c0,if_pos rfl] at e0
  have e1:=ahx (i:=i) (e:=e) h1
  unfold ae8 at e1
  have P5:∀ a b c d e:PV,part [a,b,c,d,e] 0 (some 5)=some (.agg [a,b,c,d,e]):=fun _ _ _ _ _=>rfl
  have P2:∀ a b:PV,part [a,b] 0 (some 2)=some (.agg [a,b]):=fun _ _=>rfl
  cases c1:lZ i.size e with
  |false =>
   have hE:BX er i e=2:=by unfold BX;rw [c0,c1];rfl
   unfold JH cgX
   rw [hE,if_neg N2,if_neg N2,hz,iy]
   have ht:jd i.size i.aZ e=⟨0,0⟩:=by unfold jd;rw [c1];rfl
   rw [c1,ht,hz,if_neg (by decide)] at e1
   rw [AU] at e0 e1 ⊢
   rw [eX] at e1 ⊢
   rw [ah QF rfl];simp only [LD,aG,Nat.reduceBEq,Nat.reduceLeDiff,Nat.reduceAdd,List.length_cons,List.length_nil]
   simp only [e0,e1,Z0,Z2,P5,P2,ak,Nat.reduceMul,Nat.reduceBEq,Nat.reduceLT,Nat.reduceLeDiff,reduceCtorEq,Nat.reduceEqDiff,Nat.reduceAdd,Nat.beq]
  |true =>
   have hgl:=lq h1
   obtain ⟨t1,t2,t3⟩:=zS h1 c1
   have e2:=adQ (e:=jd i.size i.aZ e)
   have e4:=Zq (es:=i.act.map eI) (by simpa using hl)
   have hE:BX er i e=zT er i.act (jd i.size i.aZ e).start.toNat (jd i.size i.aZ e).count.toNat:=by unfold BX;rw [c0,c1];rfl
   rw [c1,if_pos rfl] at e1
   unfold JH cgX
   rw [hE]
   generalize jd i.size i.aZ e=t at *
   obtain ⟨ts,tc⟩:=t
   simp only at t1 t2 t3
   obtain ⟨s,rfl⟩:∃ s:Nat,ts=(s:Int):=⟨ts.toNat,by omega⟩
   obtain ⟨c,rfl⟩:∃ c:Nat,tc=(c:Int):=⟨tc.toNat,by omega⟩
   simp only [Int.toNat_natCast]
   have hx:aW ⟨(s:Int),(c:Int)⟩=.agg [.int .i64 (s:Int),.int .i64 (c:Int)]:=rfl
   rw [hx] at e1 e2
   rw [AU] at e0 e1 ⊢
   rw [eX] at e1 ⊢
   have hlen:i.act.length≤4096:=by have:=(bT.1 h1).2.1;omega
   have hsc:s+c≤i.act.length:=by omega
   have hit:=Zo (s:=(s:Int)) (n:=c) (by omega) (by omega)
   have hb0:(i.act.map eI)=(jS v i.act s 0).map eI:=by rw [xG]
   have hset:∀ j (hj:j<c),((jS v i.act s j).map eI).set (s+j) (.int .i64 (v (i.act[s+j]'(by omega))))=(jS v i.act s (j+1)).map eI:=fun j hj=>by
    rw [← Vh v (show s+j<i.act.length by omega),List.map_set];rfl
   have hget:∀ j (hj:j<c),((jS v i.act s j).map eI)[s+j]?=some (.int .i64 (i.act[s+j]'(by omega))):=fun j hj=>by
    rw [List.getElem?_map,Vg v (show s+j<i.act.length by omega)];rfl
   have hcl:∀ j,(jS v i.act s j).length=i.act.length:=fun j=>dU ..
   have hact:∀ j (hj:j<c),0≤i.act[s+j]'(by omega)∧i.act[s+j]'(by omega)≤4096:=fun j hj=>afa c0 _
   have PL:∀ j (hj:j<c),cal env f [.int .i64 (i.act[s+j]'(by omega))]=some [(.int .i64 (v (i.act[s+j]'(by omega))),false),(.int .i64 (er (i.act[s+j]'(by omega))),false)]:=fun j hj=>hf _ (hact j hj)
   rcases pO er hsc with ⟨b1,b2⟩|⟨m,hm,b1,b2,b3⟩
   ·rw [if_pos b1,if_pos b1,b1,hx]
    rw [ah QF rfl];simp only [LD];simp only [start,aO,aY,aK,aX,aH,aI,aN,aU,Nat.reduceAdd,Nat.reduceSub]
    simp only [e0,e1,e2,e4,Z0,Z2,P5,P2,List.length_map,bW,reduceCtorEq,Nat.reduceEqDiff,Nat.reduceAdd,Nat.reduceLT,Nat.reduceLeDiff,Nat.beq]
    rw [BQ (env:=env) (fun j=>[⟨false,[.pv (.int .i64 i.size),.pv (.int .i64 i.aZ),.row 1 ((jS v i.act s j).map eI),.pv (.int .i64 i.bm.size),.pv (.list 1 (i.bm.ws.map eW))]⟩,⟨false,[.pv (.int .i64 e.start),.pv (.int .i64 e.count)]⟩,⟨false,[.pv (.func f [])]⟩,⟨false,[.pv (.int .i64 0),.pv (.int .i64 0),.row 1 [],.pv (.int .i64 0),.row 1 []]⟩,⟨false,[.pv (.int .i64 0),.pv (.int .i64 0)]⟩,⟨false,[.pv (.int .i64 0)]⟩,⟨false,[.pv (.int .i64 (s:Int)),.pv (.int .i64 (c:Int))]⟩,⟨false,[.pv (.int .i64 0)]⟩]) (xs:=yR s c) rfl hit (by simp only [xG]) ?_]
    ·simp only [uZ,kL,wG,bW,reduceCtorEq,Nat.reduceEqDiff,Nat.reduceAdd,Nat.reduceLT,Nat.reduceLeDiff,Nat.beq]
    ·intro j x hj sl0
     obtain ⟨hjc,rfl⟩:=QX hj
     have g1:=hget j hjc
     have g2:=hset j hjc
     have g3:=PL j hjc
     have g4:er (i.act[s+j]'(by omega))=0:=b2 j hjc
     rw [g4] at g3
     have g5:(s:Int)+(j:Int)=((s+j:Nat):Int):=by omega
     have g6:index (.int .i64 ((s+j:Nat):Int)) i.act.length=some (s+j):=aj (by omega)
     rw [g5]
     refine ⟨?_,?_⟩
     rotate_left
     ·simp only [BK,BL,g1,g2,g3,g6,hcl,Z0,List.length_map,wG,bW,reduceCtorEq,Nat.reduceEqDiff,Nat.reduceAdd,Nat.reduceLT,Nat.reduceLeDiff,Nat.beq]
      rfl
   ·rw [if_neg (by rw [b3];exact b2),if_neg (by rw [b3];exact b2),b3,hz,iy]
    rw [ah QF rfl];simp only [LD];simp only [start,aO,aY,aK,aX,aH,aI,aN,aU,Nat.reduceAdd,Nat.reduceSub]
    simp only [e0,e1,e2,e4,Z0,Z2,P5,P2,List.length_map,bW,reduceCtorEq,Nat.reduceEqDiff,Nat.reduceAdd,Nat.reduceLT,Nat.reduceLeDiff,Nat.beq]
    have ai5:=acB (s:=(s:Int)) (n:=c) (m:=m) (by omega) (by omega) hm
    rw [LU (env:=env) (fun j=>[⟨false,[.pv (.int .i64 i.size),.pv (.int .i64 i.aZ),.row 1 ((jS v i.act s j).map eI),.pv (.int .i64 i.bm.size),.pv (.list 1 (i.bm.ws.map eW))]⟩,⟨false,[.pv (.int .i64 e.start),.pv (.int .i64 e.count)]⟩,⟨false,[.pv (.func f [])]⟩,⟨false,[.pv (.int .i64 0),.pv (.int .i64 0),.row 1 [],.pv (.int .i64 0),.row 1 []]⟩,⟨false,[.pv (.int .i64 0),.pv (.int .i64 0)]⟩,⟨false,[.pv (.int .i64 0)]⟩,⟨false,[.pv (.int .i64 (s:Int)),.pv (.int .i64 (c:Int))]⟩,⟨false,[.pv (.int .i64 0)]⟩]) m (e:=.ret) (s:=⟨[],[⟨false,[.pv (.int .i64 i.size),.pv (.int .i64 i.aZ),.row 1 ((jS v i.act s (m+1)).map eI),.pv (.int .i64 i.bm.size),.pv (.list 1 (i.bm.ws.map eW))]⟩,⟨false,[.pv (.int .i64 e.start),.pv (.int .i64 e.count)]⟩,⟨false,[.pv (.func f [])]⟩,⟨false,[.pv (.int .i64 0),.pv (.int .i64 0),.pv (.list 1 []),.pv (.int .i64 0),.pv (.list 1 [])]⟩,⟨false,[.pv (.int .i64 0),.pv (.int .i64 0)]⟩,⟨false,[.pv (.int .i64 (er (i.act[s+m]'(by omega))))]⟩,⟨false,[.pv (.int .i64 (s:Int)),.pv (.int .i64 (c:Int))]⟩,⟨true,[.pv (.int .i64 (er (i.act[s+m]'(by omega))))]⟩],[],none⟩) rfl hit ai5 (by simp only [xG]) (by rw [uZ];exact hm) ?_ (by intro h;cases h) ?_]
    ·simp only [wG,bW,reduceCtorEq,Nat.reduceEqDiff,Nat.reduceAdd,Nat.reduceLT,Nat.reduceLeDiff,Nat.beq]
    ·intro j x hjm hj sl0
     obtain ⟨hjc,rfl⟩:=QX hj
     have g1:=hget j hjc
     have g2:=hset j hjc
     have g3:=PL j hjc
     have g4:er (i.act[s+j]'(by omega))=0:=b1 j hjm
     rw [g4] at g3
     have g5:(s:Int)+(j:Int)=((s+j:Nat):Int):=by omega
     have g6:index (.int .i64 ((s+j:Nat):Int)) i.act.length=some (s+j):=aj (by omega)
     rw [g5]
     refine ⟨?_,?_⟩
     rotate_left
     ·simp only [BK,BL,g1,g2,g3,g6,hcl,Z0,List.length_map,wG,bW,reduceCtorEq,Nat.reduceEqDiff,Nat.reduceAdd,Nat.reduceLT,Nat.reduceLeDiff,Nat.beq]
      rfl
    ·intro x hj sl0
     obtain ⟨hjc,rfl⟩:=QX hj
     have g1:=hget m hjc
     have g2:=hset m hjc
     have g3:=PL m hjc
     have g5:(s:Int)+(m:Int)=((s+m:Nat):Int):=by omega
     have g6:index (.int .i64 ((s+m:Nat):Int)) i.act.length=some (s+m):=aj (by omega)
     have g7:(er (i.act[s+m]'(by omega)) != 0)=true:=by simpa using b2
     rw [g5]
     refine ⟨?_,?_⟩
     rotate_left
     ·simp only [BK,BL,g1,g2,g3,g6,g7,hcl,List.length_map,wG,bW,reduceCtorEq,Nat.reduceEqDiff,Nat.reduceAdd,Nat.reduceLT,Nat.reduceLeDiff,Nat.beq]
      rfl
end Go.Proofs.YtdahanchdjadiaaDoor.V

namespace Go.Proofs.YtdahanchdjadiaaDoor.V
def newG (b:Bm) (s:Int) (n:Nat):Bool:=(List.range n).any fun (k:Nat)=>!uX b (s+(k:Int))
theorem Vj (b:Bm) (s:Int) (n:Nat):newG b s (n+1)=(newG b s n || !uX b (s+(n:Int))):=by
 unfold newG
 rw [List.range_succ,List.any_append]
 simp
def Zt (i:fZ) (e:bD):Int:=BX pY i e
def bgS (i:fZ) (e:bD):Bool:=decide (Zt i e=0)&&newG i.bm (jd i.size i.aZ e).start (jd i.size i.aZ e).count.toNat
def Je (i:fZ) (e:bD):fZ:=if Zt i e=0 then { JH xE pY i e with bm:=xQ JG i.bm (jd i.size i.aZ e) } else Ve
theorem adS {er:Int→Int} {i:fZ} {e:bD} (hn:∀ n,er n=0∨er n=6∨er n=12) (h:BX er i e=0):gG i=true∧lZ i.size e=true:=by
 unfold BX at h
 split at h
 ·cases h
 ·split at h
  ·cases h
  ·rename_i h1 h2
   exact ⟨by simpa using h1,by simpa using h2⟩
theorem DT (n:Int):pY n=0∨pY n=6∨pY n=12:=by unfold pY;split<;>simp
theorem acD {i:fZ} {e:bD} (h:gG i=true) (hb:lZ i.size e=true):BR i.bm (jd i.size i.aZ e)=0:=by
 obtain ⟨h1,h2,h3,h4,h5⟩:=bU.1 h
 obtain ⟨t1,t2,t3⟩:=zS h1 hb
 unfold BR
 have:qZ i.bm.size (jd i.size i.aZ e)=true:=lG.2 (by omega)
 rw [h3,this]
 rfl
set_option maxRecDepth 20000 in
theorem Zu {i:fZ} {e:bD} (hl:i.act.length≤lim) :
  cal env 16 [kL i,aW e]=some [(kL (Je i e),false),(.bool (bgS i e),false),(.int .i64 (Zt i e),false)]:=by
 have e0:=adR (v:=xE) (er:=pY) (fun n hn=>ahy hn) (i:=i) (e:=e) hl
 have AU:∀ i:fZ,kL i=.agg [.int .i64 i.size,.int .i64 i.aZ,.list 1 (i.act.map eI),.int .i64 i.bm.size,.list 1 (i.bm.ws.map eW)]:=fun _=>rfl
 have eX:∀ e:bD,aW e=.agg [.int .i64 e.start,.int .i64 e.count]:=fun _=>rfl
 have P5:∀ a b c d e:PV,part [a,b,c,d,e] 0 (some 5)=some (.agg [a,b,c,d,e]):=fun _ _ _ _ _=>rfl
 have P2:∀ a b:PV,part [a,b] 0 (some 2)=some (.agg [a,b]):=fun _ _=>rfl
 have Z0:((0:Int) != 0)=false:=rfl
 unfold bgS Je Zt
 by_cases c0:BX pY i e=0
 ·obtain ⟨k0,k1⟩:=adS DT c0
  obtain ⟨h1,h2,h3,h4,h5⟩:=bU.1 k0
  obtain ⟨t1,t2,t3⟩:=zS h1 k1
  have hgl:=lq h1
  have hlen:i.act.length≤4096:=by have:=(bT.1 h1).2.1;omega
  have hX:cgX pY i e=jd i.size i.aZ e:=by unfold cgX;rw [if_pos c0]
  have e3:=adL (b:=i.bm) (e:=jd i.size i.aZ e)
  have e2:=adQ (e:=jd i.size i.aZ e)
  rw [acD k0 k1] at e3
  rw [hX,c0] at e0
  rw [if_pos c0,decide_eq_true c0,c0]
  generalize JH xE pY i e=o at *
  generalize jd i.size i.aZ e=t at *
  obtain ⟨ts,tc⟩:=t
  simp only at t1 t2 t3 ⊢
  obtain ⟨s,rfl⟩:∃ s:Nat,ts=(s:Int):=⟨ts.toNat,by omega⟩
  obtain ⟨c,rfl⟩:∃ c:Nat,tc=(c:Int):=⟨tc.toNat,by omega⟩
  simp only [Int.toNat_natCast,Bool.true_and]
  have hit:=Zo (s:=(s:Int)) (n:=c) (by omega) (by omega)
  generalize xQ JG i.bm ⟨(s:Int),(c:Int)⟩=b2 at *
  have eA:∀ b:Bm,qL b=.agg [.int .i64 b.size,.list 1 (b.ws.map eW)]:=fun _=>rfl
  rw [eA,eX,eA] at e3
  simp only [eX] at e2
  simp only [AU,eX] at e0 ⊢
  rw [ah adv rfl];simp only [UE];simp only [start,aO,aY,aK,aX,aH,aI,aN,aU,Nat.reduceAdd,Nat.reduceSub]
  simp only [e0,e2,e3,Z0,P5,P2,dF,List.length_map,bW,reduceCtorEq,Nat.reduceEqDiff,Nat.reduceAdd,Nat.reduceLT,Nat.reduceLeDiff,Nat.beq]
  rw [BQ (env:=env) (fun j=>[⟨false,[.pv (.int .i64 i.size),.pv (.int .i64 i.aZ),.pv (.list 1 (i.act.map eI)),.pv (.int .i64 i.bm.size),.pv (.list 1 (i.bm.ws.map eW))]⟩,⟨false,[.pv (.int .i64 e.start),.pv (.int .i64 e.count)]⟩,⟨false,[.pv (.int .i64 0),.pv (.int .i64 0),.row 1 [],.pv (.int .i64 0),.row 1 []]⟩,⟨false,[.pv (.int .i64 o.size),.pv (.int .i64 o.aZ),.pv (.list 1 (o.act.map eI)),.pv (.int .i64 o.bm.size),.pv (.list 1 (o.bm.ws.map eW))]⟩,⟨false,[.pv (.int .i64 (s:Int)),.pv (.int .i64 (c:Int))]⟩,⟨false,[.pv (.bool (newG i.bm s j))]⟩]) (xs:=yR s c) rfl hit rfl ?_]
  ·simp only [uZ,e3,P5,P2,dF,wG,bW,reduceCtorEq,Nat.reduceEqDiff,Nat.reduceAdd,Nat.reduceLT,Nat.reduceLeDiff,Nat.beq]
  ·intro j x hj sl0
   obtain ⟨hjc,rfl⟩:=QX hj
   have g1:=Zh (b:=i.bm) (s:=(s:Int)+(j:Int))
   rw [eA] at g1
   simp only [Vj]
   cases hb:newG i.bm s j with
   |true =>
    refine ⟨?_,?_⟩
    rotate_left
    ·simp only [Ii,Ij,g1,dF,Bool.true_or,wG,bW,reduceCtorEq,Nat.reduceEqDiff,Nat.reduceAdd,Nat.reduceLT,Nat.reduceLeDiff,Nat.beq]
     rfl
   |false =>
    refine ⟨?_,?_⟩
    rotate_left
    ·simp only [Ii,Ij,g1,dF,Bool.false_or,wG,bW,reduceCtorEq,Nat.reduceEqDiff,Nat.reduceAdd,Nat.reduceLT,Nat.reduceLeDiff,Nat.beq]
     rfl
 ·have hI:JH xE pY i e=Ve:=by unfold JH;rw [if_neg c0]
  have hX:cgX pY i e=⟨0,0⟩:=by unfold cgX;rw [if_neg c0]
  have Zc:(BX pY i e != 0)=true:=by simpa using c0
  rw [hI,hX] at e0
  rw [if_neg c0,decide_eq_false c0,Bool.false_and]
  simp only [eX,iy] at e0 ⊢
  rw [AU] at e0 ⊢
  rw [ah adv rfl];simp only [UE];simp only [start,aO,aY,aK,aX,aH,aI,aN,aU,Nat.reduceAdd,Nat.reduceSub]
  simp only [e0,Zc,P5,P2,bW,reduceCtorEq,Nat.reduceEqDiff,Nat.reduceAdd,Nat.reduceLT,Nat.reduceLeDiff,Nat.beq]
theorem adT {i:fZ} {e:bD} (hl:i.act.length≤lim) :
  cal env 17 [kL i,aW e]=some [(kL (JH sU nV i e),false),(.int .i64 (BX nV i e),false)]:=by
 have e0:=adR (v:=sU) (er:=nV) (fun n hn=>ahz hn) (i:=i) (e:=e) hl
 have AU:∀ i:fZ,kL i=.agg [.int .i64 i.size,.int .i64 i.aZ,.list 1 (i.act.map eI),.int .i64 i.bm.size,.list 1 (i.bm.ws.map eW)]:=fun _=>rfl
 have eX:∀ e:bD,aW e=.agg [.int .i64 e.start,.int .i64 e.count]:=fun _=>rfl
 have P5:∀ a b c d e:PV,part [a,b,c,d,e] 0 (some 5)=some (.agg [a,b,c,d,e]):=fun _ _ _ _ _=>rfl
 have P2:∀ a b:PV,part [a,b] 0 (some 2)=some (.agg [a,b]):=fun _ _=>rfl
 generalize JH sU nV i e=o at *
 generalize BX nV i e=q at *
 generalize cgX nV i e=t at *
 simp only [AU,eX] at e0 ⊢
 rw [ah agK rfl];simp only [Ya];simp only [start,aO,aY,aK,aX,aH,aI,aN,aU,Nat.reduceAdd,Nat.reduceSub]
 simp only [e0,P5,P2,bW,reduceCtorEq,Nat.reduceEqDiff,Nat.reduceAdd,Nat.reduceLT,Nat.reduceLeDiff,Nat.beq]
end Go.Proofs.YtdahanchdjadiaaDoor.V

namespace Go.Proofs.YtdahanchdjadiaaDoor.V
def gq (i:fZ):Nat→Bm × Bool
 |0=>(i.bm,false)
 |k+1=>if i.act.getD k 0=0∧uX i.bm k=true then (xQ clW (gq i k).1 ⟨k,1⟩,true) else gq i k
theorem acE {i:fZ} {k:Nat} (h:k<i.act.length) (h0:i.act[k]=0) (h1:uX i.bm k=true):gq i (k+1)=(xQ clW (gq i k).1 ⟨k,1⟩,true):=by
 rw [gq,if_pos]
 rw [List.getD_eq_getElem?_getD,List.getElem?_eq_getElem h]
 exact ⟨h0,h1⟩
theorem Zv {i:fZ} {k:Nat} (h:k<i.act.length) (h1:¬ (i.act[k]=0∧uX i.bm k=true)):gq i (k+1)=gq i k:=by
 rw [gq,if_neg]
 rw [List.getD_eq_getElem?_getD,List.getElem?_eq_getElem h]
 exact h1
def Zw (i:fZ) (p:Bm × Bool):List BV:=[.pv (.int .i64 i.size),.pv (.int .i64 i.aZ),if p.2 then .pv (.list 1 (i.act.map eI)) else .row 1 (i.act.map eI),.pv (.int .i64 p.1.size),.pv (.list 1 (p.1.ws.map eW))]
theorem sW (i:fZ) (b:Bm):Zw i (b,true)=[.pv (.int .i64 i.size),.pv (.int .i64 i.aZ),.pv (.list 1 (i.act.map eI)),.pv (.int .i64 b.size),.pv (.list 1 (b.ws.map eW))]:=rfl
theorem vg (i:fZ) (b:Bm):Zw i (b,false)=[.pv (.int .i64 i.size),.pv (.int .i64 i.aZ),.row 1 (i.act.map eI),.pv (.int .i64 b.size),.pv (.list 1 (b.ws.map eW))]:=rfl
def QY (i:fZ):Option (Ex × St):=some (.normal,⟨sl 45 [(2,.aP 1 0),(3,.any),(4,.aP 2 0),(5,.pv (.bool (gq i i.act.length).2))],[⟨false,pK i⟩,⟨false,[.pv (.int .i64 0),.pv (.int .i64 0),.row 1 [],.pv (.int .i64 0),.row 1 []]⟩,⟨false,Zw i (gq i i.act.length)⟩],[],none⟩)
set_option maxRecDepth 20000 in
theorem afb {i0:fZ} (hl:i0.act.length≤lim) {st:St} (h:st.head [1,2,4,5,18,19,20] st.boxes.length=some ⟨sl 45 [(1,.aP 0 0),(2,.aP 1 0),(4,.aP 2 0),(5,.pv (.bool (gq i0 ((0:Nat))).2)),(18,.pv (.list 1 (i0.act.map eI))),(19,.pv (.int .i64 i0.act.length)),(20,.pv (.int .i64 (0:Nat)))],[⟨false,pK i0⟩,⟨false,[.pv (.int .i64 0),.pv (.int .i64 0),.row 1 [],.pv (.int .i64 0),.row 1 []]⟩,⟨false,Zw i0 (gq i0 ((0:Nat)))⟩],[],none⟩) :
  den env Ik st=QY i0:=by
 unfold Ik
 refine dw (env:=env) (nb:=3) (i0.act.length) (fun i=>⟨sl 45 [(1,.aP 0 0),(2,.aP 1 0),(4,.aP 2 0),(5,.pv (.bool (gq i0 (i)).2)),(18,.pv (.list 1 (i0.act.map eI))),(19,.pv (.int .i64 i0.act.length)),(20,.pv (.int .i64 i))],[⟨false,pK i0⟩,⟨false,[.pv (.int .i64 0),.pv (.int .i64 0),.row 1 [],.pv (.int .i64 0),.row 1 []]⟩,⟨false,Zw i0 (gq i0 (i))⟩],[],none⟩) (fun i=>QY i0) h (fun _=>rfl) (fun _=>by simp only [aG,bY,Nat.reduceMul,Nat.reduceBEq,Nat.reduceLT,Nat.reduceLeDiff,Nat.reduceAdd,decide_true,Bool.and_self,Bool.true_and]) ?_ ?_
 ·intro i rb hi ih
  have hi1:=dN hi hl
  have F1:((i:Int)<(i0.act.length:Int))=True:=eq_true (by omega)
  have e1:=Zh (b:=i0.bm) (s:=(i:Int))
  have eA:∀ b:Bm,qL b=.agg [.int .i64 b.size,.list 1 (b.ws.map eW)]:=fun _=>rfl
  have eX:∀ e:bD,aW e=.agg [.int .i64 e.start,.int .i64 e.count]:=fun _=>rfl
  have e2:=ahu (b:=(gq i0 i).1) (e:=⟨(i:Int),1⟩)
  rw [eA] at e1
  have hx:(i0.act.map eI)[i]?=some (.int .i64 i0.act[i]):=by rw [List.getElem?_map,List.getElem?_eq_getElem hi];rfl
  by_cases c0:i0.act[i]=0
  ·have F2:(i0.act[i]==0)=true:=by simpa using c0
   cases c1:uX i0.bm (i:Int) with
   |true =>
    rw [c1] at e1
    have hn:=acE hi c0 c1
    generalize gq i0 i=p at *
    rw [hn] at ih
    generalize xQ clW p.1 ⟨(i:Int),1⟩=b2 at *
    rw [eA,eX,eA] at e2
    obtain ⟨pb,pf⟩:=p
    cases pf with
    |true =>
     simp only [oQ,F1,F2,hx,e1,e2,dF,aj hi,List.length_map,bF,sW,ak,Nat.reduceMul,Nat.reduceBEq,Nat.reduceLT,Nat.reduceLeDiff,reduceCtorEq,Nat.reduceEqDiff,Nat.reduceAdd,Nat.beq]
     rw [ih _ (by simp only [hi1,bF,sW,ak,Nat.reduceMul,Nat.reduceBEq,Nat.reduceLT,Nat.reduceLeDiff,reduceCtorEq,Nat.reduceEqDiff,Nat.reduceAdd,Nat.beq]<;>rfl)]
    |false =>
     simp only [oQ,F1,F2,hx,e1,e2,dF,aj hi,List.length_map,bF,vg,ak,Nat.reduceMul,Nat.reduceBEq,Nat.reduceLT,Nat.reduceLeDiff,reduceCtorEq,Nat.reduceEqDiff,Nat.reduceAdd,Nat.beq]
     rw [ih _ (by simp only [hi1,bF,sW,ak,Nat.reduceMul,Nat.reduceBEq,Nat.reduceLT,Nat.reduceLeDiff,reduceCtorEq,Nat.reduceEqDiff,Nat.reduceAdd,Nat.beq]<;>rfl)]
   |false =>
    rw [c1] at e1
    have hn:=Zv hi (by rw [c1];simp)
    generalize gq i0 i=p at *
    rw [hn] at ih
    obtain ⟨pb,pf⟩:=p
    cases pf with
    |true =>
     simp only [oQ,F1,F2,hx,e1,dF,aj hi,List.length_map,bF,sW,ak,Nat.reduceMul,Nat.reduceBEq,Nat.reduceLT,Nat.reduceLeDiff,reduceCtorEq,Nat.reduceEqDiff,Nat.reduceAdd,Nat.beq]
     rw [ih _ (by simp only [hi1,bF,sW,ak,Nat.reduceMul,Nat.reduceBEq,Nat.reduceLT,Nat.reduceLeDiff,reduceCtorEq,Nat.reduceEqDiff,Nat.reduceAdd,Nat.beq]<;>rfl)]
    |false =>
     simp only [oQ,F1,F2,hx,e1,dF,aj hi,List.length_map,bF,vg,ak,Nat.reduceMul,Nat.reduceBEq,Nat.reduceLT,Nat.reduceLeDiff,reduceCtorEq,Nat.reduceEqDiff,Nat.reduceAdd,Nat.beq]
     rw [ih _ (by simp only [hi1,bF,vg,ak,Nat.reduceMul,Nat.reduceBEq,Nat.reduceLT,Nat.reduceLeDiff,reduceCtorEq,Nat.reduceEqDiff,Nat.reduceAdd,Nat.beq]<;>rfl)]
  ·have F2:(i0.act[i]==0)=false:=by simpa using c0
   have hn:=Zv hi (fun h=>c0 h.1)
   generalize gq i0 i=p at *
   rw [hn] at ih
   obtain ⟨pb,pf⟩:=p
   cases pf with
   |true =>
    simp only [oQ,F1,F2,hx,dF,aj hi,List.length_map,bF,sW,ak,Nat.reduceMul,Nat.reduceBEq,Nat.reduceLT,Nat.reduceLeDiff,reduceCtorEq,Nat.reduceEqDiff,Nat.reduceAdd,Nat.beq]
    rw [ih _ (by simp only [hi1,bF,sW,ak,Nat.reduceMul,Nat.reduceBEq,Nat.reduceLT,Nat.reduceLeDiff,reduceCtorEq,Nat.reduceEqDiff,Nat.reduceAdd,Nat.beq]<;>rfl)]
   |false =>
    simp only [oQ,F1,F2,hx,dF,aj hi,List.length_map,bF,vg,ak,Nat.reduceMul,Nat.reduceBEq,Nat.reduceLT,Nat.reduceLeDiff,reduceCtorEq,Nat.reduceEqDiff,Nat.reduceAdd,Nat.beq]
    rw [ih _ (by simp only [hi1,bF,vg,ak,Nat.reduceMul,Nat.reduceBEq,Nat.reduceLT,Nat.reduceLeDiff,reduceCtorEq,Nat.reduceEqDiff,Nat.reduceAdd,Nat.beq]<;>rfl)]
 ·intro rb
  unfold QY
  generalize gq i0 i0.act.length=p at *
  obtain ⟨pb,pf⟩:=p
  cases pf with
  |true=>simp only [oQ,Int.lt_irrefl,bF,sW,ak,Nat.reduceMul,Nat.reduceBEq,Nat.reduceLT,Nat.reduceLeDiff,reduceCtorEq,Nat.reduceEqDiff,Nat.reduceAdd,Nat.beq]
  |false=>simp only [oQ,Int.lt_irrefl,bF,vg,ak,Nat.reduceMul,Nat.reduceBEq,Nat.reduceLT,Nat.reduceLeDiff,reduceCtorEq,Nat.reduceEqDiff,Nat.reduceAdd,Nat.beq]
def xH (i:fZ):fZ:=if gG i then { i with bm:=(gq i i.act.length).1 } else i
def acF (i:fZ):Bool:=gG i&&(gq i i.act.length).2
theorem adU {i:fZ} (hl:i.act.length≤lim):cal env 18 [kL i]=some [(kL (xH i),false),(.bool (acF i),false)]:=by
 have e0:=Zm (i:=i) hl
 have AU:∀ i:fZ,kL i=.agg [.int .i64 i.size,.int .i64 i.aZ,.list 1 (i.act.map eI),.int .i64 i.bm.size,.list 1 (i.bm.ws.map eW)]:=fun _=>rfl
 have P5:∀ a b c d e:PV,part [a,b,c,d,e] 0 (some 5)=some (.agg [a,b,c,d,e]):=fun _ _ _ _ _=>rfl
 have Z0:((0:Int) != 0)=false:=rfl
 have Z3:((3:Int) != 0)=true:=rfl
 have e4:=Zq (es:=i.act.map eI) (by simpa using hl)
 unfold Zj at e0
 unfold xH acF
 cases c0:gG i with
 |false =>
  rw [c0,if_neg (by decide)] at e0
  rw [if_neg (by decide)]
  rw [AU] at e0 ⊢
  rw [ah adw rfl];simp only [UF,aG,Nat.reduceBEq,Nat.reduceLeDiff,Nat.reduceAdd,List.length_cons,List.length_nil]
  simp only [e0,Z3,P5,ak,Nat.reduceMul,Nat.reduceBEq,Nat.reduceLT,Nat.reduceLeDiff,reduceCtorEq,Nat.reduceEqDiff,Nat.reduceAdd,Nat.beq]
 |true =>
  rw [c0,if_pos rfl] at e0
  rw [if_pos rfl,Bool.true_and]
  simp only [AU] at e0 ⊢
  rw [ah adw rfl];simp only [UF,aG,Nat.reduceBEq,Nat.reduceLeDiff,Nat.reduceAdd,List.length_cons,List.length_nil]
  simp only [e0,e4,Z0,P5,List.length_map,ak,Nat.reduceMul,Nat.reduceBEq,Nat.reduceLT,Nat.reduceLeDiff,reduceCtorEq,Nat.reduceEqDiff,Nat.reduceAdd,Nat.beq]
  rw [afb (i0:=i) hl]
  rotate_left
  ·rw [bF,gq,vg]
   simp only [aG,bY,Nat.reduceMul,Nat.reduceBEq,Nat.reduceLT,Nat.reduceLeDiff,Nat.reduceAdd,decide_true,Bool.and_self,Bool.true_and]<;>rfl
  ·unfold QY
   rw [bF]
   generalize gq i i.act.length=p at *
   obtain ⟨pb,pf⟩:=p
   cases pf with
   |true =>
    rw [sW]
    simp only [e0,e4,Z0,P5,List.length_map,ak,Nat.reduceMul,Nat.reduceBEq,Nat.reduceLT,Nat.reduceLeDiff,reduceCtorEq,Nat.reduceEqDiff,Nat.reduceAdd,Nat.beq]
   |false =>
    rw [vg]
    simp only [e0,e4,Z0,P5,List.length_map,ak,Nat.reduceMul,Nat.reduceBEq,Nat.reduceLT,Nat.reduceLeDiff,reduceCtorEq,Nat.reduceEqDiff,Nat.reduceAdd,Nat.beq]
end Go.Proofs.YtdahanchdjadiaaDoor.V

namespace Go.Proofs.YtdahanchdjadiaaDoor.V
def eY (c:Nat):PV:=.int .u8 (c:Int)
def most:Nat:=9007199254740991
def jF (n:Int):Nat:=if n<0∨n > 9007199254740991 then 0 else n.toNat
theorem acG (n:Int):jF n≤most:=by unfold jF most;split<;>omega
def jH:Nat→Nat→List Nat
 |0,n=>[n % 256]
 |f+1,n=>if n<128 then [n] else (n % 128+128) :: jH f (n / 128)
def wH (n:Nat):List Nat:=jH 8 n
def encI (n:Int):List Nat:=wH (jF n)
def ru (n:Nat):Nat:=(wH n).length - 1
theorem DU:∀ f n,1≤(jH f n).length∧(jH f n).length≤f+1
 |0,n=>by simp [jH]
 |f+1,n=>by
  unfold jH
  split
  ·simp
  ·have:=DU f (n / 128)
   simp only [List.length_cons];omega
theorem Gg:∀ f n,∀ c∈jH f n,c<256
 |0,n,c,h=>by simp [jH] at h;omega
 |f+1,n,c,h=>by
  unfold jH at h
  split at h
  ·simp at h;omega
  ·rcases List.mem_cons.1 h with h|h
   ·omega
   ·exact Gg f (n / 128) c h
theorem L9 (n:Nat):1≤(wH n).length∧(wH n).length≤9:=DU 8 n
theorem l7 (n:Int):1≤(encI n).length∧(encI n).length≤9:=L9 _
theorem rC (n:Int):∀ c∈encI n,c<256:=Gg 8 _
theorem QZ:∀ (f n i:Nat),n<128 ^ (f+1)→i+1<(jH f n).length→128≤n / 128 ^ i∧(jH f n)[i]?=some (n / 128 ^ i % 128+128)
 |0,n,i,hn,hi=>by simp [jH] at hi
 |f+1,n,i,hn,hi=>by
  unfold jH at hi ⊢
  by_cases c:n<128
  ·rw [if_pos c] at hi;simp at hi
  ·rw [if_neg c] at hi ⊢
   cases i with
   |zero=>simp;omega
   |succ i =>
    have h2:n / 128<128 ^ (f+1):=Nat.div_lt_of_lt_mul (by rw [← Nat.pow_succ'];exact hn)
    have:=QZ f (n / 128) i h2 (by simp only [List.length_cons] at hi;omega)
    rw [Nat.div_div_eq_div_mul,← Nat.pow_succ'] at this
    exact ⟨this.1,by rw [List.getElem?_cons_succ];exact this.2⟩
theorem Gh:∀ (f n:Nat),n<128 ^ (f+1)→n / 128 ^ ((jH f n).length - 1)<128∧jH f n=(jH f n).take ((jH f n).length - 1)++[n / 128 ^ ((jH f n).length - 1)]
 |0,n,hn=>by
  have:n<128:=by simpa using hn
  simp [jH];omega
 |f+1,n,hn=>by
  unfold jH
  by_cases c:n<128
  ·rw [if_pos c];simp;exact c
  ·rw [if_neg c]
   have h2:n / 128<128 ^ (f+1):=Nat.div_lt_of_lt_mul (by rw [← Nat.pow_succ'];exact hn)
   obtain ⟨h3,h4⟩:=Gh f (n / 128) h2
   have h5:=(DU f (n / 128)).1
   rw [Nat.div_div_eq_div_mul,← Nat.pow_succ'] at h3 h4
   have e:((n % 128+128) :: jH f (n / 128)).length - 1=(jH f (n / 128)).length - 1+1:=by simp only [List.length_cons];omega
   rw [e]
   refine ⟨h3,?_⟩
   rw [List.take_succ_cons,List.cons_append,← h4]
theorem Mc {n:Nat} (h:n≤most):n<128 ^ (8+1):=by unfold most at h;omega
theorem Q5 {n i:Nat} (h:n≤most) (hi:i<ru n):128≤n / 128 ^ i∧(wH n)[i]?=some (n / 128 ^ i % 128+128):=QZ 8 n i (Mc h) (by unfold ru wH at hi;omega)
theorem zU {n:Nat} (h:n≤most):n / 128 ^ ru n<128∧wH n=(wH n).take (ru n)++[n / 128 ^ ru n]:=Gh 8 n (Mc h)
theorem Vk {n i:Nat} (h:n≤most) (hi:i<ru n):(wH n).take (i+1)=(wH n).take i++[n / 128 ^ i % 128+128]:=by
 have e:=(Q5 h hi).2
 obtain ⟨h1,h2⟩:=List.getElem?_eq_some_iff.1 e
 rw [List.take_succ_eq_append_getElem h1,h2]
def pR:Nat→Nat→Nat→List Nat→Nat × Nat × Nat
 |0,_,_,_=>(3,0,0)
 |_+1,_,_,[]=>(10,0,0)
 |k+1,i,n,b :: l=>if b<128 then (if (b=0∧0<i)∨most<n+b * 128 ^ i then (3,0,0) else (0,n+b * 128 ^ i,i+1)) else pR k (i+1) (n+b % 128 * 128 ^ i) l
def dA (l:List Nat):Nat × Nat × Nat:=pR 8 0 0 l
theorem Gi:∀ (k i n:Nat) (l:List Nat),(pR k i n l).1=0→i<(pR k i n l).2.2∧(pR k i n l).2.2≤i+l.length∧(pR k i n l).2.1≤most
 |0,_,_,_,h=>by simp [pR] at h
 |k+1,_,_,[],h=>by simp [pR] at h
 |k+1,i,n,b :: l,h=>by
  unfold pR at h ⊢
  by_cases c:b<128
  ·rw [if_pos c] at h ⊢
   by_cases c2:(b=0∧0<i)∨most<n+b * 128 ^ i
   ·rw [if_pos c2] at h;simp at h
   ·rw [if_neg c2]
    simp only [List.length_cons]
    omega
  ·rw [if_neg c] at h ⊢
   have:=Gi k (i+1) _ l h
   simp only [List.length_cons]
   omega
theorem Gj {l:List Nat} (h:(dA l).1=0):0<(dA l).2.2∧(dA l).2.2≤l.length∧(dA l).2.1≤most:=by
 unfold dA at h ⊢
 obtain ⟨h1,h2,h3⟩:=Gi 8 0 0 l h
 exact ⟨h1,by omega,h3⟩
theorem Md:∀ (f n i acc:Nat) (rest:List Nat),n<128 ^ (f+1)→(0<i→0<n)→acc+n * 128 ^ i≤most→pR (f+1) i acc (jH f n++rest)=(0,acc+n * 128 ^ i,i+(jH f n).length)
 |0,n,i,acc,rest,hn,h0,hm=>by
  have hn:n<128:=by simpa using hn
  have e:jH 0 n=[n]:=by simp [jH];omega
  rw [e]
  show pR 1 i acc (n :: rest)=_
  unfold pR
  rw [if_pos hn,if_neg (by omega)]
  rfl
 |f+1,n,i,acc,rest,hn,h0,hm=>by
  unfold jH
  by_cases c:n<128
  ·rw [if_pos c]
   show pR (f+2) i acc (n :: rest)=_
   unfold pR
   rw [if_pos c,if_neg (by omega)]
   rfl
  ·rw [if_neg c]
   show pR (f+2) i acc ((n % 128+128) :: (jH f (n / 128)++rest))=_
   unfold pR
   rw [if_neg (by omega)]
   have h2:n / 128<128 ^ (f+1):=Nat.div_lt_of_lt_mul (by rw [← Nat.pow_succ'];exact hn)
   have e1:(n % 128+128) % 128=n % 128:=by omega
   have e2:acc+n % 128 * 128 ^ i+n / 128 * 128 ^ (i+1)=acc+n * 128 ^ i:=by
    rw [Nat.pow_succ',← Nat.mul_assoc,Nat.add_assoc,← Nat.add_mul]
    congr 2
    omega
   rw [e1,Md f (n / 128) (i+1) _ rest h2 (fun _=>by omega) (by rw [e2];exact hm),e2]
   simp only [List.length_cons]
   congr 2
   omega
theorem Vl:∀ (f n:Nat),n<128 ^ f→jH f n=jH (f - 1) n∨f=0
 |0,_,_=>.inr rfl
 |f+1,n,h=>by
  left
  show jH (f+1) n=jH f n
  induction f generalizing n with
  |zero =>
   have h:n<128:=by simpa using h
   simp [jH,h];omega
  |succ f ih =>
   show (if n<128 then [n] else (n % 128+128) :: jH (f+1) (n / 128))=(if n<128 then [n] else (n % 128+128) :: jH f (n / 128))
   by_cases c:n<128
   ·rw [if_pos c,if_pos c]
   ·rw [if_neg c,if_neg c,ih (n / 128) (Nat.div_lt_of_lt_mul (by rw [← Nat.pow_succ'];exact h))]
theorem PN {n:Nat} (h:n≤most):wH n=jH 7 n:=by
 rcases Vl 8 n (by unfold most at h;omega) with e|e
 ·exact e
 ·cases e
theorem acH {n:Nat} (h:n≤most) (rest:List Nat):dA (wH n++rest)=(0,n,(wH n).length):=by
 rw [PN h]
 have:=Md 7 n 0 0 rest (by unfold most at h;omega) (fun e=>absurd e (Nat.lt_irrefl _)) (by simpa using h)
 simpa [dA] using this
end Go.Proofs.YtdahanchdjadiaaDoor.V
