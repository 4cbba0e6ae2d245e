/-
  Part 5 of the texts that the statement stands on.
-/
import Derived.Test.YtioijcfcehhmdaaGreatDoorZ4
import Derived.Lib.SliceRun
import Derived.WalkSpells
import Derived.Test.YtioijcfcehhmdaaGreatDoorRows
import Derived.Tactics
import Derived.Tactics2
import Derived.Defers
import Derived.Recover
import Derived.TacticsInMore
import Derived.RegionIn
import Derived.RecoverIn
import Derived.Laws.Pointers
import Derived.WalkSmall
import Derived.Test.YtioijcfcehhmdaaGreatDoorProg
import Derived.Shelf.SlSortCmp.WholeK
import Derived.Shelf.SlSortCmp.NoneTotal
import Derived.Shelf.SlicesG.Cmp
import Derived.Shelf.Small.Bits
import Derived.Ground.SlsfProg
import Derived.Ground.SlgcProg
import Derived.Ground.NamesProg
set_option linter.all false
namespace Go.Proofs.YtioijcfcehhmdaaGreatDoor
def fn3:VFn:=⟨3,55,[.tmp 6],(.seq (.ops [.box 3 (.t 0),.box 4 (.t 1),.box 5 (.t 2),.asg 6 (.c (.bool false))]) (.seq (.seq (.ops [.load 13 (some 4) (.t 4),.call 14 10 [(.t 13)],.un 15 .not (.t 14)]) (.cond (.t 15) (.seq (.ops [.call 16 11 [],.asg 6 (.t 16)]) .ret) .skip)) (.seq (.ops [.load 18 (some 8) (.t 3),.load 19 (some 4) (.t 4),.aadr 20 (.t 5) (.c (.int .i64 0)) 2 1,.load 21 none (.t 20),.aadr 22 (.t 5) (.c (.int .i64 1)) 2 1,.load 23 none (.t 22),.call 24 12 [(.t 18),(.t 19),(.t 21),(.t 23)],.mov 17 (.t 24),.ext 25 (.t 17) 0,.ext 26 (.t 17) 1,.ext 27 (.t 17) 2,.alloc 7 [(.int .i64 0),(.int .i64 0),(.int .i64 0),(.int .i64 0),(.int .i64 0),(.int .i64 0),(.bool false),(.bool false)],.alloc 8 [(.int .i64 0),(.int .i64 0),(.int .i64 0),(.list 1 []),(.list 3 [])],.store none 8 (.t 7) (.t 25),.store none 5 (.t 8) (.t 26),.asg 9 (.t 27)]) (.seq (.ops [.load 29 (some 8) (.t 3),.load 30 (some 4) (.t 4),.aadr 31 (.t 5) (.c (.int .i64 0)) 2 1,.load 32 none (.t 31),.aadr 33 (.t 5) (.c (.int .i64 1)) 2 1,.load 34 none (.t 33),.call 35 13 [(.t 29),(.t 30),(.t 32),(.t 34)],.mov 28 (.t 35),.ext 36 (.t 28) 0,.ext 37 (.t 28) 1,.ext 38 (.t 28) 2,.alloc 10 [(.int .i64 0),(.int .i64 0),(.int .i64 0),(.int .i64 0),(.int .i64 0),(.int .i64 0),(.bool false),(.bool false)],.alloc 11 [(.int .i64 0),(.int .i64 0),(.int .i64 0),(.list 1 []),(.list 3 [])],.store none 8 (.t 10) (.t 36),.store none 5 (.t 11) (.t 37),.asg 12 (.t 38)]) (.seq (.ops [.load 39 (some 8) (.t 7),.load 40 (some 8) (.t 10),.eqm 41 false [false,false,false,false,false,false,true,true] (.t 39) (.t 40),.mov 42 (.t 41),.grd 42 true (.load 43 (some 5) (.t 8)),.grd 42 true (.load 44 (some 5) (.t 11)),.grd 42 true (.call 45 14 [(.t 43),(.t 44)]),.pick 46 (.t 42) (.t 45) (.c (.bool false)),.mov 47 (.t 46),.grd 47 true (.mov 48 (.t 9)),.grd 47 true (.mov 49 (.t 12)),.grd 47 true (.bin 50 .eql (.t 48) (.t 49)),.pick 51 (.t 47) (.t 50) (.c (.bool false)),.mov 52 (.t 51),.grd 52 true (.call 53 11 []),.pick 54 (.t 52) (.t 53) (.c (.bool false)),.asg 6 (.t 54)]) .ret)))))⟩
def fn10_b0:VCode:=(.seq (.seq (.ops [.mov 4 (.t 3),.fadr 5 (.t 1) 2,.load 6 none (.t 5),.len 7 (.t 6),.bin 8 .lss (.t 4) (.t 7),.mov 9 (.t 8),.grd 9 true (.mov 10 (.t 3)),.grd 9 true (.bin 11 .lss (.t 10) (.c (.int .i64 12))),.pick 12 (.t 9) (.t 11) (.c (.bool false))]) (.cond (.t 12) .skip (.exit 0))) (.seq (.block 1 (.seq (.ops [.fadr 15 (.t 1) 2,.load 16 none (.t 15),.mov 17 (.t 3),.iadr 18 2 (.t 16) (.t 17),.fadr 19 (.t 18) 1,.load 20 none (.t 19),.len 21 (.t 20),.bin 22 .gtr (.t 21) (.c (.int .i64 4))]) (.cond (.t 22) (.seq (.ops [.asg 2 (.c (.bool false))]) .ret) .skip))) (.ops [.mov 13 (.t 3),.bin 14 .add (.t 13) (.c (.int .i64 1)),.asg 3 (.t 14)])))
def fn10_l1:VCode :=
(.clean [1,3] [1,2] (.block 0 (.loop [1,3] fn10_b0)))
def fn10:VFn:=⟨1,38,[.tmp 2],(.seq (.ops [.box 1 (.t 0),.asg 2 (.c (.bool false))]) (.seq (.seq (.ops [.asg 3 (.c (.int .i64 0))])
  fn10_l1) (.seq (.ops [.fadr 23 (.t 1) 1,.load 24 none (.t 23),.len 25 (.t 24),.bin 26 .leq (.t 25) (.c (.int .i64 20)),.mov 27 (.t 26),.grd 27 true (.fadr 28 (.t 1) 2),.grd 27 true (.load 29 none (.t 28)),.grd 27 true (.len 30 (.t 29)),.grd 27 true (.bin 31 .leq (.t 30) (.c (.int .i64 12))),.pick 32 (.t 27) (.t 31) (.c (.bool false)),.mov 33 (.t 32),.grd 33 true (.fadr 34 (.t 1) 3),.grd 33 true (.load 35 none (.t 34)),.grd 33 true (.call 36 42 [(.t 35)]),.pick 37 (.t 33) (.t 36) (.c (.bool false)),.asg 2 (.t 37)]) .ret)))⟩
def fn11:VFn:=⟨0,208,[.tmp 0],(.seq (.ops [.asg 0 (.c (.bool false))]) (.seq (.ops [.mksl 29 1 [(.c (.int .i64 3))],.asg 1 (.t 29)]) (.seq (.ops [.mov 31 (.t 1),.call 32 43 [(.c (.int .i64 0)),(.c (.int .u8 1))],.mksl 33 3 [(.t 32)],.call 34 39 [(.t 31),(.t 33)],.mov 30 (.t 34),.ext 35 (.t 30) 0,.ext 36 (.t 30) 1,.asg 2 (.t 35),.asg 3 (.t 36)]) (.seq (.ops [.mov 38 (.t 1),.call 39 43 [(.c (.int .i64 2)),(.c (.int .u8 2))],.mksl 40 3 [(.t 39)],.call 41 39 [(.t 38),(.t 40)],.mov 37 (.t 41),.ext 42 (.t 37) 0,.ext 43 (.t 37) 1,.asg 4 (.t 42),.asg 5 (.t 43)]) (.seq (.ops [.mov 45 (.t 1),.call 46 43 [(.c (.int .i64 0)),(.c (.int .u8 1))],.call 47 43 [(.c (.int .i64 2)),(.c (.int .u8 2))],.mksl 48 3 [(.t 46),(.t 47)],.call 49 39 [(.t 45),(.t 48)],.mov 44 (.t 49),.ext 50 (.t 44) 0,.ext 51 (.t 44) 1,.asg 6 (.t 50),.asg 7 (.t 51)]) (.seq (.ops [.mov 53 (.t 1),.call 54 43 [(.c (.int .i64 1)),(.c (.int .u8 3))],.mksl 55 3 [(.t 54)],.call 56 39 [(.t 53),(.t 55)],.mov 52 (.t 56),.ext 57 (.t 52) 0,.ext 58 (.t 52) 1,.asg 8 (.t 57),.asg 9 (.t 58)]) (.seq (.ops [.build 59 [(.int .u8 0),(.int .u8 0),(.int .u8 0),(.int .u8 0),(.int .u8 0),(.int .u8 0),(.int .u8 0),(.int .u8 0)] [(0,1,(.c (.int .u8 1)))],.build 60 [(.int .u8 0),(.int .u8 0),(.int .u8 0),(.int .u8 0),(.int .u8 0),(.int .u8 0),(.int .u8 0),(.int .u8 0)] [],.build 61 [(.int .u8 0),(.int .u8 0),(.int .u8 0),(.int .u8 0),(.int .u8 0),(.int .u8 0),(.int .u8 0),(.int .u8 0)] [],.mksl 62 8 [(.t 59),(.t 60),(.t 61)],.mksl 63 1 [(.t 62)],.build 64 [(.int .u8 0),(.int .u8 0),(.int .u8 0),(.int .u8 0),(.int .u8 0),(.int .u8 0),(.int .u8 0),(.int .u8 0)] [],.build 65 [(.int .u8 0),(.int .u8 0),(.int .u8 0),(.int .u8 0),(.int .u8 0),(.int .u8 0),(.int .u8 0),(.int .u8 0)] [],.build 66 [(.int .u8 0),(.int .u8 0),(.int .u8 0),(.int .u8 0),(.int .u8 0),(.int .u8 0),(.int .u8 0),(.int .u8 0)] [(0,1,(.c (.int .u8 2)))],.mksl 67 8 [(.t 64),(.t 65),(.t 66)],.mksl 68 1 [(.t 67)],.build 69 [(.int .u8 0),(.int .u8 0),(.int .u8 0),(.int .u8 0),(.int .u8 0),(.int .u8 0),(.int .u8 0),(.int .u8 0)] [],.build 70 [(.int .u8 0),(.int .u8 0),(.int .u8 0),(.int .u8 0),(.int .u8 0),(.int .u8 0),(.int .u8 0),(.int .u8 0)] [(0,1,(.c (.int .u8 3)))],.build 71 [(.int .u8 0),(.int .u8 0),(.int .u8 0),(.int .u8 0),(.int .u8 0),(.int .u8 0),(.int .u8 0),(.int .u8 0)] [(0,1,(.c (.int .u8 2)))],.mksl 72 8 [(.t 69),(.t 70),(.t 71)],.mksl 73 1 [(.t 72)],.asg 10 (.t 63),.asg 11 (.t 68),.asg 12 (.t 73)]) (.seq (.ops [.mov 75 (.t 10),.mov 76 (.t 2),.call 77 44 [(.t 75),(.t 76)],.mov 78 (.t 11),.mov 79 (.t 4),.call 80 45 [(.t 78),(.t 79)],.call 81 24 [(.t 77),(.t 80),(.c (.int .i64 3))],.mov 74 (.t 81),.ext 82 (.t 74) 0,.ext 83 (.t 74) 1,.ext 84 (.t 74) 2,.alloc 13 [(.int .i64 0),(.int .i64 0),(.int .i64 0),(.int .i64 0),(.int .i64 0),(.int .i64 0),(.bool false),(.bool false)],.store none 8 (.t 13) (.t 82),.asg 14 (.t 83),.asg 15 (.t 84)]) (.seq (.seq (.ops [.mov 85 (.t 15),.bin 86 .neq (.t 85) (.c (.int .i64 0)),.mov 87 (.t 86),.grd 87 false (.fadr 88 (.t 13) 5),.grd 87 false (.load 89 none (.t 88)),.grd 87 false (.bin 90 .neq (.t 89) (.c (.int .i64 5))),.pick 91 (.t 87) (.c (.bool true)) (.t 90),.mov 92 (.t 91),.grd 92 false (.fadr 93 (.t 13) 4),.grd 92 false (.load 94 none (.t 93)),.grd 92 false (.bin 95 .neq (.t 94) (.c (.int .i64 3))),.pick 96 (.t 92) (.c (.bool true)) (.t 95),.mov 97 (.t 96),.grd 97 false (.mov 98 (.t 14)),.grd 97 false (.build 99 [(.int .i64 0),(.int .i64 0)] [(0,1,(.c (.int .i64 0))),(1,1,(.c (.int .i64 1)))]),.grd 97 false (.build 100 [(.int .i64 0),(.int .i64 0)] [(0,1,(.c (.int .i64 2))),(1,1,(.c (.int .i64 1)))]),.grd 97 false (.mksl 101 2 [(.t 99),(.t 100)]),.grd 97 false (.mksl 102 1 [(.t 101)]),.grd 97 false (.call 103 27 [(.t 98),(.t 102)]),.grd 97 false (.un 104 .not (.t 103)),.pick 105 (.t 97) (.c (.bool true)) (.t 104)]) (.cond (.t 105) (.seq (.ops [.asg 0 (.c (.bool false))]) .ret) .skip)) (.seq (.drs [] [2,8,10,11,12,13,15,16,35,57,63,68,73] [.load 107 (some 8) (.t 13),.mov 108 (.t 11),.mov 109 (.t 6),.call 110 45 [(.t 108),(.t 109)],.call 111 12 [(.t 107),(.t 110),(.c (.int .i64 10)),(.c (.int .i64 0))],.mov 106 (.t 111),.ext 112 (.t 106) 0,.ext 113 (.t 106) 1,.ext 114 (.t 106) 2,.alloc 16 [(.int .i64 0),(.int .i64 0),(.int .i64 0),(.list 1 []),(.list 3 [])],.store none 8 (.t 13) (.t 112),.store none 5 (.t 16) (.t 113),.asg 15 (.t 114)]
      [⟨[([0,1,2],3),([],4),([5,6,7,8],9)],(some ([],[],10,[([],11)])),[12],[0,1,2,3,4,5,6,7,8,9,10,11,12],false⟩,⟨[([0,1,2],3),([],9),([],4)],(some ([5,6],[7,8],10,[([],11)])),[12],[0,1,2,3,9,4,5,6,7,8,10,11,12],false⟩,⟨[([0,1,2],9),([],3),([],4)],(some ([5,6],[7,8],10,[([],11)])),[12],[0,1,2,9,3,4,5,6,7,8,10,11,12],false⟩]) (.seq (.ops [.mov 116 (.t 10),.load 117 (some 5) (.t 16),.call 118 36 [(.t 116),(.t 117)],.mov 115 (.t 118),.ext 119 (.t 115) 0,.ext 120 (.t 115) 1,.asg 17 (.t 119),.asg 18 (.t 120)]) (.seq (.drs [] [2,8,10,11,12,13,15,16,17,18,20,35,57,63,68,73,119] [.load 122 (some 8) (.t 13),.mov 123 (.t 17),.mov 124 (.t 2),.call 125 44 [(.t 123),(.t 124)],.mov 126 (.t 12),.mov 127 (.t 8),.call 128 45 [(.t 126),(.t 127)],.call 129 15 [(.t 122),(.t 125),(.t 128)],.mov 121 (.t 129),.ext 130 (.t 121) 0,.ext 131 (.t 121) 1,.alloc 19 [(.int .i64 0),(.int .i64 0),(.int .i64 0),(.int .i64 0),(.int .i64 0),(.int .i64 0),(.bool false),(.bool false)],.store none 8 (.t 19) (.t 130),.asg 20 (.t 131)]
       [⟨[([0,1,2,4,5],3),([],6),([],7),([8,9,10],11)],(some ([],[],12,[])),[13],[0,1,2,4,5,3,6,7,8,9,10,11,12,13],false⟩,⟨[([0,1,2,4,5],3),([],6),([],11),([],7)],(some ([8,9],[10],12,[])),[13],[0,1,2,4,5,3,6,11,7,8,9,10,12,13],false⟩,⟨[([0,1,2,4,5],3),([],11),([],6),([],7)],(some ([8,9],[10],12,[])),[13],[0,1,2,4,5,3,11,6,7,8,9,10,12,13],false⟩,⟨[([0,1,2,4,5],11),([],3),([],6),([],7)],(some ([8,9],[10],12,[])),[13],[0,1,2,4,5,11,3,6,7,8,9,10,12,13],false⟩]) (.seq (.drs [] [2,8,10,11,12,13,15,16,17,18,20,21,22,35,57,63,68,73,119] [.load 133 (some 8) (.t 13),.mov 134 (.t 12),.mov 135 (.t 8),.call 136 45 [(.t 134),(.t 135)],.call 137 12 [(.t 133),(.t 136),(.c (.int .i64 11)),(.c (.int .i64 0))],.mov 132 (.t 137),.ext 138 (.t 132) 0,.ext 139 (.t 132) 1,.ext 140 (.t 132) 2,.alloc 21 [(.int .i64 0),(.int .i64 0),(.int .i64 0),(.list 1 []),(.list 3 [])],.store none 8 (.t 13) (.t 138),.store none 5 (.t 21) (.t 139),.asg 22 (.t 140)]
        [⟨[([0,1,2],3),([],4),([5,6,7,8],9)],(some ([],[],10,[([],11)])),[12],[0,1,2,3,4,5,6,7,8,9,10,11,12],false⟩,⟨[([0,1,2],3),([],9),([],4)],(some ([5,6],[7,8],10,[([],11)])),[12],[0,1,2,3,9,4,5,6,7,8,10,11,12],false⟩,⟨[([0,1,2],9),([],3),([],4)],(some ([5,6],[7,8],10,[([],11)])),[12],[0,1,2,9,3,4,5,6,7,8,10,11,12],false⟩]) (.seq (.ops [.mov 142 (.t 17),.load 143 (some 5) (.t 21),.call 144 36 [(.t 142),(.t 143)],.mov 141 (.t 144),.ext 145 (.t 141) 0,.ext 146 (.t 141) 1,.asg 23 (.t 145),.asg 24 (.t 146)]) (.seq (.drs [] [10,11,12,15,16,18,20,21,22,23,24,25,26,63,68,73,145] [.load 148 (some 8) (.t 13),.mov 149 (.t 23),.mov 150 (.t 2),.call 151 44 [(.t 149),(.t 150)],.mov 152 (.t 12),.mov 153 (.t 8),.call 154 45 [(.t 152),(.t 153)],.call 155 15 [(.t 148),(.t 151),(.t 154)],.mov 147 (.t 155),.ext 156 (.t 147) 0,.ext 157 (.t 147) 1,.alloc 25 [(.int .i64 0),(.int .i64 0),(.int .i64 0),(.int .i64 0),(.int .i64 0),(.int .i64 0),(.bool false),(.bool false)],.store none 8 (.t 25) (.t 156),.asg 26 (.t 157)]
         [⟨[([0,1,2,4,5],3),([],6),([],7),([8,9,10],11)],(some ([],[],12,[])),[13],[0,1,2,4,5,3,6,7,8,9,10,11,12,13],false⟩,⟨[([0,1,2,4,5],3),([],6),([],11),([],7)],(some ([8,9],[10],12,[])),[13],[0,1,2,4,5,3,6,11,7,8,9,10,12,13],false⟩,⟨[([0,1,2,4,5],3),([],11),([],6),([],7)],(some ([8,9],[10],12,[])),[13],[0,1,2,4,5,3,11,6,7,8,9,10,12,13],false⟩,⟨[([0,1,2,4,5],11),([],3),([],6),([],7)],(some ([8,9],[10],12,[])),[13],[0,1,2,4,5,11,3,6,7,8,9,10,12,13],false⟩]) (.seq (.ops [.mov 159 (.t 10),.mov 160 (.t 11),.call 161 17 [(.t 159),(.t 160)],.mov 158 (.t 161),.ext 162 (.t 158) 0,.ext 163 (.t 158) 1,.asg 27 (.t 162),.asg 28 (.t 163)]) (.seq (.seq (.ops [.mov 164 (.t 15),.mov 165 (.t 18),.bin 166 .add (.t 164) (.t 165),.mov 167 (.t 22),.bin 168 .add (.t 166) (.t 167),.mov 169 (.t 24),.bin 170 .add (.t 168) (.t 169),.mov 171 (.t 26),.bin 172 .add (.t 170) (.t 171),.mov 173 (.t 28),.bin 174 .add (.t 172) (.t 173),.bin 175 .neq (.t 174) (.c (.int .i64 0)),.mov 176 (.t 175),.grd 176 false (.mov 177 (.t 20)),.grd 176 false (.bin 178 .neq (.t 177) (.c (.int .i64 22))),.pick 179 (.t 176) (.c (.bool true)) (.t 178),.mov 180 (.t 179),.grd 180 false (.fadr 181 (.t 16) 0),.grd 180 false (.load 182 none (.t 181)),.grd 180 false (.bin 183 .neq (.t 182) (.c (.int .i64 5))),.pick 184 (.t 180) (.c (.bool true)) (.t 183),.mov 185 (.t 184),.grd 185 false (.fadr 186 (.t 21) 0),.grd 185 false (.load 187 none (.t 186)),.grd 185 false (.bin 188 .neq (.t 187) (.c (.int .i64 10))),.pick 189 (.t 185) (.c (.bool true)) (.t 188)]) (.cond (.t 189) (.seq (.ops [.asg 0 (.c (.bool false))]) .ret) .skip)) (.seq (.ops [.fadr 190 (.t 25) 6,.load 191 none (.t 190),.mov 192 (.t 191),.grd 192 true (.mov 193 (.t 23)),.grd 192 true (.mov 194 (.t 12)),.grd 192 true (.call 195 37 [(.t 193),(.t 194)]),.pick 196 (.t 192) (.t 195) (.c (.bool false)),.mov 197 (.t 196),.grd 197 true (.load 198 (some 5) (.t 16)),.grd 197 true (.load 199 (some 5) (.t 21)),.grd 197 true (.mksl 200 5 [(.t 198),(.t 199)]),.grd 197 true (.call 201 20 [(.t 200)]),.grd 197 true (.bin 202 .eql (.t 201) (.c (.int .i64 3))),.pick 203 (.t 197) (.t 202) (.c (.bool false)),.mov 204 (.t 203),.grd 204 true (.mov 205 (.t 27)),.grd 204 true (.bin 206 .eql (.t 205) (.c (.int .i64 2))),.pick 207 (.t 204) (.t 206) (.c (.bool false)),.asg 0 (.t 207)]) .ret))))))))))))))))))⟩
def fn12_b0:VCode:=(.seq (.ops [.bin 71 .lss (.t 70) (.t 69)]) (.seq (.cond (.t 71) .skip (.exit 0)) (.seq (.block 1 (.seq (.ops [.iadr 72 1 (.t 68) (.t 70),.load 73 none (.t 72),.asg 16 (.t 73)]) (.ops [.mov 74 (.t 14),.mov 75 (.t 16),.len 76 (.t 75),.mksl 77 1 [(.t 76)],.app 78 1 (.t 74) (.t 77),.asg 14 (.t 78)]))) (.ops [.bin 79 .add (.t 70) (.c (.int .i64 1)),.mov 70 (.t 79)]))))
def fn12_l1:VCode :=
(.clean [2,8,9,10,11,14,68,69,70,78] [2,8,9,10,11,14] (.block 0 (.loop [2,8,9,10,11,14,68,69,70,78] fn12_b0)))
def fn12:DFn:=⟨4,96,[.cell 8 (some 8),.cell 9 (some 5),.cell 10 none],(.ops [.box 4 (.t 0),.box 5 (.t 1),.alloc 8 [(.int .i64 0),(.int .i64 0),(.int .i64 0),(.int .i64 0),(.int .i64 0),(.int .i64 0),(.bool false),(.bool false)],.alloc 9 [(.int .i64 0),(.int .i64 0),(.int .i64 0),(.list 1 []),(.list 3 [])],.alloc 10 [(.int .i64 0)]]),(.seq (.ops [.load 18 (some 8) (.t 4),.build 19 [(.int .i64 0),(.int .i64 0),(.int .i64 0),(.int .i64 0),(.int .i64 0),(.int .i64 0),(.bool false),(.bool false)] [(0,8,(.t 18))],.alloc 11 [(.int .i64 0),(.int .i64 0),(.int .i64 0),(.int .i64 0),(.int .i64 0),(.int .i64 0),(.bool false),(.bool false)],.store none 8 (.t 11) (.t 19)]) (.seq (.dem [.load 20 (some 8) (.t 11)] 21 48 [(.t 20)]) (.seq (.dem [.load 22 (some 4) (.t 5),.call 23 50 [(.t 22)]] 24 49 [(.t 23)]) (.seq (.dem [.fadr 25 (.t 5) 0,.load 26 none (.t 25),.fadr 27 (.t 11) 0,.fadr 28 (.t 27) 1,.load 29 none (.t 28),.bin 30 .eql (.t 26) (.t 29)] 31 51 [(.t 30),(.c (.int .i64 1))]) (.seq (.dem [.fadr 32 (.t 11) 0,.fadr 33 (.t 32) 6,.load 34 none (.t 33),.un 35 .not (.t 34)] 36 51 [(.t 35),(.c (.int .i64 12))]) (.seq (.dem [.fadr 37 (.t 11) 0,.fadr 38 (.t 37) 3,.load 39 none (.t 38),.bin 40 .lss (.t 39) (.c (.int .i64 4096))] 41 51 [(.t 40),(.c (.int .i64 11))]) (.seq (.ops [.fadr 43 (.t 5) 1,.load 44 none (.t 43),.call 45 52 [(.t 44)],.mov 42 (.t 45),.ext 46 (.t 42) 0,.ext 47 (.t 42) 1,.asg 12 (.t 46),.asg 13 (.t 47)]) (.seq (.dem [.mov 48 (.t 2),.fadr 49 (.t 11) 0,.fadr 50 (.t 49) 5,.load 51 none (.t 50),.bin 52 .gtr (.t 48) (.t 51),.mov 53 (.t 52),.grd 53 true (.mov 54 (.t 2)),.grd 53 true (.mov 55 (.t 13)),.grd 53 true (.bin 56 .geq (.t 54) (.t 55)),.pick 57 (.t 53) (.t 56) (.c (.bool false))] 58 51 [(.t 57),(.c (.int .i64 2))]) (.seq (.drw [] [([0,1,2,3,4,5],6)] (some ([7],[],8,[])) [] [.fadr 59 (.t 11) 0,.fadr 60 (.t 59) 5,.load 61 none (.t 60),.mov 62 (.t 2),.mov 63 (.t 3),.load 64 (some 4) (.t 5),.call 65 53 [(.t 64)],.build 66 [(.int .i64 0),(.int .i64 0),(.int .i64 0),(.list 1 []),(.list 3 [])] [(0,1,(.t 61)),(1,1,(.t 62)),(2,1,(.t 63)),(4,1,(.t 65))],.store none 5 (.t 9) (.t 66)]) (.seq (.ops [.asg 14 (.nil 1)]) (.seq (.seq (.ops [.fadr 67 (.t 5) 3,.load 68 none (.t 67),.len 69 (.t 68),.mov 70 (.c (.int .i64 0))])
       fn12_l1) (.seq (.dem [.load 80 (some 5) (.t 9),.mov 81 (.t 14),.call 82 54 [(.t 80),(.t 81)]] 83 49 [(.t 82)]) (.seq (.ops [.fadr 84 (.t 11) 0,.fadr 85 (.t 84) 3,.load 86 none (.t 85),.bin 87 .add (.t 86) (.c (.int .i64 1)),.fadr 88 (.t 11) 0,.fadr 89 (.t 88) 3,.store none 1 (.t 89) (.t 87)]) (.seq (.ops [.mov 90 (.t 2),.fadr 91 (.t 11) 0,.fadr 92 (.t 91) 5,.store none 1 (.t 92) (.t 90)]) (.seq (.drs [] [8,9,10] [.fadr 93 (.t 11) 0,.load 94 (some 8) (.t 93),.load 95 (some 5) (.t 9),.store none 8 (.t 8) (.t 94),.store none 5 (.t 9) (.t 95),.store none 1 (.t 10) (.c (.int .i64 0))] [⟨[],(some ([0,1],[],3,[([2],4),([],5)])),[],[0,1,3,2,4,5],false⟩,⟨[([0,1],2)],(some ([],[],3,[([],4),([],5)])),[],[0,1,2,3,4,5],false⟩]) .ret))))))))))))))),
148,10,47,(some (17,46,[(8,[(.int .i64 0),(.int .i64 0),(.int .i64 0),(.int .i64 0),(.int .i64 0),(.int .i64 0),(.bool false),(.bool false)]),(9,[(.int .i64 0),(.int .i64 0),(.int .i64 0),(.list 1 []),(.list 3 [])])]))⟩
def fn13_b0:VCode:=(.seq (.seq (.ops [.mov 86 (.t 18),.mov 87 (.t 17),.len 88 (.t 87),.bin 89 .lss (.t 86) (.t 88)]) (.cond (.t 89) .skip (.exit 2))) (.seq (.block 3 (.seq (.ops [.asg 19 (.nil 8)]) (.seq (.drw [] [] (some ([0,1,2,3,4,5,6,7,8,9,10,11,12,13,14,15,16,17,18,19,20,21,22],[],23,[])) [24] [.mov 92 (.t 19),.fadr 93 (.t 5) 3,.load 94 none (.t 93),.mov 95 (.t 16),.iadr 96 1 (.t 94) (.t 95),.load 97 none (.t 96),.mov 98 (.t 17),.mov 99 (.t 18),.iadr 100 2 (.t 98) (.t 99),.fadr 101 (.t 100) 0,.load 102 none (.t 101),.mov 103 (.t 17),.mov 104 (.t 18),.iadr 105 2 (.t 103) (.t 104),.fadr 106 (.t 105) 0,.load 107 none (.t 106),.mov 108 (.t 17),.mov 109 (.t 18),.iadr 110 2 (.t 108) (.t 109),.fadr 111 (.t 110) 1,.load 112 none (.t 111),.bin 113 .add (.t 107) (.t 112),.sli 114 8 (.t 97) (some (.t 102)) (some (.t 113)),.app 115 8 (.t 92) (.t 114),.asg 19 (.t 115)]) (.drw [] [([0,1,2,3,4,5,6,7,8,9],10)] (some ([],[],11,[([12],13)])) [] [.fadr 116 (.t 15) 4,.load 117 none (.t 116),.mov 118 (.t 16),.mov 119 (.t 17),.mov 120 (.t 18),.iadr 121 2 (.t 119) (.t 120),.fadr 122 (.t 121) 0,.load 123 none (.t 122),.mov 124 (.t 19),.build 125 [(.int .i64 0),(.int .i64 0),(.list 0 [])] [(0,1,(.t 118)),(1,1,(.t 123)),(2,1,(.t 124))],.mksl 126 3 [(.t 125)],.app 127 3 (.t 117) (.t 126),.fadr 128 (.t 15) 4,.store none 1 (.t 128) (.t 127)])))) (.ops [.mov 90 (.t 18),.bin 91 .add (.t 90) (.c (.int .i64 1)),.asg 18 (.t 91)])))
def fn13_l1:VCode :=
(.clean [2,4,5,8,9,15,16,17,18,85] [2,4,5,8,9,10,15,16] (.block 2 (.loop [2,4,5,8,9,15,16,17,18,85] fn13_b0)))
def fn13_b2:VCode:=(.seq (.seq (.ops [.mov 73 (.t 16),.fadr 74 (.t 5) 3,.load 75 none (.t 74),.len 76 (.t 75),.bin 77 .lss (.t 73) (.t 76)]) (.cond (.t 77) .skip (.exit 0))) (.seq (.block 1 (.seq (.ops [.fadr 80 (.t 5) 2,.load 81 none (.t 80),.mov 82 (.t 16),.iadr 83 2 (.t 81) (.t 82),.load 84 (some 2) (.t 83),.call 85 57 [(.t 84)],.asg 17 (.t 85)]) (.seq (.ops [.asg 18 (.c (.int .i64 0))])
   fn13_l1))) (.ops [.mov 78 (.t 16),.bin 79 .add (.t 78) (.c (.int .i64 1)),.asg 16 (.t 79)])))
def fn13_l3:VCode :=
(.clean [2,4,5,8,9,15,16] [2,4,5,8,9,10,15] (.block 0 (.loop [2,4,5,8,9,15,16] fn13_b2)))
def fn13:VFn:=⟨4,147,[.cell 8 (some 8),.cell 9 (some 5),.tmp 10],(.seq (.ops [.box 4 (.t 0),.box 5 (.t 1),.alloc 8 [(.int .i64 0),(.int .i64 0),(.int .i64 0),(.int .i64 0),(.int .i64 0),(.int .i64 0),(.bool false),(.bool false)],.alloc 9 [(.int .i64 0),(.int .i64 0),(.int .i64 0),(.list 1 []),(.list 3 [])],.asg 10 (.c (.int .i64 0))]) (.seq (.seq (.ops [.load 21 (some 8) (.t 4),.call 22 29 [(.t 21)],.asg 11 (.t 22)]) (.seq (.ops [.mov 23 (.t 11),.bin 24 .neq (.t 23) (.c (.int .i64 0))]) (.cond (.t 24) (.seq (.ops [.build 25 [(.int .i64 0),(.int .i64 0),(.int .i64 0),(.int .i64 0),(.int .i64 0),(.int .i64 0),(.bool false),(.bool false)] [],.build 26 [(.int .i64 0),(.int .i64 0),(.int .i64 0),(.list 1 []),(.list 3 [])] [],.mov 27 (.t 11),.store none 8 (.t 8) (.t 25),.store none 5 (.t 9) (.t 26),.asg 10 (.t 27)]) .ret) .skip))) (.seq (.seq (.ops [.load 28 (some 4) (.t 5),.call 29 55 [(.t 28)],.asg 12 (.t 29)]) (.seq (.ops [.mov 30 (.t 12),.bin 31 .neq (.t 30) (.c (.int .i64 0))]) (.cond (.t 31) (.seq (.ops [.build 32 [(.int .i64 0),(.int .i64 0),(.int .i64 0),(.int .i64 0),(.int .i64 0),(.int .i64 0),(.bool false),(.bool false)] [],.build 33 [(.int .i64 0),(.int .i64 0),(.int .i64 0),(.list 1 []),(.list 3 [])] [],.mov 34 (.t 12),.store none 8 (.t 8) (.t 32),.store none 5 (.t 9) (.t 33),.asg 10 (.t 34)]) .ret) .skip))) (.seq (.seq (.ops [.fadr 35 (.t 5) 0,.load 36 none (.t 35),.fadr 37 (.t 4) 1,.load 38 none (.t 37),.bin 39 .neq (.t 36) (.t 38)]) (.cond (.t 39) (.seq (.ops [.build 40 [(.int .i64 0),(.int .i64 0),(.int .i64 0),(.int .i64 0),(.int .i64 0),(.int .i64 0),(.bool false),(.bool false)] [],.build 41 [(.int .i64 0),(.int .i64 0),(.int .i64 0),(.list 1 []),(.list 3 [])] [],.store none 8 (.t 8) (.t 40),.store none 5 (.t 9) (.t 41),.asg 10 (.c (.int .i64 1))]) .ret) .skip)) (.seq (.seq (.ops [.fadr 42 (.t 4) 6,.load 43 none (.t 42)]) (.cond (.t 43) (.seq (.ops [.build 44 [(.int .i64 0),(.int .i64 0),(.int .i64 0),(.int .i64 0),(.int .i64 0),(.int .i64 0),(.bool false),(.bool false)] [],.build 45 [(.int .i64 0),(.int .i64 0),(.int .i64 0),(.list 1 []),(.list 3 [])] [],.store none 8 (.t 8) (.t 44),.store none 5 (.t 9) (.t 45),.asg 10 (.c (.int .i64 12))]) .ret) .skip)) (.seq (.seq (.ops [.fadr 46 (.t 4) 3,.load 47 none (.t 46),.bin 48 .eql (.t 47) (.c (.int .i64 4096))]) (.cond (.t 48) (.seq (.ops [.build 49 [(.int .i64 0),(.int .i64 0),(.int .i64 0),(.int .i64 0),(.int .i64 0),(.int .i64 0),(.bool false),(.bool false)] [],.build 50 [(.int .i64 0),(.int .i64 0),(.int .i64 0),(.list 1 []),(.list 3 [])] [],.store none 8 (.t 8) (.t 49),.store none 5 (.t 9) (.t 50),.asg 10 (.c (.int .i64 11))]) .ret) .skip)) (.seq (.ops [.fadr 52 (.t 5) 1,.load 53 none (.t 52),.call 54 56 [(.t 53)],.mov 51 (.t 54),.ext 55 (.t 51) 0,.ext 56 (.t 51) 1,.asg 13 (.t 55),.asg 14 (.t 56)]) (.seq (.seq (.ops [.mov 57 (.t 2),.fadr 58 (.t 4) 5,.load 59 none (.t 58),.bin 60 .leq (.t 57) (.t 59),.mov 61 (.t 60),.grd 61 false (.mov 62 (.t 2)),.grd 61 false (.mov 63 (.t 14)),.grd 61 false (.bin 64 .lss (.t 62) (.t 63)),.pick 65 (.t 61) (.c (.bool true)) (.t 64)]) (.cond (.t 65) (.seq (.ops [.build 66 [(.int .i64 0),(.int .i64 0),(.int .i64 0),(.int .i64 0),(.int .i64 0),(.int .i64 0),(.bool false),(.bool false)] [],.build 67 [(.int .i64 0),(.int .i64 0),(.int .i64 0),(.list 1 []),(.list 3 [])] [],.store none 8 (.t 8) (.t 66),.store none 5 (.t 9) (.t 67),.asg 10 (.c (.int .i64 2))]) .ret) .skip)) (.seq (.ops [.fadr 68 (.t 4) 5,.load 69 none (.t 68),.mov 70 (.t 2),.mov 71 (.t 3),.build 72 [(.int .i64 0),(.int .i64 0),(.int .i64 0),(.list 1 []),(.nils 3)] [(0,1,(.t 69)),(1,1,(.t 70)),(2,1,(.t 71))],.alloc 15 [(.int .i64 0),(.int .i64 0),(.int .i64 0),(.list 1 []),(.list 3 [])],.stw 5 (.t 15) (.t 72)]) (.seq (.seq (.ops [.asg 16 (.c (.int .i64 0))])
      fn13_l3) (.seq (.seq (.drw [] [([0,1,2],3),([],4)] none [5] [.load 129 (some 5) (.t 15),.fadr 130 (.t 5) 3,.load 131 none (.t 130),.call 132 59 [(.t 131)],.call 133 58 [(.t 129),(.t 132)],.asg 20 (.t 133)]) (.seq (.ops [.mov 134 (.t 20),.bin 135 .neq (.t 134) (.c (.int .i64 0))]) (.cond (.t 135) (.seq (.ops [.build 136 [(.int .i64 0),(.int .i64 0),(.int .i64 0),(.int .i64 0),(.int .i64 0),(.int .i64 0),(.bool false),(.bool false)] [],.build 137 [(.int .i64 0),(.int .i64 0),(.int .i64 0),(.list 1 []),(.list 3 [])] [],.mov 138 (.t 20),.store none 8 (.t 8) (.t 136),.store none 5 (.t 9) (.t 137),.asg 10 (.t 138)]) .ret) .skip))) (.seq (.ops [.fadr 139 (.t 4) 3,.load 140 none (.t 139),.bin 141 .add (.t 140) (.c (.int .i64 1)),.mov 142 (.t 2),.fadr 143 (.t 4) 3,.store none 1 (.t 143) (.t 141),.fadr 144 (.t 4) 5,.store none 1 (.t 144) (.t 142)]) (.seq (.drw [(.t 15)] [] (some ([0],[1],2,[([],3)])) [4] [.load 145 (some 8) (.t 4),.ldz 146 (some 5) (.t 15),.store none 8 (.t 8) (.t 145),.store none 5 (.t 9) (.t 146),.asg 10 (.c (.int .i64 0))]) .ret)))))))))))))⟩
def fn14:VFn:=⟨2,38,[.tmp 4],(.seq (.ops [.box 2 (.t 0),.box 3 (.t 1),.asg 4 (.c (.bool false))]) (.seq (.ops [.fadr 5 (.t 2) 0,.load 6 none (.t 5),.fadr 7 (.t 3) 0,.load 8 none (.t 7),.bin 9 .eql (.t 6) (.t 8),.mov 10 (.t 9),.grd 10 true (.fadr 11 (.t 2) 1),.grd 10 true (.load 12 none (.t 11)),.grd 10 true (.fadr 13 (.t 3) 1),.grd 10 true (.load 14 none (.t 13)),.grd 10 true (.bin 15 .eql (.t 12) (.t 14)),.pick 16 (.t 10) (.t 15) (.c (.bool false)),.mov 17 (.t 16),.grd 17 true (.fadr 18 (.t 2) 2),.grd 17 true (.load 19 none (.t 18)),.grd 17 true (.fadr 20 (.t 3) 2),.grd 17 true (.load 21 none (.t 20)),.grd 17 true (.bin 22 .eql (.t 19) (.t 21)),.pick 23 (.t 17) (.t 22) (.c (.bool false)),.mov 24 (.t 23),.grd 24 true (.fadr 25 (.t 2) 3),.grd 24 true (.load 26 none (.t 25)),.grd 24 true (.fadr 27 (.t 3) 3),.grd 24 true (.load 28 none (.t 27)),.grd 24 true (.call 29 60 [(.t 26),(.t 28)]),.pick 30 (.t 24) (.t 29) (.c (.bool false)),.mov 31 (.t 30),.grd 31 true (.fadr 32 (.t 2) 4),.grd 31 true (.load 33 none (.t 32)),.grd 31 true (.fadr 34 (.t 3) 4),.grd 31 true (.load 35 none (.t 34)),.grd 31 true (.call 36 61 [(.t 33),(.t 35)]),.pick 37 (.t 31) (.t 36) (.c (.bool false)),.asg 4 (.t 37)]) .ret))⟩
def fn15_b0:VCode:=(.seq (.ops [.bin 21 .lss (.t 20) (.t 19)]) (.seq (.cond (.t 21) .skip (.exit 0)) (.seq (.block 1 (.seq (.ops [.iadr 22 4 (.t 18) (.t 20),.load 23 (some 4) (.t 22),.alloc 10 [(.int .i64 0),(.list 0 []),(.list 0 []),(.list 0 [])],.store none 4 (.t 10) (.t 23)]) (.dem [.load 24 (some 4) (.t 10),.call 25 50 [(.t 24)]] 26 49 [(.t 25)]))) (.ops [.bin 27 .add (.t 20) (.c (.int .i64 1)),.mov 20 (.t 27)]))))
def fn15_l1:VCode :=
(.clean [4,5,6,7,8,18,19,20] [4,5,6,7,8] (.block 0 (.loop [4,5,6,7,8,18,19,20] fn15_b0)))
def fn15:DFn:=⟨3,64,[.cell 6 (some 8),.cell 7 none],(.ops [.box 3 (.t 0),.box 4 (.t 1),.box 5 (.t 2),.alloc 6 [(.int .i64 0),(.int .i64 0),(.int .i64 0),(.int .i64 0),(.int .i64 0),(.int .i64 0),(.bool false),(.bool false)],.alloc 7 [(.int .i64 0)]]),(.seq (.ops [.load 12 (some 8) (.t 3),.build 13 [(.int .i64 0),(.int .i64 0),(.int .i64 0),(.int .i64 0),(.int .i64 0),(.int .i64 0),(.bool false),(.bool false)] [(0,8,(.t 12))],.alloc 8 [(.int .i64 0),(.int .i64 0),(.int .i64 0),(.int .i64 0),(.int .i64 0),(.int .i64 0),(.bool false),(.bool false)],.store none 8 (.t 8) (.t 13)]) (.seq (.dem [.load 14 (some 8) (.t 8)] 15 48 [(.t 14)]) (.seq (.seq (.ops [.load 16 (some 4) (.t 4),.load 17 (some 4) (.t 5),.mksl 18 4 [(.t 16),(.t 17)],.len 19 (.t 18),.mov 20 (.c (.int .i64 0))])
   fn15_l1) (.seq (.dem [.fadr 28 (.t 4) 0,.load 29 none (.t 28),.fadr 30 (.t 8) 0,.fadr 31 (.t 30) 2,.load 32 none (.t 31),.bin 33 .eql (.t 29) (.t 32),.mov 34 (.t 33),.grd 34 true (.fadr 35 (.t 5) 0),.grd 34 true (.load 36 none (.t 35)),.grd 34 true (.fadr 37 (.t 8) 0),.grd 34 true (.fadr 38 (.t 37) 1),.grd 34 true (.load 39 none (.t 38)),.grd 34 true (.bin 40 .eql (.t 36) (.t 39)),.pick 41 (.t 34) (.t 40) (.c (.bool false))] 42 51 [(.t 41),(.c (.int .i64 1))]) (.seq (.dem [.fadr 43 (.t 8) 0,.fadr 44 (.t 43) 6,.load 45 none (.t 44),.un 46 .not (.t 45),.mov 47 (.t 46),.grd 47 true (.fadr 48 (.t 8) 0),.grd 47 true (.fadr 49 (.t 48) 3),.grd 47 true (.load 50 none (.t 49)),.grd 47 true (.bin 51 .gtr (.t 50) (.c (.int .i64 0))),.pick 52 (.t 47) (.t 51) (.c (.bool false))] 53 51 [(.t 52),(.c (.int .i64 12))]) (.seq (.dem [.fadr 54 (.t 4) 3,.load 55 none (.t 54),.fadr 56 (.t 5) 3,.load 57 none (.t 56),.call 58 37 [(.t 55),(.t 57)]] 59 51 [(.t 58),(.c (.int .i64 22))]) (.seq (.ops [.fadr 60 (.t 8) 0,.fadr 61 (.t 60) 6,.store none 1 (.t 61) (.c (.bool true))]) (.seq (.ops [.fadr 62 (.t 8) 0,.load 63 (some 8) (.t 62),.store none 8 (.t 6) (.t 63),.store none 1 (.t 7) (.c (.int .i64 0))]) .ret)))))))),
148,7,47,(some (11,62,[(6,[(.int .i64 0),(.int .i64 0),(.int .i64 0),(.int .i64 0),(.int .i64 0),(.int .i64 0),(.bool false),(.bool false)])]))⟩
def fn17_b0:VCode:=(.seq (.ops [.bin 31 .lss (.t 30) (.t 29)]) (.seq (.cond (.t 31) .skip (.exit 2)) (.seq (.block 3 (.seq (.ops [.iadr 32 2 (.t 28) (.t 30),.load 33 (some 2) (.t 32),.alloc 12 [(.int .i64 0),(.int .i64 0)],.store none 2 (.t 12) (.t 33)]) (.ops [.mov 34 (.t 8),.fadr 35 (.t 12) 1,.load 36 none (.t 35),.bin 37 .add (.t 34) (.t 36),.asg 8 (.t 37)]))) (.ops [.bin 38 .add (.t 30) (.c (.int .i64 1)),.mov 30 (.t 38)]))))
def fn17_l1:VCode :=
(.clean [6,8,10,17,22,23,24,27,28,29,30] [4,5,6,8,17,22,23,24] (.block 2 (.loop [6,8,10,17,22,23,24,27,28,29,30] fn17_b0)))
def fn17_b2:VCode:=(.seq (.ops [.bin 25 .lss (.t 24) (.t 23)]) (.seq (.cond (.t 25) .skip (.exit 0)) (.seq (.block 1 (.seq (.ops [.iadr 26 1 (.t 22) (.t 24),.load 27 none (.t 26),.asg 10 (.t 27)]) (.seq (.ops [.mov 28 (.t 10),.len 29 (.t 28),.mov 30 (.c (.int .i64 0))])
    fn17_l1))) (.ops [.bin 39 .add (.t 24) (.c (.int .i64 1)),.mov 24 (.t 39)]))))
def fn17_l3:VCode :=
(.clean [6,8,17,22,23,24] [4,5,8] (.block 0 (.loop [6,8,17,22,23,24] fn17_b2)))
def fn17:VFn:=⟨2,41,[.tmp 4,.tmp 5],(.seq (.ops [.asg 4 (.c (.int .i64 0)),.asg 5 (.c (.int .i64 0))]) (.seq (.ops [.mov 14 (.t 0),.mov 15 (.t 1),.call 16 30 [(.t 14),(.t 15)],.mov 13 (.t 16),.ext 17 (.t 13) 0,.ext 18 (.t 13) 1,.asg 6 (.t 17),.asg 7 (.t 18)]) (.seq (.seq (.ops [.mov 19 (.t 7),.bin 20 .neq (.t 19) (.c (.int .i64 0))]) (.cond (.t 20) (.seq (.ops [.mov 21 (.t 7),.asg 4 (.c (.int .i64 0)),.asg 5 (.t 21)]) .ret) .skip)) (.seq (.ops [.asg 8 (.c (.int .i64 0))]) (.seq (.seq (.ops [.mov 22 (.t 6),.len 23 (.t 22),.mov 24 (.c (.int .i64 0))])
    fn17_l3) (.seq (.ops [.mov 40 (.t 8),.asg 4 (.t 40),.asg 5 (.c (.int .i64 0))]) .ret))))))⟩
def fn20_b0:VCode:=(.seq (.ops [.bin 9 .lss (.t 8) (.t 7)]) (.seq (.cond (.t 9) .skip (.exit 0)) (.seq (.block 1 (.seq (.ops [.iadr 10 5 (.t 6) (.t 8),.load 11 (some 5) (.t 10),.alloc 5 [(.int .i64 0),(.int .i64 0),(.int .i64 0),(.list 1 []),(.list 3 [])],.store none 5 (.t 5) (.t 11)]) (.ops [.mov 12 (.t 3),.fadr 13 (.t 5) 4,.load 14 none (.t 13),.call 15 66 [(.t 14)],.bin 16 .add (.t 12) (.t 15),.asg 3 (.t 16)]))) (.ops [.bin 17 .add (.t 8) (.c (.int .i64 1)),.mov 8 (.t 17)]))))
def fn20_l1:VCode :=
(.clean [0,3,6,7,8] [2,3] (.block 0 (.loop [0,3,6,7,8] fn20_b0)))
def fn20:VFn:=⟨1,19,[.tmp 2],(.seq (.ops [.asg 2 (.c (.int .i64 0))]) (.seq (.ops [.asg 3 (.c (.int .i64 0))]) (.seq (.seq (.ops [.mov 6 (.t 0),.len 7 (.t 6),.mov 8 (.c (.int .i64 0))])
   fn20_l1) (.seq (.ops [.mov 18 (.t 3),.asg 2 (.t 18)]) .ret))))⟩
def fn24:DFn:=⟨3,80,[.cell 6 (some 8),.cell 7 none,.cell 8 none],(.ops [.box 3 (.t 0),.box 4 (.t 1),.alloc 6 [(.int .i64 0),(.int .i64 0),(.int .i64 0),(.int .i64 0),(.int .i64 0),(.int .i64 0),(.bool false),(.bool false)],.alloc 7 [(.list 1 [])],.alloc 8 [(.int .i64 0)]]),(.seq (.ops [.load 18 (some 4) (.t 3),.load 19 (some 4) (.t 4),.call 20 69 [(.t 18),(.t 19)],.mov 17 (.t 20),.ext 21 (.t 17) 0,.ext 22 (.t 17) 1,.store none 1 (.t 7) (.t 21),.asg 9 (.t 22)]) (.seq (.dem [.mov 23 (.t 9)] 24 49 [(.t 23)]) (.seq (.dem [.fadr 25 (.t 3) 0,.load 26 none (.t 25),.call 27 70 [(.t 26)],.mov 28 (.t 27),.grd 28 true (.fadr 29 (.t 4) 0),.grd 28 true (.load 30 none (.t 29)),.grd 28 true (.call 31 70 [(.t 30)]),.pick 32 (.t 28) (.t 31) (.c (.bool false))] 33 51 [(.t 32),(.c (.int .i64 2))]) (.seq (.dem [.fadr 34 (.t 3) 0,.load 35 none (.t 34),.fadr 36 (.t 4) 0,.load 37 none (.t 36),.bin 38 .neq (.t 35) (.t 37)] 39 51 [(.t 38),(.c (.int .i64 1))]) (.seq (.ops [.fadr 41 (.t 3) 1,.load 42 none (.t 41),.call 43 52 [(.t 42)],.mov 40 (.t 43),.ext 44 (.t 40) 0,.ext 45 (.t 40) 1,.asg 10 (.t 44),.asg 11 (.t 45)]) (.seq (.ops [.fadr 47 (.t 4) 1,.load 48 none (.t 47),.call 49 52 [(.t 48)],.mov 46 (.t 49),.ext 50 (.t 46) 0,.ext 51 (.t 46) 1,.asg 12 (.t 50),.asg 13 (.t 51)]) (.seq (.dem [.mov 52 (.t 2),.mov 53 (.t 10),.bin 54 .gtr (.t 52) (.t 53),.mov 55 (.t 54),.grd 55 true (.mov 56 (.t 2)),.grd 55 true (.mov 57 (.t 12)),.grd 55 true (.bin 58 .gtr (.t 56) (.t 57)),.pick 59 (.t 55) (.t 58) (.c (.bool false))] 60 51 [(.t 59),(.c (.int .i64 13))]) (.seq (.dem [.mov 61 (.t 2),.bin 62 .leq (.t 61) (.c (.int .i64 1073741824))] 63 51 [(.t 62),(.c (.int .i64 2))]) (.seq (.ops [.fadr 65 (.t 3) 1,.load 66 none (.t 65),.fadr 67 (.t 4) 1,.load 68 none (.t 67),.call 69 71 [(.t 66),(.t 68)],.mov 64 (.t 69),.ext 70 (.t 64) 0,.ext 71 (.t 64) 1,.asg 14 (.t 70),.asg 15 (.t 71)]) (.seq (.drs [] [6,7,8] [.fadr 72 (.t 4) 0,.load 73 none (.t 72),.fadr 74 (.t 3) 0,.load 75 none (.t 74),.mov 76 (.t 2),.mov 77 (.t 14),.build 78 [(.int .i64 0),(.int .i64 0),(.int .i64 0),(.int .i64 0),(.int .i64 0),(.int .i64 0),(.bool false),(.bool false)] [(0,1,(.c (.int .i64 3))),(1,1,(.t 73)),(2,1,(.t 75)),(4,1,(.t 76)),(5,1,(.t 77))],.load 79 none (.t 7),.store none 8 (.t 6) (.t 78),.store none 1 (.t 7) (.t 79),.store none 1 (.t 8) (.c (.int .i64 0))] [⟨[],(some ([0,1,2,3,4,5,6],[],8,[([7],9),([],10)])),[],[0,1,2,3,4,5,6,8,7,9,10],false⟩,⟨[([0,1,2,3,4,5,6],7)],(some ([],[],8,[([],9),([],10)])),[],[0,1,2,3,4,5,6,7,8,9,10],false⟩]) .ret)))))))))),
148,8,47,(some (16,68,[(6,[(.int .i64 0),(.int .i64 0),(.int .i64 0),(.int .i64 0),(.int .i64 0),(.int .i64 0),(.bool false),(.bool false)]),(7,[(.list 1 [])])]))⟩
def fn27_b0:VCode:=(.seq (.seq (.ops [.mov 11 (.t 5),.mov 12 (.t 0),.len 13 (.t 12),.bin 14 .lss (.t 11) (.t 13)]) (.cond (.t 14) .skip (.exit 0))) (.seq (.block 1 (.seq (.drw [] [([0,1,2,3,4,5,6,7],8)] none [9] [.mov 17 (.t 0),.mov 18 (.t 5),.iadr 19 1 (.t 17) (.t 18),.load 20 none (.t 19),.mov 21 (.t 1),.mov 22 (.t 5),.iadr 23 1 (.t 21) (.t 22),.load 24 none (.t 23),.call 25 75 [(.t 20),(.t 24)],.un 26 .not (.t 25)]) (.cond (.t 26) (.seq (.ops [.asg 4 (.c (.bool false))]) .ret) .skip))) (.ops [.mov 15 (.t 5),.bin 16 .add (.t 15) (.c (.int .i64 1)),.asg 5 (.t 16)])))
def fn27_l1:VCode :=
(.clean [0,1,5] [4] (.block 0 (.loop [0,1,5] fn27_b0)))
def fn27:VFn:=⟨2,27,[.tmp 4],(.seq (.ops [.asg 4 (.c (.bool false))]) (.seq (.seq (.ops [.mov 6 (.t 0),.len 7 (.t 6),.mov 8 (.t 1),.len 9 (.t 8),.bin 10 .neq (.t 7) (.t 9)]) (.cond (.t 10) (.seq (.ops [.asg 4 (.c (.bool false))]) .ret) .skip)) (.seq (.seq (.ops [.asg 5 (.c (.int .i64 0))])
   fn27_l1) (.seq (.ops [.asg 4 (.c (.bool true))]) .ret))))⟩
def fn29:VFn:=⟨1,62,[.tmp 2],(.seq (.ops [.box 1 (.t 0),.asg 2 (.c (.int .i64 0))]) (.seq (.seq (.ops [.fadr 3 (.t 1) 0,.load 4 none (.t 3),.bin 5 .neq (.t 4) (.c (.int .i64 3))]) (.cond (.t 5) (.seq (.ops [.asg 2 (.c (.int .i64 1))]) .ret) .skip)) (.seq (.seq (.ops [.fadr 6 (.t 1) 1,.load 7 none (.t 6),.call 8 73 [(.t 7)],.un 9 .not (.t 8),.mov 10 (.t 9),.grd 10 false (.fadr 11 (.t 1) 2),.grd 10 false (.load 12 none (.t 11)),.grd 10 false (.call 13 73 [(.t 12)]),.grd 10 false (.un 14 .not (.t 13)),.pick 15 (.t 10) (.c (.bool true)) (.t 14),.mov 16 (.t 15),.grd 16 false (.fadr 17 (.t 1) 1),.grd 16 false (.load 18 none (.t 17)),.grd 16 false (.fadr 19 (.t 1) 2),.grd 16 false (.load 20 none (.t 19)),.grd 16 false (.bin 21 .eql (.t 18) (.t 20)),.pick 22 (.t 16) (.c (.bool true)) (.t 21)]) (.cond (.t 22) (.seq (.ops [.asg 2 (.c (.int .i64 2))]) .ret) .skip)) (.seq (.seq (.ops [.fadr 23 (.t 1) 3,.load 24 none (.t 23),.bin 25 .lss (.t 24) (.c (.int .i64 0)),.mov 26 (.t 25),.grd 26 false (.fadr 27 (.t 1) 3),.grd 26 false (.load 28 none (.t 27)),.grd 26 false (.bin 29 .gtr (.t 28) (.c (.int .i64 4096))),.pick 30 (.t 26) (.c (.bool true)) (.t 29),.mov 31 (.t 30),.grd 31 false (.fadr 32 (.t 1) 4),.grd 31 false (.load 33 none (.t 32)),.grd 31 false (.bin 34 .lss (.t 33) (.c (.int .i64 1))),.pick 35 (.t 31) (.c (.bool true)) (.t 34),.mov 36 (.t 35),.grd 36 false (.fadr 37 (.t 1) 4),.grd 36 false (.load 38 none (.t 37)),.grd 36 false (.bin 39 .gtr (.t 38) (.c (.int .i64 1073741824))),.pick 40 (.t 36) (.c (.bool true)) (.t 39),.mov 41 (.t 40),.grd 41 false (.fadr 42 (.t 1) 5),.grd 41 false (.load 43 none (.t 42)),.grd 41 false (.bin 44 .lss (.t 43) (.c (.int .i64 0))),.pick 45 (.t 41) (.c (.bool true)) (.t 44),.mov 46 (.t 45),.grd 46 false (.fadr 47 (.t 1) 5),.grd 46 false (.load 48 none (.t 47)),.grd 46 false (.bin 49 .gtr (.t 48) (.c (.int .i64 1073741824))),.pick 50 (.t 46) (.c (.bool true)) (.t 49)]) (.cond (.t 50) (.seq (.ops [.asg 2 (.c (.int .i64 2))]) .ret) .skip)) (.seq (.seq (.ops [.fadr 51 (.t 1) 7,.load 52 none (.t 51),.mov 53 (.t 52),.grd 53 false (.fadr 54 (.t 1) 6),.grd 53 false (.load 55 none (.t 54)),.grd 53 false (.mov 56 (.t 55)),.grd 56 true (.fadr 57 (.t 1) 3),.grd 56 true (.load 58 none (.t 57)),.grd 56 true (.bin 59 .lss (.t 58) (.c (.int .i64 1))),.grd 53 false (.pick 60 (.t 56) (.t 59) (.c (.bool false))),.pick 61 (.t 53) (.c (.bool true)) (.t 60)]) (.cond (.t 61) (.seq (.ops [.asg 2 (.c (.int .i64 12))]) .ret) .skip)) (.seq (.ops [.asg 2 (.c (.int .i64 0))]) .ret))))))⟩
def fn30_b0:VCode:=(.seq (.ops [.bin 18 .lss (.t 17) (.t 16)]) (.seq (.cond (.t 18) .skip (.exit 0)) (.seq (.block 1 (.seq (.ops [.mov 19 (.t 17),.asg 8 (.t 19)]) (.drw [] [([0,1,2,3,4,5,6,7,8],9),([],10)] (some ([],[],11,[])) [12] [.mov 20 (.t 7),.mov 21 (.t 0),.mov 22 (.t 8),.iadr 23 1 (.t 21) (.t 22),.load 24 none (.t 23),.mov 25 (.t 1),.mov 26 (.t 8),.iadr 27 1 (.t 25) (.t 26),.load 28 none (.t 27),.call 29 77 [(.t 24),(.t 28)],.mksl 30 1 [(.t 29)],.app 31 1 (.t 20) (.t 30),.asg 7 (.t 31)]))) (.ops [.bin 32 .add (.t 17) (.c (.int .i64 1)),.mov 17 (.t 32)]))))
def fn30_l1:VCode :=
(.clean [0,1,7,16,17,31] [4,5,7] (.block 0 (.loop [0,1,7,16,17,31] fn30_b0)))
def fn30:VFn:=⟨2,34,[.tmp 4,.tmp 5],(.seq (.ops [.asg 4 (.nil 1),.asg 5 (.c (.int .i64 0))]) (.seq (.seq (.ops [.mov 9 (.t 0),.mov 10 (.t 1),.call 11 76 [(.t 9),(.t 10)],.asg 6 (.t 11)]) (.seq (.ops [.mov 12 (.t 6),.bin 13 .neq (.t 12) (.c (.int .i64 0))]) (.cond (.t 13) (.seq (.ops [.mov 14 (.t 6),.asg 4 (.nil 1),.asg 5 (.t 14)]) .ret) .skip))) (.seq (.ops [.asg 7 (.nil 1)]) (.seq (.seq (.ops [.mov 15 (.t 0),.len 16 (.t 15),.mov 17 (.c (.int .i64 0))])
   fn30_l1) (.seq (.ops [.mov 33 (.t 7),.asg 4 (.t 33),.asg 5 (.c (.int .i64 0))]) .ret)))))⟩
def fn33:VFn:=⟨2,9,[.tmp 4],(.seq (.ops [.asg 4 (.nil 2)]) (.seq (.ops [.mov 5 (.t 0),.mov 6 (.t 1),.call 7 79 [(.t 5),(.t 6),(.c (.func 81 []))],.call 8 78 [(.t 7)],.asg 4 (.t 8)]) .ret))⟩
def fn35_b0:VCode:=(.seq (.ops [.bin 22 .lss (.t 21) (.t 20)]) (.seq (.cond (.t 22) .skip (.exit 0)) (.seq (.block 1 (.seq (.ops [.iadr 23 2 (.t 19) (.t 21),.load 24 (some 2) (.t 23),.alloc 9 [(.int .i64 0),(.int .i64 0)],.store none 2 (.t 9) (.t 24)]) (.seq (.ops [.load 26 (some 2) (.t 6),.load 27 (some 2) (.t 9),.call 28 84 [(.t 26),(.t 27)],.mov 25 (.t 28),.ext 29 (.t 25) 0,.ext 30 (.t 25) 1,.store none 2 (.t 6) (.t 29),.asg 7 (.t 30)]) (.seq (.ops [.mov 31 (.t 7),.bin 32 .neq (.t 31) (.c (.int .i64 0))]) (.cond (.t 32) (.seq (.ops [.build 33 [(.int .i64 0),(.list 1 [])] [],.mov 34 (.t 7),.store none 2 (.t 4) (.t 33),.asg 5 (.t 34)]) .ret) .skip))))) (.ops [.bin 35 .add (.t 21) (.c (.int .i64 1)),.mov 21 (.t 35)]))))
def fn35_l1:VCode :=
(.clean [1,4,6,19,20,21] [4,5,6] (.block 0 (.loop [1,4,6,19,20,21] fn35_b0)))
def fn35:VFn:=⟨2,37,[.cell 4 (some 2),.tmp 5],(.seq (.ops [.alloc 4 [(.int .i64 0),(.list 1 [])],.asg 5 (.c (.int .i64 0))]) (.seq (.ops [.mov 11 (.t 0),.call 12 83 [(.t 11)],.mov 10 (.t 12),.ext 13 (.t 10) 0,.ext 14 (.t 10) 1,.alloc 6 [(.int .i64 0),(.list 1 [])],.store none 2 (.t 6) (.t 13),.asg 7 (.t 14)]) (.seq (.seq (.ops [.mov 15 (.t 7),.bin 16 .neq (.t 15) (.c (.int .i64 0))]) (.cond (.t 16) (.seq (.ops [.build 17 [(.int .i64 0),(.list 1 [])] [],.mov 18 (.t 7),.store none 2 (.t 4) (.t 17),.asg 5 (.t 18)]) .ret) .skip)) (.seq (.seq (.ops [.mov 19 (.t 1),.len 20 (.t 19),.mov 21 (.c (.int .i64 0))])
   fn35_l1) (.seq (.ops [.load 36 (some 2) (.t 6),.store none 2 (.t 4) (.t 36),.asg 5 (.c (.int .i64 0))]) .ret)))))⟩
def fn36_b0:VCode:=(.seq (.ops [.bin 22 .lss (.t 21) (.t 20)]) (.seq (.cond (.t 22) .skip (.exit 0)) (.seq (.block 1 (.seq (.ops [.iadr 23 1 (.t 19) (.t 21),.load 24 none (.t 23),.asg 9 (.t 24)]) (.ops [.mov 25 (.t 7),.mov 26 (.t 9),.len 27 (.t 26),.mksl 28 1 [(.t 27)],.app 29 1 (.t 25) (.t 28),.asg 7 (.t 29)]))) (.ops [.bin 30 .add (.t 21) (.c (.int .i64 1)),.mov 21 (.t 30)]))))
def fn36_l1:VCode :=
(.clean [0,3,7,19,20,21,29] [0,3,4,5,7] (.block 0 (.loop [0,3,7,19,20,21,29] fn36_b0)))
def fn36:VFn:=⟨2,47,[.tmp 4,.tmp 5],(.seq (.ops [.box 3 (.t 1),.asg 4 (.nil 1),.asg 5 (.c (.int .i64 0))]) (.seq (.seq (.ops [.mov 14 (.t 0),.call 15 85 [(.t 14)],.asg 6 (.t 15)]) (.seq (.ops [.mov 16 (.t 6),.bin 17 .neq (.t 16) (.c (.int .i64 0))]) (.cond (.t 17) (.seq (.ops [.mov 18 (.t 6),.asg 4 (.nil 1),.asg 5 (.t 18)]) .ret) .skip))) (.seq (.ops [.asg 7 (.nil 1)]) (.seq (.seq (.ops [.mov 19 (.t 0),.len 20 (.t 19),.mov 21 (.c (.int .i64 0))])
   fn36_l1) (.seq (.seq (.ops [.load 31 (some 5) (.t 3),.mov 32 (.t 7),.call 33 54 [(.t 31),(.t 32)],.asg 10 (.t 33)]) (.seq (.ops [.mov 34 (.t 10),.bin 35 .neq (.t 34) (.c (.int .i64 0))]) (.cond (.t 35) (.seq (.ops [.mov 36 (.t 10),.asg 4 (.nil 1),.asg 5 (.t 36)]) .ret) .skip))) (.seq (.ops [.mov 38 (.t 0),.fadr 39 (.t 3) 4,.load 40 none (.t 39),.call 41 38 [(.t 38),(.t 40)],.mov 37 (.t 41),.ext 42 (.t 37) 0,.ext 43 (.t 37) 1,.ext 44 (.t 37) 2,.asg 11 (.t 42),.asg 12 (.t 43),.asg 13 (.t 44)]) (.seq (.ops [.mov 45 (.t 11),.mov 46 (.t 13),.asg 4 (.t 45),.asg 5 (.t 46)]) .ret)))))))⟩
def fn37:VFn:=⟨2,8,[.tmp 4],(.seq (.ops [.asg 4 (.c (.bool false))]) (.seq (.ops [.mov 5 (.t 0),.mov 6 (.t 1),.call 7 86 [(.t 5),(.t 6),(.c (.func 87 []))],.asg 4 (.t 7)]) .ret))⟩
def fn39_b0:VCode:=(.seq (.ops [.bin 24 .lss (.t 23) (.t 22)]) (.seq (.cond (.t 24) .skip (.exit 2)) (.seq (.block 3 (.seq (.ops [.iadr 25 3 (.t 21) (.t 23),.load 26 (some 3) (.t 25),.alloc 11 [(.int .i64 0),(.int .i64 0),(.list 0 [])],.store none 3 (.t 11) (.t 26)]) (.seq (.ops [.fadr 27 (.t 11) 0,.load 28 none (.t 27),.mov 29 (.t 7),.bin 30 .eql (.t 28) (.t 29)]) (.cond (.t 30) (.ops [.mov 31 (.t 9),.fadr 32 (.t 11) 1,.load 33 none (.t 32),.fadr 34 (.t 11) 2,.load 35 none (.t 34),.len 36 (.t 35),.build 37 [(.int .i64 0),(.int .i64 0)] [(0,1,(.t 33)),(1,1,(.t 36))],.mksl 38 2 [(.t 37)],.app 39 2 (.t 31) (.t 38),.asg 9 (.t 39)]) .skip)))) (.ops [.bin 40 .add (.t 23) (.c (.int .i64 1)),.mov 23 (.t 40)]))))
def fn39_l1:VCode :=
(.clean [0,1,6,7,8,9,14,15,16,21,22,23,39,53] [0,1,4,5,6,8,9,14,15,16,39,53] (.block 2 (.loop [0,1,6,7,8,9,14,15,16,21,22,23,39,53] fn39_b0)))
def fn39_b2:VCode:=(.seq (.ops [.bin 17 .lss (.t 16) (.t 15)]) (.seq (.cond (.t 17) .skip (.exit 0)) (.seq (.block 1 (.seq (.ops [.mov 18 (.t 16),.iadr 19 1 (.t 14) (.t 16),.load 20 none (.t 19),.asg 7 (.t 18),.asg 8 (.t 20)]) (.seq (.ops [.asg 9 (.nil 2)]) (.seq (.seq (.ops [.mov 21 (.t 1),.len 22 (.t 21),.mov 23 (.c (.int .i64 0))])
     fn39_l1) (.seq (.ops [.mov 42 (.t 8),.mov 43 (.t 9),.call 44 33 [(.t 43),(.nil 2)],.call 45 35 [(.t 42),(.t 44)],.mov 41 (.t 45),.ext 46 (.t 41) 0,.ext 47 (.t 41) 1,.alloc 12 [(.int .i64 0),(.list 1 [])],.store none 2 (.t 12) (.t 46),.asg 13 (.t 47)]) (.seq (.seq (.ops [.mov 48 (.t 13),.bin 49 .neq (.t 48) (.c (.int .i64 0))]) (.cond (.t 49) (.seq (.ops [.asg 4 (.nil 2),.asg 5 (.c (.bool false))]) .ret) .skip)) (.ops [.mov 50 (.t 6),.load 51 (some 2) (.t 12),.mksl 52 2 [(.t 51)],.app 53 2 (.t 50) (.t 52),.asg 6 (.t 53)]))))))) (.ops [.bin 54 .add (.t 16) (.c (.int .i64 1)),.mov 16 (.t 54)]))))
def fn39_l3:VCode :=
(.clean [0,1,6,14,15,16,39,53] [4,5,6] (.block 0 (.loop [0,1,6,14,15,16,39,53] fn39_b2)))
def fn39:VFn:=⟨2,56,[.tmp 4,.tmp 5],(.seq (.ops [.asg 4 (.nil 2),.asg 5 (.c (.bool false))]) (.seq (.ops [.asg 6 (.nil 2)]) (.seq (.seq (.ops [.mov 14 (.t 0),.len 15 (.t 14),.mov 16 (.c (.int .i64 0))])
   fn39_l3) (.seq (.ops [.mov 55 (.t 6),.asg 4 (.t 55),.asg 5 (.c (.bool true))]) .ret))))⟩
def fn42_b0:VCode:=(.seq (.seq (.ops [.mov 7 (.t 3),.mov 8 (.t 0),.len 9 (.t 8),.bin 10 .lss (.t 7) (.t 9)]) (.cond (.t 10) .skip (.exit 0))) (.seq (.block 1 (.seq (.ops [.mov 13 (.t 0),.mov 14 (.t 3),.iadr 15 1 (.t 13) (.t 14),.load 16 none (.t 15),.len 17 (.t 16),.bin 18 .gtr (.t 17) (.c (.int .i64 24))]) (.cond (.t 18) (.seq (.ops [.asg 2 (.c (.bool false))]) .ret) .skip))) (.ops [.mov 11 (.t 3),.bin 12 .add (.t 11) (.c (.int .i64 1)),.asg 3 (.t 12)])))
def fn42_l1:VCode :=
(.clean [0,3] [2] (.block 0 (.loop [0,3] fn42_b0)))
def fn42:VFn:=⟨1,19,[.tmp 2],(.seq (.ops [.asg 2 (.c (.bool false))]) (.seq (.seq (.ops [.mov 4 (.t 0),.len 5 (.t 4),.bin 6 .gtr (.t 5) (.c (.int .i64 9))]) (.cond (.t 6) (.seq (.ops [.asg 2 (.c (.bool false))]) .ret) .skip)) (.seq (.seq (.ops [.asg 3 (.c (.int .i64 0))])
   fn42_l1) (.seq (.ops [.asg 2 (.c (.bool true))]) .ret))))⟩
def fn43:VFn:=⟨2,10,[.cell 4 (some 3)],(.seq (.ops [.alloc 4 [(.int .i64 0),(.int .i64 0),(.list 0 [])]]) (.seq (.ops [.mov 5 (.t 0),.mov 6 (.t 1),.build 7 [(.int .u8 0),(.int .u8 0),(.int .u8 0),(.int .u8 0),(.int .u8 0),(.int .u8 0),(.int .u8 0),(.int .u8 0)] [(0,1,(.t 6))],.mksl 8 8 [(.t 7)],.build 9 [(.int .i64 0),(.int .i64 0),(.list 0 [])] [(1,1,(.t 5)),(2,1,(.t 8))],.store none 3 (.t 4) (.t 9)]) .ret))⟩
def fn44:VFn:=⟨2,10,[.cell 4 (some 4)],(.seq (.ops [.alloc 4 [(.int .i64 0),(.list 0 []),(.list 0 []),(.list 0 [])]]) (.seq (.ops [.build 5 [(.int .i64 0),(.int .i64 0),(.int .i64 0)] [(0,1,(.c (.int .i64 1))),(1,1,(.c (.int .i64 1))),(2,1,(.c (.int .i64 7)))],.mksl 6 3 [(.t 5)],.mov 7 (.t 1),.mov 8 (.t 0),.build 9 [(.int .i64 0),(.list 0 []),(.list 0 []),(.list 0 [])] [(0,1,(.c (.int .i64 0))),(1,1,(.t 6)),(2,1,(.t 7)),(3,1,(.t 8))],.store none 4 (.t 4) (.t 9)]) .ret))⟩
def fn45:VFn:=⟨2,11,[.cell 4 (some 4)],(.seq (.ops [.alloc 4 [(.int .i64 0),(.list 0 []),(.list 0 []),(.list 0 [])]]) (.seq (.ops [.build 5 [(.int .i64 0),(.int .i64 0),(.int .i64 0)] [(0,1,(.c (.int .i64 1))),(1,1,(.c (.int .i64 1))),(2,1,(.c (.int .i64 5)))],.build 6 [(.int .i64 0),(.int .i64 0),(.int .i64 0)] [(0,1,(.c (.int .i64 2))),(1,1,(.c (.int .i64 6))),(2,1,(.c (.int .i64 9)))],.mksl 7 3 [(.t 5),(.t 6)],.mov 8 (.t 1),.mov 9 (.t 0),.build 10 [(.int .i64 0),(.list 0 []),(.list 0 []),(.list 0 [])] [(0,1,(.c (.int .i64 1))),(1,1,(.t 7)),(2,1,(.t 8)),(3,1,(.t 9))],.store none 4 (.t 4) (.t 10)]) .ret))⟩
def fn46:VFn:=⟨3,7,[],(.seq (.ops [.load 3 none (.t 0),.bin 4 .neq (.t 3) (.c (.int .i64 0))]) (.cond (.t 4) (.ops [.build 5 [(.int .i64 0),(.int .i64 0),(.int .i64 0),(.int .i64 0),(.int .i64 0),(.int .i64 0),(.bool false),(.bool false)] [],.build 6 [(.int .i64 0),(.int .i64 0),(.int .i64 0),(.list 1 []),(.list 3 [])] [],.store none 8 (.t 1) (.t 5),.store none 5 (.t 2) (.t 6)]) .skip))⟩
def fn48:VFn:=⟨1,79,[],(.seq (.ops [.box 1 (.t 0)]) (.seq (.dem [.fadr 2 (.t 1) 0,.fadr 3 (.t 2) 0,.load 4 none (.t 3),.bin 5 .eql (.t 4) (.c (.int .i64 3))] 6 51 [(.t 5),(.c (.int .i64 1))]) (.seq (.dem [.fadr 7 (.t 1) 0,.fadr 8 (.t 7) 1,.load 9 none (.t 8),.call 10 70 [(.t 9)],.mov 11 (.t 10),.grd 11 true (.fadr 12 (.t 1) 0),.grd 11 true (.fadr 13 (.t 12) 2),.grd 11 true (.load 14 none (.t 13)),.grd 11 true (.call 15 70 [(.t 14)]),.pick 16 (.t 11) (.t 15) (.c (.bool false)),.mov 17 (.t 16),.grd 17 true (.fadr 18 (.t 1) 0),.grd 17 true (.fadr 19 (.t 18) 1),.grd 17 true (.load 20 none (.t 19)),.grd 17 true (.fadr 21 (.t 1) 0),.grd 17 true (.fadr 22 (.t 21) 2),.grd 17 true (.load 23 none (.t 22)),.grd 17 true (.bin 24 .neq (.t 20) (.t 23)),.pick 25 (.t 17) (.t 24) (.c (.bool false))] 26 51 [(.t 25),(.c (.int .i64 2))]) (.seq (.dem [.fadr 27 (.t 1) 0,.fadr 28 (.t 27) 3,.load 29 none (.t 28),.bin 30 .geq (.t 29) (.c (.int .i64 0)),.mov 31 (.t 30),.grd 31 true (.fadr 32 (.t 1) 0),.grd 31 true (.fadr 33 (.t 32) 3),.grd 31 true (.load 34 none (.t 33)),.grd 31 true (.bin 35 .leq (.t 34) (.c (.int .i64 4096))),.pick 36 (.t 31) (.t 35) (.c (.bool false)),.mov 37 (.t 36),.grd 37 true (.fadr 38 (.t 1) 0),.grd 37 true (.fadr 39 (.t 38) 4),.grd 37 true (.load 40 none (.t 39)),.grd 37 true (.bin 41 .geq (.t 40) (.c (.int .i64 1))),.pick 42 (.t 37) (.t 41) (.c (.bool false)),.mov 43 (.t 42),.grd 43 true (.fadr 44 (.t 1) 0),.grd 43 true (.fadr 45 (.t 44) 4),.grd 43 true (.load 46 none (.t 45)),.grd 43 true (.bin 47 .leq (.t 46) (.c (.int .i64 1073741824))),.pick 48 (.t 43) (.t 47) (.c (.bool false)),.mov 49 (.t 48),.grd 49 true (.fadr 50 (.t 1) 0),.grd 49 true (.fadr 51 (.t 50) 5),.grd 49 true (.load 52 none (.t 51)),.grd 49 true (.bin 53 .geq (.t 52) (.c (.int .i64 0))),.pick 54 (.t 49) (.t 53) (.c (.bool false)),.mov 55 (.t 54),.grd 55 true (.fadr 56 (.t 1) 0),.grd 55 true (.fadr 57 (.t 56) 5),.grd 55 true (.load 58 none (.t 57)),.grd 55 true (.bin 59 .leq (.t 58) (.c (.int .i64 1073741824))),.pick 60 (.t 55) (.t 59) (.c (.bool false))] 61 51 [(.t 60),(.c (.int .i64 2))]) (.dem [.fadr 62 (.t 1) 0,.fadr 63 (.t 62) 7,.load 64 none (.t 63),.un 65 .not (.t 64),.mov 66 (.t 65),.grd 66 true (.fadr 67 (.t 1) 0),.grd 66 true (.fadr 68 (.t 67) 6),.grd 66 true (.load 69 none (.t 68)),.grd 66 true (.un 70 .not (.t 69)),.grd 66 true (.mov 71 (.t 70)),.grd 71 false (.fadr 72 (.t 1) 0),.grd 71 false (.fadr 73 (.t 72) 3),.grd 71 false (.load 74 none (.t 73)),.grd 71 false (.bin 75 .geq (.t 74) (.c (.int .i64 1))),.grd 66 true (.pick 76 (.t 71) (.c (.bool true)) (.t 75)),.pick 77 (.t 66) (.t 76) (.c (.bool false))] 78 51 [(.t 77),(.c (.int .i64 12))])))))⟩
def fn49:VFn:=⟨1,6,[],(.dem [.mov 2 (.t 0),.bin 3 .eql (.t 2) (.c (.int .i64 0)),.mov 4 (.t 0)] 5 51 [(.t 3),(.t 4)])⟩
def fn50_b0:VCode:=(.seq (.ops [.bin 34 .lss (.t 33) (.t 32)]) (.seq (.cond (.t 34) .skip (.exit 1)) (.seq (.block 2 (.seq (.ops [.mov 35 (.t 33),.iadr 36 2 (.t 31) (.t 33),.load 37 (some 2) (.t 36),.alloc 5 [(.int .i64 0),(.list 1 [])],.asg 4 (.t 35),.store none 2 (.t 5) (.t 37)]) (.seq (.seq (.ops [.load 38 (some 2) (.t 5),.call 39 90 [(.t 38)],.asg 6 (.t 39)]) (.seq (.ops [.mov 40 (.t 6),.bin 41 .neq (.t 40) (.c (.int .i64 0))]) (.cond (.t 41) (.seq (.ops [.mov 42 (.t 6),.asg 2 (.t 42)]) .ret) .skip))) (.seq (.drw [] [] none [0,1,2,3,4,5,6,7,8] [.fadr 43 (.t 5) 0,.load 44 none (.t 43),.fadr 45 (.t 1) 3,.load 46 none (.t 45),.mov 47 (.t 4),.iadr 48 1 (.t 46) (.t 47),.load 49 none (.t 48),.len 50 (.t 49),.bin 51 .neq (.t 44) (.t 50)]) (.cond (.t 51) (.seq (.ops [.asg 2 (.c (.int .i64 22))]) .ret) .skip))))) (.ops [.bin 52 .add (.t 33) (.c (.int .i64 1)),.mov 33 (.t 52)]))))
def fn50_l1:VCode :=
(.clean [1,31,32,33] [2] (.block 1 (.loop [1,31,32,33] fn50_b0)))
def fn50:VFn:=⟨1,53,[.tmp 2],(.seq (.ops [.box 1 (.t 0),.asg 2 (.c (.int .i64 0))]) (.seq (.block 0 (.seq (.ops [.fadr 8 (.t 1) 0,.load 9 none (.t 8),.call 10 92 [(.t 9),(.c (.int .i64 0))],.un 11 .not (.t 10),.asg 7 (.t 11)]) (.cond (.t 7) (.seq (.ops [.asg 2 (.c (.int .i64 2))]) .ret) (.seq (.ops [.fadr 13 (.t 1) 1,.load 14 none (.t 13),.call 15 93 [(.t 14)],.un 16 .not (.t 15),.asg 12 (.t 16)]) (.cond (.t 12) (.seq (.ops [.asg 2 (.c (.int .i64 3))]) .ret) .skip))))) (.seq (.seq (.ops [.fadr 17 (.t 1) 3,.load 18 none (.t 17),.call 19 85 [(.t 18)],.asg 3 (.t 19)]) (.seq (.ops [.mov 20 (.t 3),.bin 21 .neq (.t 20) (.c (.int .i64 0))]) (.cond (.t 21) (.seq (.ops [.mov 22 (.t 3),.asg 2 (.t 22)]) .ret) .skip))) (.seq (.seq (.ops [.fadr 23 (.t 1) 2,.load 24 none (.t 23),.len 25 (.t 24),.fadr 26 (.t 1) 3,.load 27 none (.t 26),.len 28 (.t 27),.bin 29 .neq (.t 25) (.t 28)]) (.cond (.t 29) (.seq (.ops [.asg 2 (.c (.int .i64 6))]) .ret) .skip)) (.seq (.seq (.ops [.fadr 30 (.t 1) 2,.load 31 none (.t 30),.len 32 (.t 31),.mov 33 (.c (.int .i64 0))])
    fn50_l1) (.seq (.ops [.asg 2 (.c (.int .i64 0))]) .ret))))))⟩
def fn52:VFn:=⟨1,18,[.tmp 2,.tmp 3],(.seq (.ops [.asg 2 (.c (.int .i64 0)),.asg 3 (.c (.int .i64 0))]) (.seq (.seq (.ops [.mov 5 (.t 0),.len 6 (.t 5),.bin 7 .eql (.t 6) (.c (.int .i64 0))]) (.cond (.t 7) (.seq (.ops [.asg 2 (.c (.int .i64 0)),.asg 3 (.c (.int .i64 0))]) .ret) .skip)) (.seq (.ops [.mov 8 (.t 0),.mov 9 (.t 0),.len 10 (.t 9),.bin 11 .sub (.t 10) (.c (.int .i64 1)),.iadr 12 3 (.t 8) (.t 11),.load 13 (some 3) (.t 12),.alloc 4 [(.int .i64 0),(.int .i64 0),(.int .i64 0)],.store none 3 (.t 4) (.t 13)]) (.seq (.drw [] [] none [0,1,2,3,4,5] [.fadr 14 (.t 4) 0,.load 15 none (.t 14),.fadr 16 (.t 4) 2,.load 17 none (.t 16),.asg 2 (.t 15),.asg 3 (.t 17)]) .ret))))⟩
def fn53_b0:VCode:=(.seq (.ops [.bin 20 .lss (.t 19) (.t 18)]) (.seq (.cond (.t 20) .skip (.exit 2)) (.seq (.block 3 (.seq (.ops [.iadr 21 2 (.t 17) (.t 19),.load 22 (some 2) (.t 21),.alloc 7 [(.int .i64 0),(.int .i64 0)],.store none 2 (.t 7) (.t 22)]) (.drw [] [([0,1,2,3,4,5,6,7,8,9,10,11,12,13,14,15,16],17),([18],19)] (some ([],[],20,[])) [21] [.mov 23 (.t 3),.mov 24 (.t 4),.fadr 25 (.t 7) 0,.load 26 none (.t 25),.fadr 27 (.t 1) 3,.load 28 none (.t 27),.mov 29 (.t 4),.iadr 30 1 (.t 28) (.t 29),.load 31 none (.t 30),.fadr 32 (.t 7) 0,.load 33 none (.t 32),.fadr 34 (.t 7) 0,.load 35 none (.t 34),.fadr 36 (.t 7) 1,.load 37 none (.t 36),.bin 38 .add (.t 35) (.t 37),.sli 39 8 (.t 31) (some (.t 33)) (some (.t 38)),.call 40 95 [(.t 39)],.build 41 [(.int .i64 0),(.int .i64 0),(.list 0 [])] [(0,1,(.t 24)),(1,1,(.t 26)),(2,1,(.t 40))],.mksl 42 3 [(.t 41)],.app 43 3 (.t 23) (.t 42),.asg 3 (.t 43)]))) (.ops [.bin 44 .add (.t 19) (.c (.int .i64 1)),.mov 19 (.t 44)]))))
def fn53_l1:VCode :=
(.clean [1,3,4,9,10,11,17,18,19,43] [1,2,3,9,10,11,43] (.block 2 (.loop [1,3,4,9,10,11,17,18,19,43] fn53_b0)))
def fn53_b2:VCode:=(.seq (.ops [.bin 12 .lss (.t 11) (.t 10)]) (.seq (.cond (.t 12) .skip (.exit 0)) (.seq (.block 1 (.seq (.ops [.mov 13 (.t 11),.iadr 14 2 (.t 9) (.t 11),.load 15 (some 2) (.t 14),.alloc 5 [(.int .i64 0),(.list 1 [])],.asg 4 (.t 13),.store none 2 (.t 5) (.t 15)]) (.seq (.ops [.load 16 (some 2) (.t 5),.call 17 94 [(.t 16)],.len 18 (.t 17),.mov 19 (.c (.int .i64 0))])
    fn53_l1))) (.ops [.bin 45 .add (.t 11) (.c (.int .i64 1)),.mov 11 (.t 45)]))))
def fn53_l3:VCode :=
(.clean [1,3,9,10,11,43] [2,3] (.block 0 (.loop [1,3,9,10,11,43] fn53_b2)))
def fn53:VFn:=⟨1,47,[.tmp 2],(.seq (.ops [.box 1 (.t 0),.asg 2 (.nil 3)]) (.seq (.ops [.asg 3 (.nil 3)]) (.seq (.seq (.ops [.fadr 8 (.t 1) 2,.load 9 none (.t 8),.len 10 (.t 9),.mov 11 (.c (.int .i64 0))])
   fn53_l3) (.seq (.ops [.mov 46 (.t 3),.asg 2 (.t 46)]) .ret))))⟩
def fn54:VFn:=⟨2,47,[.tmp 4],(.seq (.ops [.box 2 (.t 0),.asg 4 (.c (.int .i64 0))]) (.seq (.seq (.ops [.mov 9 (.t 1),.call 10 96 [(.t 9)],.mov 8 (.t 10),.ext 11 (.t 8) 0,.ext 12 (.t 8) 1,.asg 5 (.t 11),.asg 6 (.t 12)]) (.seq (.ops [.mov 13 (.t 6),.bin 14 .neq (.t 13) (.c (.int .i64 0))]) (.cond (.t 14) (.seq (.ops [.mov 15 (.t 6),.asg 4 (.t 15)]) .ret) .skip))) (.seq (.block 0 (.seq (.ops [.fadr 17 (.t 2) 0,.load 18 none (.t 17),.bin 19 .lss (.t 18) (.c (.int .i64 0)),.mov 20 (.t 19),.grd 20 false (.fadr 21 (.t 2) 1),.grd 20 false (.load 22 none (.t 21)),.grd 20 false (.fadr 23 (.t 2) 0),.grd 20 false (.load 24 none (.t 23)),.grd 20 false (.bin 25 .leq (.t 22) (.t 24)),.pick 26 (.t 20) (.c (.bool true)) (.t 25),.mov 27 (.t 26),.grd 27 false (.fadr 28 (.t 2) 1),.grd 27 false (.load 29 none (.t 28)),.grd 27 false (.bin 30 .gtr (.t 29) (.c (.int .i64 1073741824))),.pick 31 (.t 27) (.c (.bool true)) (.t 30),.asg 16 (.t 31)]) (.cond (.t 16) (.seq (.ops [.asg 4 (.c (.int .i64 2))]) .ret) (.seq (.ops [.fadr 33 (.t 2) 2,.load 34 none (.t 33),.call 35 97 [(.t 34),(.c (.int .i64 0)),(.c (.int .i64 1073741824))],.un 36 .not (.t 35),.asg 32 (.t 36)]) (.cond (.t 32) (.seq (.ops [.asg 4 (.c (.int .i64 24))]) .ret) .skip))))) (.seq (.seq (.ops [.fadr 37 (.t 2) 3,.load 38 none (.t 37),.call 39 98 [(.t 38),(.c (.int .i64 0))],.asg 7 (.t 39)]) (.seq (.ops [.mov 40 (.t 7),.bin 41 .neq (.t 40) (.c (.int .i64 0))]) (.cond (.t 41) (.seq (.ops [.mov 42 (.t 7),.asg 4 (.t 42)]) .ret) .skip))) (.seq (.ops [.fadr 43 (.t 2) 4,.load 44 none (.t 43),.mov 45 (.t 1),.call 46 99 [(.t 44),(.t 45)],.asg 4 (.t 46)]) .ret)))))⟩
def fn55_b0:VCode:=(.seq (.seq (.ops [.mov 31 (.t 4),.fadr 32 (.t 1) 2,.load 33 none (.t 32),.len 34 (.t 33),.bin 35 .lss (.t 31) (.t 34)]) (.cond (.t 35) .skip (.exit 0))) (.seq (.block 1 (.seq (.seq (.ops [.fadr 38 (.t 1) 2,.load 39 none (.t 38),.mov 40 (.t 4),.iadr 41 2 (.t 39) (.t 40),.load 42 (some 2) (.t 41),.call 43 102 [(.t 42)],.asg 5 (.t 43)]) (.seq (.ops [.mov 44 (.t 5),.bin 45 .neq (.t 44) (.c (.int .i64 0))]) (.cond (.t 45) (.seq (.ops [.mov 46 (.t 5),.asg 2 (.t 46)]) .ret) .skip))) (.seq (.drw [] [] none [0,1,2,3,4,5,6,7,8,9,10,11,12] [.fadr 47 (.t 1) 2,.load 48 none (.t 47),.mov 49 (.t 4),.iadr 50 2 (.t 48) (.t 49),.fadr 51 (.t 50) 0,.load 52 none (.t 51),.fadr 53 (.t 1) 3,.load 54 none (.t 53),.mov 55 (.t 4),.iadr 56 1 (.t 54) (.t 55),.load 57 none (.t 56),.len 58 (.t 57),.bin 59 .neq (.t 52) (.t 58)]) (.cond (.t 59) (.seq (.ops [.asg 2 (.c (.int .i64 22))]) .ret) .skip)))) (.ops [.mov 36 (.t 4),.bin 37 .add (.t 36) (.c (.int .i64 1)),.asg 4 (.t 37)])))
def fn55_l1:VCode :=
(.clean [1,4] [2] (.block 0 (.loop [1,4] fn55_b0)))
def fn55:VFn:=⟨1,60,[.tmp 2],(.seq (.ops [.box 1 (.t 0),.asg 2 (.c (.int .i64 0))]) (.seq (.seq (.ops [.fadr 6 (.t 1) 0,.load 7 none (.t 6),.bin 8 .lss (.t 7) (.c (.int .i64 0)),.mov 9 (.t 8),.grd 9 false (.fadr 10 (.t 1) 0),.grd 9 false (.load 11 none (.t 10)),.grd 9 false (.bin 12 .gtr (.t 11) (.c (.int .i64 1073741824))),.pick 13 (.t 9) (.c (.bool true)) (.t 12)]) (.cond (.t 13) (.seq (.ops [.asg 2 (.c (.int .i64 2))]) .ret) .skip)) (.seq (.seq (.ops [.fadr 14 (.t 1) 1,.load 15 none (.t 14),.call 16 100 [(.t 15)],.un 17 .not (.t 16)]) (.cond (.t 17) (.seq (.ops [.asg 2 (.c (.int .i64 3))]) .ret) .skip)) (.seq (.seq (.ops [.fadr 18 (.t 1) 3,.load 19 none (.t 18),.call 20 101 [(.t 19)],.asg 3 (.t 20)]) (.seq (.ops [.mov 21 (.t 3),.bin 22 .neq (.t 21) (.c (.int .i64 0))]) (.cond (.t 22) (.seq (.ops [.mov 23 (.t 3),.asg 2 (.t 23)]) .ret) .skip))) (.seq (.seq (.ops [.fadr 24 (.t 1) 2,.load 25 none (.t 24),.len 26 (.t 25),.fadr 27 (.t 1) 3,.load 28 none (.t 27),.len 29 (.t 28),.bin 30 .neq (.t 26) (.t 29)]) (.cond (.t 30) (.seq (.ops [.asg 2 (.c (.int .i64 6))]) .ret) .skip)) (.seq (.seq (.ops [.asg 4 (.c (.int .i64 0))])
    fn55_l1) (.seq (.ops [.asg 2 (.c (.int .i64 0))]) .ret)))))))⟩
def fn56:VFn:=⟨1,21,[.tmp 2,.tmp 3],(.seq (.ops [.asg 2 (.c (.int .i64 0)),.asg 3 (.c (.int .i64 0))]) (.seq (.seq (.ops [.mov 4 (.t 0),.len 5 (.t 4),.bin 6 .eql (.t 5) (.c (.int .i64 0))]) (.cond (.t 6) (.seq (.ops [.asg 2 (.c (.int .i64 0)),.asg 3 (.c (.int .i64 0))]) .ret) .skip)) (.seq (.drw [] [] none [0,1,2,3,4,5,6,7,8,9,10,11,12,13,14,15] [.mov 7 (.t 0),.mov 8 (.t 0),.len 9 (.t 8),.bin 10 .sub (.t 9) (.c (.int .i64 1)),.iadr 11 3 (.t 7) (.t 10),.fadr 12 (.t 11) 0,.load 13 none (.t 12),.mov 14 (.t 0),.mov 15 (.t 0),.len 16 (.t 15),.bin 17 .sub (.t 16) (.c (.int .i64 1)),.iadr 18 3 (.t 14) (.t 17),.fadr 19 (.t 18) 2,.load 20 none (.t 19),.asg 2 (.t 13),.asg 3 (.t 20)]) .ret)))⟩
def fn57_b0:VCode:=(.seq (.seq (.ops [.mov 9 (.t 4),.fadr 10 (.t 1) 0,.load 11 none (.t 10),.bin 12 .lss (.t 9) (.t 11)]) (.cond (.t 12) .skip (.exit 0))) (.seq (.block 1 (.seq (.seq (.ops [.load 15 (some 2) (.t 1),.mov 16 (.t 4),.call 17 103 [(.t 15),(.t 16)],.un 18 .not (.t 17)]) (.cond (.t 18) (.exit 1) .skip)) (.seq (.ops [.mov 19 (.t 3),.len 20 (.t 19),.asg 5 (.t 20)]) (.seq (.drw [] [] none [0,1,2,3,4,5,6,7,8,9,10,11,12,13,14,15,16,17,18] [.mov 21 (.t 5),.bin 22 .gtr (.t 21) (.c (.int .i64 0)),.mov 23 (.t 22),.grd 23 true (.mov 24 (.t 3)),.grd 23 true (.mov 25 (.t 5)),.grd 23 true (.bin 26 .sub (.t 25) (.c (.int .i64 1))),.grd 23 true (.iadr 27 2 (.t 24) (.t 26)),.grd 23 true (.fadr 28 (.t 27) 0),.grd 23 true (.load 29 none (.t 28)),.grd 23 true (.mov 30 (.t 3)),.grd 23 true (.mov 31 (.t 5)),.grd 23 true (.bin 32 .sub (.t 31) (.c (.int .i64 1))),.grd 23 true (.iadr 33 2 (.t 30) (.t 32)),.grd 23 true (.fadr 34 (.t 33) 1),.grd 23 true (.load 35 none (.t 34)),.grd 23 true (.bin 36 .add (.t 29) (.t 35)),.grd 23 true (.mov 37 (.t 4)),.grd 23 true (.bin 38 .eql (.t 36) (.t 37)),.pick 39 (.t 23) (.t 38) (.c (.bool false))]) (.cond (.t 39) (.ops [.mov 40 (.t 3),.mov 41 (.t 5),.bin 42 .sub (.t 41) (.c (.int .i64 1)),.iadr 43 2 (.t 40) (.t 42),.fadr 44 (.t 43) 1,.load 45 none (.t 44),.bin 46 .add (.t 45) (.c (.int .i64 1)),.iadr 47 2 (.t 40) (.t 42),.fadr 48 (.t 47) 1,.store none 1 (.t 48) (.t 46)]) (.ops [.mov 49 (.t 3),.mov 50 (.t 4),.build 51 [(.int .i64 0),(.int .i64 0)] [(0,1,(.t 50)),(1,1,(.c (.int .i64 1)))],.mksl 52 2 [(.t 51)],.app 53 2 (.t 49) (.t 52),.asg 3 (.t 53)])))))) (.ops [.mov 13 (.t 4),.bin 14 .add (.t 13) (.c (.int .i64 1)),.asg 4 (.t 14)])))
def fn57_l1:VCode :=
(.clean [1,3,4,53] [2,3] (.block 0 (.loop [1,3,4,53] fn57_b0)))
def fn57:VFn:=⟨1,55,[.tmp 2],(.seq (.ops [.box 1 (.t 0),.asg 2 (.nil 2)]) (.seq (.ops [.asg 3 (.nil 2)]) (.seq (.seq (.ops [.load 6 (some 2) (.t 1),.call 7 102 [(.t 6)],.bin 8 .neq (.t 7) (.c (.int .i64 0))]) (.cond (.t 8) (.seq (.ops [.asg 2 (.nil 2)]) .ret) .skip)) (.seq (.seq (.ops [.asg 4 (.c (.int .i64 0))])
   fn57_l1) (.seq (.ops [.mov 54 (.t 3),.asg 2 (.t 54)]) .ret)))))⟩
def fn58:VFn:=⟨2,49,[.tmp 4],(.seq (.ops [.box 2 (.t 0),.asg 4 (.c (.int .i64 0))]) (.seq (.seq (.ops [.mov 7 (.t 1),.call 8 104 [(.t 7)],.asg 5 (.t 8)]) (.seq (.ops [.mov 9 (.t 5),.bin 10 .neq (.t 9) (.c (.int .i64 0))]) (.cond (.t 10) (.seq (.ops [.mov 11 (.t 5),.asg 4 (.t 11)]) .ret) .skip))) (.seq (.seq (.ops [.fadr 12 (.t 2) 0,.load 13 none (.t 12),.bin 14 .lss (.t 13) (.c (.int .i64 0)),.mov 15 (.t 14),.grd 15 false (.fadr 16 (.t 2) 1),.grd 15 false (.load 17 none (.t 16)),.grd 15 false (.fadr 18 (.t 2) 0),.grd 15 false (.load 19 none (.t 18)),.grd 15 false (.bin 20 .leq (.t 17) (.t 19)),.pick 21 (.t 15) (.c (.bool true)) (.t 20),.mov 22 (.t 21),.grd 22 false (.fadr 23 (.t 2) 1),.grd 22 false (.load 24 none (.t 23)),.grd 22 false (.bin 25 .gtr (.t 24) (.c (.int .i64 1073741824))),.pick 26 (.t 22) (.c (.bool true)) (.t 25)]) (.cond (.t 26) (.seq (.ops [.asg 4 (.c (.int .i64 2))]) .ret) .skip)) (.seq (.seq (.ops [.fadr 27 (.t 2) 2,.load 28 none (.t 27),.bin 29 .lss (.t 28) (.c (.int .i64 0)),.mov 30 (.t 29),.grd 30 false (.fadr 31 (.t 2) 2),.grd 30 false (.load 32 none (.t 31)),.grd 30 false (.bin 33 .gtr (.t 32) (.c (.int .i64 1073741824))),.pick 34 (.t 30) (.c (.bool true)) (.t 33)]) (.cond (.t 34) (.seq (.ops [.asg 4 (.c (.int .i64 24))]) .ret) .skip)) (.seq (.seq (.ops [.fadr 35 (.t 2) 3,.load 36 none (.t 35),.len 37 (.t 36),.bin 38 .gtr (.t 37) (.c (.int .i64 8))]) (.cond (.t 38) (.seq (.ops [.asg 4 (.c (.int .i64 6))]) .ret) .skip)) (.seq (.seq (.ops [.fadr 39 (.t 2) 3,.load 40 none (.t 39),.call 41 105 [(.t 40)],.asg 6 (.t 41)]) (.seq (.ops [.mov 42 (.t 6),.bin 43 .neq (.t 42) (.c (.int .i64 0))]) (.cond (.t 43) (.seq (.ops [.mov 44 (.t 6),.asg 4 (.t 44)]) .ret) .skip))) (.seq (.ops [.fadr 45 (.t 2) 4,.load 46 none (.t 45),.mov 47 (.t 1),.call 48 106 [(.t 46),(.t 47)],.asg 4 (.t 48)]) .ret)))))))⟩
def fn59_b0:VCode:=(.seq (.seq (.ops [.mov 5 (.t 4),.mov 6 (.t 0),.len 7 (.t 6),.bin 8 .lss (.t 5) (.t 7)]) (.cond (.t 8) .skip (.exit 0))) (.seq (.block 1 (.ops [.mov 11 (.t 3),.mov 12 (.t 0),.mov 13 (.t 4),.iadr 14 1 (.t 12) (.t 13),.load 15 none (.t 14),.len 16 (.t 15),.mksl 17 1 [(.t 16)],.app 18 1 (.t 11) (.t 17),.asg 3 (.t 18)])) (.ops [.mov 9 (.t 4),.bin 10 .add (.t 9) (.c (.int .i64 1)),.asg 4 (.t 10)])))
def fn59_l1:VCode :=
(.clean [0,3,4,18] [2,3] (.block 0 (.loop [0,3,4,18] fn59_b0)))
def fn59:VFn:=⟨1,20,[.tmp 2],(.seq (.ops [.asg 2 (.nil 1)]) (.seq (.ops [.asg 3 (.nil 1)]) (.seq (.seq (.ops [.asg 4 (.c (.int .i64 0))])
   fn59_l1) (.seq (.ops [.mov 19 (.t 3),.asg 2 (.t 19)]) .ret))))⟩
def fn60_b0:VCode:=(.seq (.seq (.ops [.mov 11 (.t 5),.mov 12 (.t 0),.len 13 (.t 12),.bin 14 .lss (.t 11) (.t 13)]) (.cond (.t 14) .skip (.exit 0))) (.seq (.block 1 (.seq (.drw [] [] none [0,1,2,3,4,5,6,7,8] [.mov 17 (.t 0),.mov 18 (.t 5),.iadr 19 1 (.t 17) (.t 18),.load 20 none (.t 19),.mov 21 (.t 1),.mov 22 (.t 5),.iadr 23 1 (.t 21) (.t 22),.load 24 none (.t 23),.bin 25 .neq (.t 20) (.t 24)]) (.cond (.t 25) (.seq (.ops [.asg 4 (.c (.bool false))]) .ret) .skip))) (.ops [.mov 15 (.t 5),.bin 16 .add (.t 15) (.c (.int .i64 1)),.asg 5 (.t 16)])))
def fn60_l1:VCode :=
(.clean [0,1,5] [4] (.block 0 (.loop [0,1,5] fn60_b0)))
def fn60:VFn:=⟨2,26,[.tmp 4],(.seq (.ops [.asg 4 (.c (.bool false))]) (.seq (.seq (.ops [.mov 6 (.t 0),.len 7 (.t 6),.mov 8 (.t 1),.len 9 (.t 8),.bin 10 .neq (.t 7) (.t 9)]) (.cond (.t 10) (.seq (.ops [.asg 4 (.c (.bool false))]) .ret) .skip)) (.seq (.seq (.ops [.asg 5 (.c (.int .i64 0))])
   fn60_l1) (.seq (.ops [.asg 4 (.c (.bool true))]) .ret))))⟩
def fn61_b0:VCode:=(.seq (.seq (.ops [.mov 11 (.t 5),.mov 12 (.t 0),.len 13 (.t 12),.bin 14 .lss (.t 11) (.t 13)]) (.cond (.t 14) .skip (.exit 0))) (.seq (.block 1 (.seq (.drw [] [([0,1,2,3,4,5,6,7,8,9,10,11,12,13,14,15,16,17,18,19,20,21,22,23,24,25,26,27,28,29,30,31,32,33,34],35)] none [36,37] [.mov 17 (.t 0),.mov 18 (.t 5),.iadr 19 3 (.t 17) (.t 18),.fadr 20 (.t 19) 0,.load 21 none (.t 20),.mov 22 (.t 1),.mov 23 (.t 5),.iadr 24 3 (.t 22) (.t 23),.fadr 25 (.t 24) 0,.load 26 none (.t 25),.bin 27 .neq (.t 21) (.t 26),.mov 28 (.t 27),.grd 28 false (.mov 29 (.t 0)),.grd 28 false (.mov 30 (.t 5)),.grd 28 false (.iadr 31 3 (.t 29) (.t 30)),.grd 28 false (.fadr 32 (.t 31) 1),.grd 28 false (.load 33 none (.t 32)),.grd 28 false (.mov 34 (.t 1)),.grd 28 false (.mov 35 (.t 5)),.grd 28 false (.iadr 36 3 (.t 34) (.t 35)),.grd 28 false (.fadr 37 (.t 36) 1),.grd 28 false (.load 38 none (.t 37)),.grd 28 false (.bin 39 .neq (.t 33) (.t 38)),.pick 40 (.t 28) (.c (.bool true)) (.t 39),.mov 41 (.t 40),.grd 41 false (.mov 42 (.t 0)),.grd 41 false (.mov 43 (.t 5)),.grd 41 false (.iadr 44 3 (.t 42) (.t 43)),.grd 41 false (.fadr 45 (.t 44) 2),.grd 41 false (.load 46 none (.t 45)),.grd 41 false (.mov 47 (.t 1)),.grd 41 false (.mov 48 (.t 5)),.grd 41 false (.iadr 49 3 (.t 47) (.t 48)),.grd 41 false (.fadr 50 (.t 49) 2),.grd 41 false (.load 51 none (.t 50)),.grd 41 false (.call 52 107 [(.t 46),(.t 51)]),.grd 41 false (.un 53 .not (.t 52)),.pick 54 (.t 41) (.c (.bool true)) (.t 53)]) (.cond (.t 54) (.seq (.ops [.asg 4 (.c (.bool false))]) .ret) .skip))) (.ops [.mov 15 (.t 5),.bin 16 .add (.t 15) (.c (.int .i64 1)),.asg 5 (.t 16)])))
def fn61_l1:VCode :=
(.clean [0,1,5] [4] (.block 0 (.loop [0,1,5] fn61_b0)))
def fn61:VFn:=⟨2,55,[.tmp 4],(.seq (.ops [.asg 4 (.c (.bool false))]) (.seq (.seq (.ops [.mov 6 (.t 0),.len 7 (.t 6),.mov 8 (.t 1),.len 9 (.t 8),.bin 10 .neq (.t 7) (.t 9)]) (.cond (.t 10) (.seq (.ops [.asg 4 (.c (.bool false))]) .ret) .skip)) (.seq (.seq (.ops [.asg 5 (.c (.int .i64 0))])
   fn61_l1) (.seq (.ops [.asg 4 (.c (.bool true))]) .ret))))⟩
def fn62:VFn:=⟨2,5,[],(.seq (.ops [.load 2 none (.t 0),.bin 3 .neq (.t 2) (.c (.int .i64 0))]) (.cond (.t 3) (.ops [.build 4 [(.int .i64 0),(.int .i64 0),(.int .i64 0),(.int .i64 0),(.int .i64 0),(.int .i64 0),(.bool false),(.bool false)] [],.store none 8 (.t 1) (.t 4)]) .skip))⟩
def fn66_b0:VCode:=(.seq (.ops [.bin 9 .lss (.t 8) (.t 7)]) (.seq (.cond (.t 9) .skip (.exit 0)) (.seq (.block 1 (.seq (.ops [.iadr 10 3 (.t 6) (.t 8),.load 11 (some 3) (.t 10),.alloc 5 [(.int .i64 0),(.int .i64 0),(.list 0 [])],.store none 3 (.t 5) (.t 11)]) (.ops [.mov 12 (.t 3),.fadr 13 (.t 5) 2,.load 14 none (.t 13),.len 15 (.t 14),.bin 16 .add (.t 12) (.t 15),.asg 3 (.t 16)]))) (.ops [.bin 17 .add (.t 8) (.c (.int .i64 1)),.mov 8 (.t 17)]))))
def fn66_l1:VCode :=
(.clean [0,3,6,7,8] [2,3] (.block 0 (.loop [0,3,6,7,8] fn66_b0)))
def fn66:VFn:=⟨1,19,[.tmp 2],(.seq (.ops [.asg 2 (.c (.int .i64 0))]) (.seq (.ops [.asg 3 (.c (.int .i64 0))]) (.seq (.seq (.ops [.mov 6 (.t 0),.len 7 (.t 6),.mov 8 (.c (.int .i64 0))])
   fn66_l1) (.seq (.ops [.mov 18 (.t 3),.asg 2 (.t 18)]) .ret))))⟩
def fn68:VFn:=⟨3,6,[],(.seq (.ops [.load 3 none (.t 0),.bin 4 .neq (.t 3) (.c (.int .i64 0))]) (.cond (.t 4) (.ops [.build 5 [(.int .i64 0),(.int .i64 0),(.int .i64 0),(.int .i64 0),(.int .i64 0),(.int .i64 0),(.bool false),(.bool false)] [],.store none 8 (.t 1) (.t 5),.store none 1 (.t 2) (.nil 1)]) .skip))⟩
def fn69_b0:VCode:=(.seq (.ops [.bin 14 .lss (.t 13) (.t 12)]) (.seq (.cond (.t 14) .skip (.exit 0)) (.seq (.block 1 (.seq (.ops [.iadr 15 4 (.t 11) (.t 13),.load 16 (some 4) (.t 15),.alloc 7 [(.int .i64 0),(.list 0 []),(.list 0 []),(.list 0 [])],.store none 4 (.t 7) (.t 16)]) (.seq (.ops [.load 17 (some 4) (.t 7),.call 18 50 [(.t 17)],.asg 8 (.t 18)]) (.seq (.ops [.mov 19 (.t 8),.bin 20 .neq (.t 19) (.c (.int .i64 0))]) (.cond (.t 20) (.seq (.ops [.mov 21 (.t 8),.asg 4 (.nil 1),.asg 5 (.t 21)]) .ret) .skip))))) (.ops [.bin 22 .add (.t 13) (.c (.int .i64 1)),.mov 13 (.t 22)]))))
def fn69_l1:VCode :=
(.clean [2,3,11,12,13] [2,3,4,5] (.block 0 (.loop [2,3,11,12,13] fn69_b0)))
def fn69:VFn:=⟨2,32,[.tmp 4,.tmp 5],(.seq (.ops [.box 2 (.t 0),.box 3 (.t 1),.asg 4 (.nil 1),.asg 5 (.c (.int .i64 0))]) (.seq (.seq (.ops [.load 9 (some 4) (.t 2),.load 10 (some 4) (.t 3),.mksl 11 4 [(.t 9),(.t 10)],.len 12 (.t 11),.mov 13 (.c (.int .i64 0))])
  fn69_l1) (.seq (.seq (.ops [.fadr 23 (.t 2) 3,.load 24 none (.t 23),.fadr 25 (.t 3) 3,.load 26 none (.t 25),.call 27 111 [(.t 24),(.t 26)],.un 28 .not (.t 27)]) (.cond (.t 28) (.seq (.ops [.asg 4 (.nil 1),.asg 5 (.c (.int .i64 22))]) .ret) .skip)) (.seq (.ops [.load 29 (some 4) (.t 2),.load 30 (some 4) (.t 3),.call 31 112 [(.t 29),(.t 30)],.asg 4 (.t 31),.asg 5 (.c (.int .i64 0))]) .ret))))⟩
def fn70:VFn:=⟨1,9,[.tmp 2],(.seq (.ops [.asg 2 (.c (.bool false))]) (.seq (.ops [.mov 3 (.t 0),.bin 4 .geq (.t 3) (.c (.int .i64 0)),.mov 5 (.t 4),.grd 5 true (.mov 6 (.t 0)),.grd 5 true (.bin 7 .lss (.t 6) (.c (.int .i64 4))),.pick 8 (.t 5) (.t 7) (.c (.bool false)),.asg 2 (.t 8)]) .ret))⟩
def fn71_b0:VCode:=(.seq (.seq (.drw [] [] none [0,1,2,3,4,5,6,7,8,9,10,11,12,13,14,15,16,17,18,19] [.mov 17 (.t 8),.mov 18 (.t 0),.len 19 (.t 18),.mov 20 (.t 1),.len 21 (.t 20),.mn 22 false (.t 19) (.t 21),.bin 23 .lss (.t 17) (.t 22),.mov 24 (.t 23),.grd 24 true (.mov 25 (.t 0)),.grd 24 true (.mov 26 (.t 8)),.grd 24 true (.iadr 27 3 (.t 25) (.t 26)),.grd 24 true (.fadr 28 (.t 27) 0),.grd 24 true (.load 29 none (.t 28)),.grd 24 true (.mov 30 (.t 1)),.grd 24 true (.mov 31 (.t 8)),.grd 24 true (.iadr 32 3 (.t 30) (.t 31)),.grd 24 true (.fadr 33 (.t 32) 0),.grd 24 true (.load 34 none (.t 33)),.grd 24 true (.bin 35 .eql (.t 29) (.t 34)),.pick 36 (.t 24) (.t 35) (.c (.bool false))]) (.cond (.t 36) .skip (.exit 0))) (.seq (.block 1 (.seq (.drw [] [] none [0,1,2,3,4,5,6,7,8,9,10,11,12,13,14,15,16,17] [.mov 39 (.t 0),.mov 40 (.t 8),.iadr 41 3 (.t 39) (.t 40),.fadr 42 (.t 41) 2,.load 43 none (.t 42),.mov 44 (.t 1),.mov 45 (.t 8),.iadr 46 3 (.t 44) (.t 45),.fadr 47 (.t 46) 2,.load 48 none (.t 47),.mn 49 false (.t 43) (.t 48),.mov 50 (.t 0),.mov 51 (.t 8),.iadr 52 3 (.t 50) (.t 51),.fadr 53 (.t 52) 0,.load 54 none (.t 53),.asg 6 (.t 49),.asg 7 (.t 54)]) (.seq (.drw [] [] none [0,1,2,3,4,5,6,7,8,9,10] [.mov 55 (.t 0),.mov 56 (.t 8),.iadr 57 3 (.t 55) (.t 56),.fadr 58 (.t 57) 2,.load 59 none (.t 58),.mov 60 (.t 1),.mov 61 (.t 8),.iadr 62 3 (.t 60) (.t 61),.fadr 63 (.t 62) 2,.load 64 none (.t 63),.bin 65 .neq (.t 59) (.t 64)]) (.cond (.t 65) (.exit 0) .skip)))) (.ops [.mov 37 (.t 8),.bin 38 .add (.t 37) (.c (.int .i64 1)),.asg 8 (.t 38)])))
def fn71_l1:VCode :=
(.clean [0,1,6,7,8] [4,5,6,7] (.block 0 (.loop [0,1,6,7,8] fn71_b0)))
def fn71:VFn:=⟨2,68,[.tmp 4,.tmp 5],(.seq (.ops [.asg 4 (.c (.int .i64 0)),.asg 5 (.c (.int .i64 0))]) (.seq (.seq (.ops [.mov 9 (.t 0),.call 10 93 [(.t 9)],.un 11 .not (.t 10),.mov 12 (.t 11),.grd 12 false (.mov 13 (.t 1)),.grd 12 false (.call 14 93 [(.t 13)]),.grd 12 false (.un 15 .not (.t 14)),.pick 16 (.t 12) (.c (.bool true)) (.t 15)]) (.cond (.t 16) (.seq (.ops [.asg 4 (.c (.int .i64 0)),.asg 5 (.c (.int .i64 0))]) .ret) .skip)) (.seq (.ops [.asg 6 (.c (.int .i64 0)),.asg 7 (.c (.int .i64 0))]) (.seq (.seq (.ops [.asg 8 (.c (.int .i64 0))])
   fn71_l1) (.seq (.ops [.mov 66 (.t 6),.mov 67 (.t 7),.asg 4 (.t 66),.asg 5 (.t 67)]) .ret)))))⟩
def fn73:VFn:=⟨1,9,[.tmp 2],(.seq (.ops [.asg 2 (.c (.bool false))]) (.seq (.ops [.mov 3 (.t 0),.bin 4 .geq (.t 3) (.c (.int .i64 0)),.mov 5 (.t 4),.grd 5 true (.mov 6 (.t 0)),.grd 5 true (.bin 7 .lss (.t 6) (.c (.int .i64 4))),.pick 8 (.t 5) (.t 7) (.c (.bool false)),.asg 2 (.t 8)]) .ret))⟩
def fn75_b0:VCode:=(.seq (.seq (.ops [.mov 11 (.t 5),.mov 12 (.t 0),.len 13 (.t 12),.bin 14 .lss (.t 11) (.t 13)]) (.cond (.t 14) .skip (.exit 0))) (.seq (.block 1 (.seq (.drw [] [] none [0,1,2,3,4,5,6,7,8] [.mov 17 (.t 0),.mov 18 (.t 5),.iadr 19 2 (.t 17) (.t 18),.load 20 (some 2) (.t 19),.mov 21 (.t 1),.mov 22 (.t 5),.iadr 23 2 (.t 21) (.t 22),.load 24 (some 2) (.t 23),.eqa 25 true 2 (.t 20) (.t 24)]) (.cond (.t 25) (.seq (.ops [.asg 4 (.c (.bool false))]) .ret) .skip))) (.ops [.mov 15 (.t 5),.bin 16 .add (.t 15) (.c (.int .i64 1)),.asg 5 (.t 16)])))
def fn75_l1:VCode :=
(.clean [0,1,5] [4] (.block 0 (.loop [0,1,5] fn75_b0)))
def fn75:VFn:=⟨2,26,[.tmp 4],(.seq (.ops [.asg 4 (.c (.bool false))]) (.seq (.seq (.ops [.mov 6 (.t 0),.len 7 (.t 6),.mov 8 (.t 1),.len 9 (.t 8),.bin 10 .neq (.t 7) (.t 9)]) (.cond (.t 10) (.seq (.ops [.asg 4 (.c (.bool false))]) .ret) .skip)) (.seq (.seq (.ops [.asg 5 (.c (.int .i64 0))])
   fn75_l1) (.seq (.ops [.asg 4 (.c (.bool true))]) .ret))))⟩
def fn76_b0:VCode:=(.seq (.ops [.bin 13 .lss (.t 12) (.t 11)]) (.seq (.cond (.t 13) .skip (.exit 0)) (.seq (.block 1 (.seq (.ops [.iadr 14 1 (.t 10) (.t 12),.load 15 none (.t 14),.asg 6 (.t 15)]) (.seq (.ops [.mov 16 (.t 6),.call 17 85 [(.t 16)],.asg 7 (.t 17)]) (.seq (.ops [.mov 18 (.t 7),.bin 19 .neq (.t 18) (.c (.int .i64 0))]) (.cond (.t 19) (.seq (.ops [.mov 20 (.t 7),.asg 4 (.t 20)]) .ret) .skip))))) (.ops [.bin 21 .add (.t 12) (.c (.int .i64 1)),.mov 12 (.t 21)]))))
def fn76_l1:VCode :=
(.clean [0,1,10,11,12] [0,1,4] (.block 0 (.loop [0,1,10,11,12] fn76_b0)))
def fn76:VFn:=⟨2,28,[.tmp 4],(.seq (.ops [.asg 4 (.c (.int .i64 0))]) (.seq (.seq (.ops [.mov 8 (.t 0),.mov 9 (.t 1),.mksl 10 1 [(.t 8),(.t 9)],.len 11 (.t 10),.mov 12 (.c (.int .i64 0))])
  fn76_l1) (.seq (.seq (.ops [.mov 22 (.t 0),.call 23 116 [(.t 22)],.mov 24 (.t 1),.call 25 116 [(.t 24)],.call 26 115 [(.t 23),(.t 25)],.un 27 .not (.t 26)]) (.cond (.t 27) (.seq (.ops [.asg 4 (.c (.int .i64 22))]) .ret) .skip)) (.seq (.ops [.asg 4 (.c (.int .i64 0))]) .ret))))⟩
def fn77_b0:VCode:=(.ops [.asg 7 (.t 11)])
def fn77_b1:VCode:=(.block 1 (.seq (.seq (.ops [.mov 12 (.t 7),.load 13 none (.t 6),.bin 14 .eql (.t 12) (.t 13)]) (.cond (.t 14) (.ops [.load 15 none (.t 5),.load 16 none (.t 5),.len 17 (.t 16),.bin 18 .sub (.t 17) (.c (.int .i64 1)),.iadr 19 2 (.t 15) (.t 18),.fadr 20 (.t 19) 1,.load 21 none (.t 20),.bin 22 .add (.t 21) (.c (.int .i64 1)),.iadr 23 2 (.t 15) (.t 18),.fadr 24 (.t 23) 1,.store none 1 (.t 24) (.t 22)]) (.ops [.load 25 none (.t 5),.mov 26 (.t 7),.build 27 [(.int .i64 0),(.int .i64 0)] [(0,1,(.t 26)),(1,1,(.c (.int .i64 1)))],.mksl 28 2 [(.t 27)],.app 29 2 (.t 25) (.t 28),.store none 1 (.t 5) (.t 29)]))) (.ops [.mov 30 (.t 7),.bin 31 .add (.t 30) (.c (.int .i64 1)),.store none 1 (.t 6) (.t 31)])))
def fn77:VFn:=⟨2,33,[.tmp 4],(.seq (.ops [.asg 4 (.nil 2)]) (.seq (.ops [.alloc 5 [(.list 2 [])]]) (.seq (.ops [.alloc 6 [(.int .i64 0)],.store none 1 (.t 6) (.c (.int .i64 (-1)))]) (.seq (.seq (.ops [.mov 8 (.t 0),.mov 9 (.t 1),.call 10 117 [(.t 8),(.t 9)]]) (.block 0 (.rng (.t 10) [11] fn77_b0 fn77_b1))) (.seq (.ops [.load 32 none (.t 5),.asg 4 (.t 32)]) .ret)))))⟩
def fn78:VFn:=⟨1,5,[.tmp 2],(.seq (.ops [.asg 2 (.nil 2)]) (.seq (.ops [.mov 3 (.t 0),.call 4 118 [(.c (.nils 2)),(.t 3)],.asg 2 (.t 4)]) .ret))⟩
def fn79:VFn:=⟨3,8,[.tmp 6],(.seq (.ops [.box 3 (.t 0),.box 4 (.t 1),.box 5 (.t 2),.asg 6 (.c .nilf)]) (.seq (.ops [.mkf 7 119 [(.t 3),(.t 4),(.t 5)],.asg 6 (.t 7)]) .ret))⟩
def fn81:VFn:=⟨2,9,[.tmp 4],(.seq (.ops [.asg 4 (.c (.bool false))]) (.seq (.ops [.mov 5 (.t 0),.mov 6 (.t 5),.grd 6 false (.mov 7 (.t 1)),.pick 8 (.t 6) (.c (.bool true)) (.t 7),.asg 4 (.t 8)]) .ret))⟩
def fn83:VFn:=⟨1,16,[.cell 2 (some 2),.tmp 3],(.seq (.ops [.alloc 2 [(.int .i64 0),(.list 1 [])],.asg 3 (.c (.int .i64 0))]) (.seq (.seq (.ops [.mov 4 (.t 0),.bin 5 .lss (.t 4) (.c (.int .i64 0)),.mov 6 (.t 5),.grd 6 false (.mov 7 (.t 0)),.grd 6 false (.bin 8 .gtr (.t 7) (.c (.int .i64 4096))),.pick 9 (.t 6) (.c (.bool true)) (.t 8)]) (.cond (.t 9) (.seq (.ops [.build 10 [(.int .i64 0),(.list 1 [])] [],.store none 2 (.t 2) (.t 10),.asg 3 (.c (.int .i64 2))]) .ret) .skip)) (.seq (.ops [.mov 11 (.t 0),.mov 12 (.t 0),.call 13 121 [(.t 12)],.make 14 (.int .u64 0) (.t 13) (.t 13),.build 15 [(.int .i64 0),(.list 1 [])] [(0,1,(.t 11)),(1,1,(.t 14))],.store none 2 (.t 2) (.t 15),.asg 3 (.c (.int .i64 0))]) .ret)))⟩
def fn84:VFn:=⟨2,12,[.cell 4 (some 2),.tmp 5],(.seq (.ops [.box 2 (.t 0),.box 3 (.t 1),.alloc 4 [(.int .i64 0),(.list 1 [])],.asg 5 (.c (.int .i64 0))]) (.seq (.ops [.build 6 [.nilf] [(0,1,(.c (.func 122 [])))],.load 7 (some 2) (.t 2),.load 8 (some 2) (.t 3),.call 9 123 [(.t 6),(.t 7),(.t 8)],.ext 10 (.t 9) 0,.ext 11 (.t 9) 1,.store none 2 (.t 4) (.t 10),.asg 5 (.t 11)]) .ret))⟩
def fn85:VFn:=⟨1,6,[.tmp 2],(.seq (.ops [.asg 2 (.c (.int .i64 0))]) (.seq (.ops [.mov 3 (.t 0),.call 4 116 [(.t 3)],.call 5 124 [(.t 4)],.asg 2 (.t 5)]) .ret))⟩
def fn86_b0:VCode:=(.seq (.ops [.bin 18 .lss (.t 17) (.t 16)]) (.seq (.cond (.t 18) .skip (.exit 0)) (.seq (.block 1 (.seq (.ops [.mov 19 (.t 17),.iadr 20 1 (.t 15) (.t 17),.load 21 none (.t 20),.asg 7 (.t 19),.asg 8 (.t 21)]) (.seq (.ops [.mov 22 (.t 1),.mov 23 (.t 7),.iadr 24 1 (.t 22) (.t 23),.load 25 none (.t 24),.asg 9 (.t 25)]) (.seq (.ops [.mov 26 (.t 2),.mov 27 (.t 8),.mov 28 (.t 9),.callv 29 (.t 26) [(.t 27),(.t 28)],.un 30 .not (.t 29)]) (.cond (.t 30) (.seq (.ops [.asg 6 (.c (.bool false))]) .ret) .skip))))) (.ops [.bin 31 .add (.t 17) (.c (.int .i64 1)),.mov 17 (.t 31)]))))
def fn86_l1:VCode :=
(.clean [0,1,2,15,16,17] [6] (.block 0 (.loop [0,1,2,15,16,17] fn86_b0)))
def fn86:VFn:=⟨3,32,[.tmp 6],(.seq (.ops [.asg 6 (.c (.bool false))]) (.seq (.seq (.ops [.mov 10 (.t 0),.len 11 (.t 10),.mov 12 (.t 1),.len 13 (.t 12),.bin 14 .neq (.t 11) (.t 13)]) (.cond (.t 14) (.seq (.ops [.asg 6 (.c (.bool false))]) .ret) .skip)) (.seq (.seq (.ops [.mov 15 (.t 0),.len 16 (.t 15),.mov 17 (.c (.int .i64 0))])
   fn86_l1) (.seq (.ops [.asg 6 (.c (.bool true))]) .ret))))⟩
def fn87_b0:VCode:=(.seq (.ops [.bin 14 .lss (.t 13) (.t 12)]) (.seq (.cond (.t 14) .skip (.exit 0)) (.seq (.block 1 (.seq (.ops [.mov 15 (.t 13),.asg 5 (.t 15)]) (.seq (.drw [] [] none [0,1,2,3,4,5,6,7,8] [.mov 16 (.t 0),.mov 17 (.t 5),.iadr 18 8 (.t 16) (.t 17),.load 19 (some 8) (.t 18),.mov 20 (.t 1),.mov 21 (.t 5),.iadr 22 8 (.t 20) (.t 21),.load 23 (some 8) (.t 22),.eqa 24 true 8 (.t 19) (.t 23)]) (.cond (.t 24) (.seq (.ops [.asg 4 (.c (.bool false))]) .ret) .skip)))) (.ops [.bin 25 .add (.t 13) (.c (.int .i64 1)),.mov 13 (.t 25)]))))
def fn87_l1:VCode :=
(.clean [0,1,12,13] [4] (.block 0 (.loop [0,1,12,13] fn87_b0)))
def fn87:VFn:=⟨2,26,[.tmp 4],(.seq (.ops [.asg 4 (.c (.bool false))]) (.seq (.seq (.ops [.mov 6 (.t 0),.len 7 (.t 6),.mov 8 (.t 1),.len 9 (.t 8),.bin 10 .neq (.t 7) (.t 9)]) (.cond (.t 10) (.seq (.ops [.asg 4 (.c (.bool false))]) .ret) .skip)) (.seq (.seq (.ops [.mov 11 (.t 0),.len 12 (.t 11),.mov 13 (.c (.int .i64 0))])
   fn87_l1) (.seq (.ops [.asg 4 (.c (.bool true))]) .ret))))⟩
def fn89:VFn:=⟨2,40,[.tmp 4],(.seq (.ops [.box 3 (.t 1),.asg 4 (.c (.int .i64 0))]) (.seq (.block 0 (.seq (.ops [.fadr 6 (.t 3) 0,.load 7 none (.t 6),.bin 8 .lss (.t 7) (.c (.int .i64 0)),.mov 9 (.t 8),.grd 9 false (.fadr 10 (.t 3) 0),.grd 9 false (.load 11 none (.t 10)),.grd 9 false (.mov 12 (.t 0)),.grd 9 false (.len 13 (.t 12)),.grd 9 false (.bin 14 .geq (.t 11) (.t 13)),.pick 15 (.t 9) (.c (.bool true)) (.t 14),.asg 5 (.t 15)]) (.cond (.t 5) (.seq (.ops [.asg 4 (.c (.int .i64 7))]) .ret) (.seq (.ops [.fadr 17 (.t 3) 2,.load 18 none (.t 17),.len 19 (.t 18),.bin 20 .eql (.t 19) (.c (.int .i64 0)),.asg 16 (.t 20)]) (.cond (.t 16) (.seq (.ops [.asg 4 (.c (.int .i64 1))]) .ret) (.seq (.drw [] [] none [0,1,2,3,4,5,6,7,8,9,10,11,12,13,14,15,16,17,18] [.fadr 22 (.t 3) 1,.load 23 none (.t 22),.bin 24 .lss (.t 23) (.c (.int .i64 0)),.mov 25 (.t 24),.grd 25 false (.fadr 26 (.t 3) 1),.grd 25 false (.load 27 none (.t 26)),.grd 25 false (.mov 28 (.t 0)),.grd 25 false (.fadr 29 (.t 3) 0),.grd 25 false (.load 30 none (.t 29)),.grd 25 false (.iadr 31 1 (.t 28) (.t 30)),.grd 25 false (.load 32 none (.t 31)),.grd 25 false (.len 33 (.t 32)),.grd 25 false (.fadr 34 (.t 3) 2),.grd 25 false (.load 35 none (.t 34)),.grd 25 false (.len 36 (.t 35)),.grd 25 false (.bin 37 .sub (.t 33) (.t 36)),.grd 25 false (.bin 38 .gtr (.t 27) (.t 37)),.pick 39 (.t 25) (.c (.bool true)) (.t 38),.asg 21 (.t 39)]) (.cond (.t 21) (.seq (.ops [.asg 4 (.c (.int .i64 2))]) .ret) .skip))))))) (.seq (.ops [.asg 4 (.c (.int .i64 0))]) .ret)))⟩
def fn90:VFn:=⟨1,39,[.tmp 2],(.seq (.ops [.box 1 (.t 0),.asg 2 (.c (.int .i64 0))]) (.seq (.seq (.drw [] [([0,1,2,3,4,5,6,7,8,9,10,11,12,13],14)] none [15,16] [.fadr 4 (.t 1) 0,.load 5 none (.t 4),.bin 6 .lss (.t 5) (.c (.int .i64 0)),.mov 7 (.t 6),.grd 7 false (.fadr 8 (.t 1) 0),.grd 7 false (.load 9 none (.t 8)),.grd 7 false (.bin 10 .gtr (.t 9) (.c (.int .i64 4096))),.pick 11 (.t 7) (.c (.bool true)) (.t 10),.mov 12 (.t 11),.grd 12 false (.fadr 13 (.t 1) 1),.grd 12 false (.load 14 none (.t 13)),.grd 12 false (.len 15 (.t 14)),.grd 12 false (.fadr 16 (.t 1) 0),.grd 12 false (.load 17 none (.t 16)),.grd 12 false (.call 18 121 [(.t 17)]),.grd 12 false (.bin 19 .neq (.t 15) (.t 18)),.pick 20 (.t 12) (.c (.bool true)) (.t 19)]) (.cond (.t 20) (.seq (.ops [.asg 2 (.c (.int .i64 3))]) .ret) .skip)) (.seq (.seq (.ops [.fadr 21 (.t 1) 0,.load 22 none (.t 21),.bin 23 .rem (.t 22) (.c (.int .i64 64)),.asg 3 (.t 23)]) (.seq (.ops [.mov 24 (.t 3),.bin 25 .gtr (.t 24) (.c (.int .i64 0)),.mov 26 (.t 25),.grd 26 true (.fadr 27 (.t 1) 1),.grd 26 true (.load 28 none (.t 27)),.grd 26 true (.fadr 29 (.t 1) 1),.grd 26 true (.load 30 none (.t 29)),.grd 26 true (.len 31 (.t 30)),.grd 26 true (.bin 32 .sub (.t 31) (.c (.int .i64 1))),.grd 26 true (.iadr 33 1 (.t 28) (.t 32)),.grd 26 true (.load 34 none (.t 33)),.grd 26 true (.mov 35 (.t 3)),.grd 26 true (.bin 36 .shr (.t 34) (.t 35)),.grd 26 true (.bin 37 .neq (.t 36) (.c (.int .u64 0))),.pick 38 (.t 26) (.t 37) (.c (.bool false))]) (.cond (.t 38) (.seq (.ops [.asg 2 (.c (.int .i64 3))]) .ret) .skip))) (.seq (.ops [.asg 2 (.c (.int .i64 0))]) .ret))))⟩
def fn92:VFn:=⟨2,12,[.tmp 4],(.seq (.ops [.asg 4 (.c (.bool false))]) (.seq (.ops [.mov 5 (.t 0),.mov 6 (.t 1),.bin 7 .geq (.t 5) (.t 6),.mov 8 (.t 7),.grd 8 true (.mov 9 (.t 0)),.grd 8 true (.bin 10 .leq (.t 9) (.c (.int .i64 1073741824))),.pick 11 (.t 8) (.t 10) (.c (.bool false)),.asg 4 (.t 11)]) .ret))⟩
def fn93_b0:VCode:=(.seq (.ops [.bin 10 .lss (.t 9) (.t 8)]) (.seq (.cond (.t 10) .skip (.exit 0)) (.seq (.block 1 (.seq (.ops [.iadr 11 3 (.t 7) (.t 9),.load 12 (some 3) (.t 11),.alloc 5 [(.int .i64 0),(.int .i64 0),(.int .i64 0)],.store none 3 (.t 5) (.t 12)]) (.seq (.seq (.ops [.fadr 13 (.t 5) 1,.load 14 none (.t 13),.fadr 15 (.t 3) 2,.load 16 none (.t 15),.bin 17 .add (.t 16) (.c (.int .i64 1)),.bin 18 .neq (.t 14) (.t 17),.mov 19 (.t 18),.grd 19 false (.fadr 20 (.t 5) 2),.grd 19 false (.load 21 none (.t 20)),.grd 19 false (.fadr 22 (.t 5) 1),.grd 19 false (.load 23 none (.t 22)),.grd 19 false (.bin 24 .lss (.t 21) (.t 23)),.pick 25 (.t 19) (.c (.bool true)) (.t 24),.mov 26 (.t 25),.grd 26 false (.fadr 27 (.t 5) 2),.grd 26 false (.load 28 none (.t 27)),.grd 26 false (.bin 29 .gtr (.t 28) (.c (.int .i64 1073741824))),.pick 30 (.t 26) (.c (.bool true)) (.t 29),.mov 31 (.t 30),.grd 31 false (.fadr 32 (.t 5) 0),.grd 31 false (.load 33 none (.t 32)),.grd 31 false (.call 34 92 [(.t 33),(.c (.int .i64 1))]),.grd 31 false (.un 35 .not (.t 34)),.pick 36 (.t 31) (.c (.bool true)) (.t 35),.mov 37 (.t 36),.grd 37 false (.fadr 38 (.t 5) 0),.grd 37 false (.load 39 none (.t 38)),.grd 37 false (.fadr 40 (.t 3) 0),.grd 37 false (.load 41 none (.t 40)),.grd 37 false (.bin 42 .leq (.t 39) (.t 41)),.pick 43 (.t 37) (.c (.bool true)) (.t 42)]) (.cond (.t 43) (.seq (.ops [.asg 2 (.c (.bool false))]) .ret) .skip)) (.ops [.load 44 (some 3) (.t 5),.store none 3 (.t 3) (.t 44)])))) (.ops [.bin 45 .add (.t 9) (.c (.int .i64 1)),.mov 9 (.t 45)]))))
def fn93_l1:VCode :=
(.clean [0,3,7,8,9] [2] (.block 0 (.loop [0,3,7,8,9] fn93_b0)))
def fn93:VFn:=⟨1,46,[.tmp 2],(.seq (.ops [.asg 2 (.c (.bool false))]) (.seq (.ops [.build 6 [(.int .i64 0),(.int .i64 0),(.int .i64 0)] [],.alloc 3 [(.int .i64 0),(.int .i64 0),(.int .i64 0)],.store none 3 (.t 3) (.t 6)]) (.seq (.seq (.ops [.mov 7 (.t 0),.len 8 (.t 7),.mov 9 (.c (.int .i64 0))])
   fn93_l1) (.seq (.ops [.asg 2 (.c (.bool true))]) .ret))))⟩
def fn94_b0:VCode:=(.ops [.asg 4 (.t 8)])
def fn94_b1:VCode:=(.block 1 (.seq (.seq (.ops [.load 9 none (.t 3),.len 10 (.t 9),.asg 5 (.t 10)]) (.seq (.drw [] [] none [0,1,2,3,4,5,6,7,8,9,10,11,12,13,14,15,16,17,18] [.mov 11 (.t 5),.bin 12 .gtr (.t 11) (.c (.int .i64 0)),.mov 13 (.t 12),.grd 13 true (.load 14 none (.t 3)),.grd 13 true (.mov 15 (.t 5)),.grd 13 true (.bin 16 .sub (.t 15) (.c (.int .i64 1))),.grd 13 true (.iadr 17 2 (.t 14) (.t 16)),.grd 13 true (.fadr 18 (.t 17) 0),.grd 13 true (.load 19 none (.t 18)),.grd 13 true (.load 20 none (.t 3)),.grd 13 true (.mov 21 (.t 5)),.grd 13 true (.bin 22 .sub (.t 21) (.c (.int .i64 1))),.grd 13 true (.iadr 23 2 (.t 20) (.t 22)),.grd 13 true (.fadr 24 (.t 23) 1),.grd 13 true (.load 25 none (.t 24)),.grd 13 true (.bin 26 .add (.t 19) (.t 25)),.grd 13 true (.mov 27 (.t 4)),.grd 13 true (.bin 28 .eql (.t 26) (.t 27)),.pick 29 (.t 13) (.t 28) (.c (.bool false))]) (.cond (.t 29) (.seq (.ops [.load 30 none (.t 3),.mov 31 (.t 5),.bin 32 .sub (.t 31) (.c (.int .i64 1)),.iadr 33 2 (.t 30) (.t 32),.fadr 34 (.t 33) 1,.load 35 none (.t 34),.bin 36 .add (.t 35) (.c (.int .i64 1)),.iadr 37 2 (.t 30) (.t 32),.fadr 38 (.t 37) 1,.store none 1 (.t 38) (.t 36)]) (.exit 1)) .skip))) (.ops [.load 39 none (.t 3),.mov 40 (.t 4),.build 41 [(.int .i64 0),(.int .i64 0)] [(0,1,(.t 40)),(1,1,(.c (.int .i64 1)))],.mksl 42 2 [(.t 41)],.app 43 2 (.t 39) (.t 42),.store none 1 (.t 3) (.t 43)])))
def fn94:VFn:=⟨1,45,[.tmp 2],(.seq (.ops [.box 1 (.t 0),.asg 2 (.nil 2)]) (.seq (.ops [.alloc 3 [(.list 2 [])]]) (.seq (.seq (.ops [.load 6 (some 2) (.t 1),.call 7 126 [(.t 6),(.c (.int .i64 0))]]) (.block 0 (.rng (.t 7) [8] fn94_b0 fn94_b1))) (.seq (.ops [.load 44 none (.t 3),.asg 2 (.t 44)]) .ret))))⟩
def fn95:VFn:=⟨1,8,[.tmp 2],(.seq (.ops [.asg 2 (.nil 8)]) (.seq (.seq (.ops [.mov 3 (.t 0),.isn 4 false (.t 3)]) (.cond (.t 4) (.seq (.ops [.asg 2 (.nil 8)]) .ret) .skip)) (.seq (.ops [.mksl 5 8 [],.mov 6 (.t 0),.app 7 8 (.t 5) (.t 6),.asg 2 (.t 7)]) .ret)))⟩
def fn96:VFn:=⟨1,12,[.tmp 2,.tmp 3],(.seq (.ops [.asg 2 (.nil 1),.asg 3 (.c (.int .i64 0))]) (.seq (.seq (.ops [.mov 5 (.t 0),.call 6 124 [(.t 5)],.asg 4 (.t 6)]) (.seq (.ops [.mov 7 (.t 4),.bin 8 .neq (.t 7) (.c (.int .i64 0))]) (.cond (.t 8) (.seq (.ops [.mov 9 (.t 4),.asg 2 (.nil 1),.asg 3 (.t 9)]) .ret) .skip))) (.seq (.ops [.mov 10 (.t 0),.call 11 127 [(.t 10),(.c (.func 128 []))],.asg 2 (.t 11),.asg 3 (.c (.int .i64 0))]) .ret)))⟩
def fn97:VFn:=⟨3,15,[.tmp 6],(.seq (.ops [.asg 6 (.c (.bool false))]) (.seq (.ops [.mov 7 (.t 0),.mov 8 (.t 1),.bin 9 .geq (.t 7) (.t 8),.mov 10 (.t 9),.grd 10 true (.mov 11 (.t 0)),.grd 10 true (.mov 12 (.t 2)),.grd 10 true (.bin 13 .leq (.t 11) (.t 12)),.pick 14 (.t 10) (.t 13) (.c (.bool false)),.asg 6 (.t 14)]) .ret))⟩
def fn98:VFn:=⟨2,12,[.tmp 4],(.seq (.ops [.asg 4 (.c (.int .i64 0))]) (.seq (.seq (.ops [.mov 5 (.t 0),.len 6 (.t 5),.mov 7 (.t 1),.call 8 97 [(.t 6),(.t 7),(.c (.int .i64 8))],.un 9 .not (.t 8)]) (.cond (.t 9) (.seq (.ops [.asg 4 (.c (.int .i64 6))]) .ret) .skip)) (.seq (.seq (.ops [.mov 10 (.t 0),.call 11 129 [(.t 10),(.c (.func 130 []))]]) (.cond (.t 11) (.seq (.ops [.asg 4 (.c (.int .i64 2))]) .ret) .skip)) (.seq (.ops [.asg 4 (.c (.int .i64 0))]) .ret))))⟩
def fn99:VFn:=⟨2,18,[.tmp 4],(.seq (.ops [.asg 4 (.c (.int .i64 0))]) (.seq (.ops [.mov 8 (.t 1),.call 9 96 [(.t 8)],.mov 7 (.t 9),.ext 10 (.t 7) 0,.ext 11 (.t 7) 1,.alloc 5 [(.list 1 [])],.store none 1 (.t 5) (.t 10),.asg 6 (.t 11)]) (.seq (.seq (.ops [.mov 12 (.t 6),.bin 13 .neq (.t 12) (.c (.int .i64 0))]) (.cond (.t 13) (.seq (.ops [.mov 14 (.t 6),.asg 4 (.t 14)]) .ret) .skip)) (.seq (.ops [.mov 15 (.t 0),.mkf 16 132 [(.t 5)],.call 17 131 [(.t 15),(.t 16)],.asg 4 (.t 17)]) .ret))))⟩
def fn100_b0:VCode:=(.seq (.seq (.ops [.mov 6 (.t 3),.mov 7 (.t 0),.len 8 (.t 7),.bin 9 .lss (.t 6) (.t 8)]) (.cond (.t 9) .skip (.exit 0))) (.seq (.block 1 (.seq (.ops [.asg 4 (.c (.int .i64 1)),.asg 5 (.c (.int .i64 1))]) (.seq (.seq (.ops [.mov 12 (.t 3),.bin 13 .gtr (.t 12) (.c (.int .i64 0))]) (.cond (.t 13) (.drw [] [] none [0,1,2,3,4,5,6,7,8,9,10,11,12,13,14,15] [.mov 14 (.t 0),.mov 15 (.t 3),.bin 16 .sub (.t 15) (.c (.int .i64 1)),.iadr 17 3 (.t 14) (.t 16),.fadr 18 (.t 17) 2,.load 19 none (.t 18),.bin 20 .add (.t 19) (.c (.int .i64 1)),.mov 21 (.t 0),.mov 22 (.t 3),.bin 23 .sub (.t 22) (.c (.int .i64 1)),.iadr 24 3 (.t 21) (.t 23),.fadr 25 (.t 24) 0,.load 26 none (.t 25),.bin 27 .add (.t 26) (.c (.int .i64 1)),.asg 4 (.t 20),.asg 5 (.t 27)]) .skip)) (.seq (.drw [] [] none [0,1,2,3,4,5,6,7,8,9,10,11,12,13,14,15,16,17,18,19,20,21,22,23,24,25,26,27,28,29,30,31,32,33,34,35,36,37,38,39,40,41,42,43,44] [.mov 28 (.t 0),.mov 29 (.t 3),.iadr 30 3 (.t 28) (.t 29),.fadr 31 (.t 30) 1,.load 32 none (.t 31),.mov 33 (.t 4),.bin 34 .neq (.t 32) (.t 33),.mov 35 (.t 34),.grd 35 false (.mov 36 (.t 0)),.grd 35 false (.mov 37 (.t 3)),.grd 35 false (.iadr 38 3 (.t 36) (.t 37)),.grd 35 false (.fadr 39 (.t 38) 2),.grd 35 false (.load 40 none (.t 39)),.grd 35 false (.mov 41 (.t 0)),.grd 35 false (.mov 42 (.t 3)),.grd 35 false (.iadr 43 3 (.t 41) (.t 42)),.grd 35 false (.fadr 44 (.t 43) 1),.grd 35 false (.load 45 none (.t 44)),.grd 35 false (.bin 46 .lss (.t 40) (.t 45)),.pick 47 (.t 35) (.c (.bool true)) (.t 46),.mov 48 (.t 47),.grd 48 false (.mov 49 (.t 0)),.grd 48 false (.mov 50 (.t 3)),.grd 48 false (.iadr 51 3 (.t 49) (.t 50)),.grd 48 false (.fadr 52 (.t 51) 2),.grd 48 false (.load 53 none (.t 52)),.grd 48 false (.bin 54 .gtr (.t 53) (.c (.int .i64 1073741824))),.pick 55 (.t 48) (.c (.bool true)) (.t 54),.mov 56 (.t 55),.grd 56 false (.mov 57 (.t 0)),.grd 56 false (.mov 58 (.t 3)),.grd 56 false (.iadr 59 3 (.t 57) (.t 58)),.grd 56 false (.fadr 60 (.t 59) 0),.grd 56 false (.load 61 none (.t 60)),.grd 56 false (.mov 62 (.t 5)),.grd 56 false (.bin 63 .lss (.t 61) (.t 62)),.pick 64 (.t 56) (.c (.bool true)) (.t 63),.mov 65 (.t 64),.grd 65 false (.mov 66 (.t 0)),.grd 65 false (.mov 67 (.t 3)),.grd 65 false (.iadr 68 3 (.t 66) (.t 67)),.grd 65 false (.fadr 69 (.t 68) 0),.grd 65 false (.load 70 none (.t 69)),.grd 65 false (.bin 71 .gtr (.t 70) (.c (.int .i64 1073741824))),.pick 72 (.t 65) (.c (.bool true)) (.t 71)]) (.cond (.t 72) (.seq (.ops [.asg 2 (.c (.bool false))]) .ret) .skip))))) (.ops [.mov 10 (.t 3),.bin 11 .add (.t 10) (.c (.int .i64 1)),.asg 3 (.t 11)])))
def fn100_l1:VCode :=
(.clean [0,3] [2] (.block 0 (.loop [0,3] fn100_b0)))
def fn100:VFn:=⟨1,73,[.tmp 2],(.seq (.ops [.asg 2 (.c (.bool false))]) (.seq (.seq (.ops [.asg 3 (.c (.int .i64 0))])
  fn100_l1) (.seq (.ops [.asg 2 (.c (.bool true))]) .ret)))⟩
def fn101:VFn:=⟨1,6,[.tmp 2],(.seq (.ops [.asg 2 (.c (.int .i64 0))]) (.seq (.ops [.mov 3 (.t 0),.call 4 59 [(.t 3)],.call 5 104 [(.t 4)],.asg 2 (.t 5)]) .ret))⟩
def fn102_b0:VCode:=(.seq (.seq (.ops [.mov 24 (.t 3),.fadr 25 (.t 1) 1,.load 26 none (.t 25),.len 27 (.t 26),.bin 28 .mul (.c (.int .i64 64)) (.t 27),.bin 29 .lss (.t 24) (.t 28)]) (.cond (.t 29) .skip (.exit 0))) (.seq (.block 1 (.seq (.ops [.load 32 (some 2) (.t 1),.mov 33 (.t 3),.call 34 103 [(.t 32),(.t 33)]]) (.cond (.t 34) (.seq (.ops [.asg 2 (.c (.int .i64 3))]) .ret) .skip))) (.ops [.mov 30 (.t 3),.bin 31 .add (.t 30) (.c (.int .i64 1)),.asg 3 (.t 31)])))
def fn102_l1:VCode :=
(.clean [1,3] [2] (.block 0 (.loop [1,3] fn102_b0)))
def fn102:VFn:=⟨1,35,[.tmp 2],(.seq (.ops [.box 1 (.t 0),.asg 2 (.c (.int .i64 0))]) (.seq (.seq (.ops [.fadr 4 (.t 1) 0,.load 5 none (.t 4),.bin 6 .lss (.t 5) (.c (.int .i64 0)),.mov 7 (.t 6),.grd 7 false (.fadr 8 (.t 1) 0),.grd 7 false (.load 9 none (.t 8)),.grd 7 false (.bin 10 .gtr (.t 9) (.c (.int .i64 4096))),.pick 11 (.t 7) (.c (.bool true)) (.t 10),.mov 12 (.t 11),.grd 12 false (.fadr 13 (.t 1) 1),.grd 12 false (.load 14 none (.t 13)),.grd 12 false (.len 15 (.t 14)),.grd 12 false (.fadr 16 (.t 1) 0),.grd 12 false (.load 17 none (.t 16)),.grd 12 false (.bin 18 .add (.t 17) (.c (.int .i64 63))),.grd 12 false (.bin 19 .quo (.t 18) (.c (.int .i64 64))),.grd 12 false (.bin 20 .neq (.t 15) (.t 19)),.pick 21 (.t 12) (.c (.bool true)) (.t 20)]) (.cond (.t 21) (.seq (.ops [.asg 2 (.c (.int .i64 3))]) .ret) .skip)) (.seq (.seq (.ops [.fadr 22 (.t 1) 0,.load 23 none (.t 22),.asg 3 (.t 23)])
   fn102_l1) (.seq (.ops [.asg 2 (.c (.int .i64 0))]) .ret))))⟩
def fn103:VFn:=⟨2,17,[.tmp 4],(.seq (.ops [.box 2 (.t 0),.asg 4 (.c (.bool false))]) (.seq (.ops [.fadr 5 (.t 2) 1,.load 6 none (.t 5),.mov 7 (.t 1),.bin 8 .quo (.t 7) (.c (.int .i64 64)),.iadr 9 1 (.t 6) (.t 8),.load 10 none (.t 9),.mov 11 (.t 1),.bin 12 .rem (.t 11) (.c (.int .i64 64)),.conv 13 .u64 (.t 12),.bin 14 .shr (.t 10) (.t 13),.bin 15 .and (.t 14) (.c (.int .u64 1)),.bin 16 .eql (.t 15) (.c (.int .u64 1)),.asg 4 (.t 16)]) .ret))⟩
def fn104_b0:VCode:=(.seq (.seq (.ops [.mov 12 (.t 3),.mov 13 (.t 0),.len 14 (.t 13),.bin 15 .lss (.t 12) (.t 14)]) (.cond (.t 15) .skip (.exit 0))) (.seq (.block 1 (.seq (.ops [.mov 18 (.t 0),.mov 19 (.t 3),.iadr 20 1 (.t 18) (.t 19),.load 21 none (.t 20),.bin 22 .lss (.t 21) (.c (.int .i64 1)),.mov 23 (.t 22),.grd 23 false (.mov 24 (.t 0)),.grd 23 false (.mov 25 (.t 3)),.grd 23 false (.iadr 26 1 (.t 24) (.t 25)),.grd 23 false (.load 27 none (.t 26)),.grd 23 false (.bin 28 .gtr (.t 27) (.c (.int .i64 4096))),.pick 29 (.t 23) (.c (.bool true)) (.t 28)]) (.cond (.t 29) (.seq (.ops [.asg 2 (.c (.int .i64 2))]) .ret) .skip))) (.ops [.mov 16 (.t 3),.bin 17 .add (.t 16) (.c (.int .i64 1)),.asg 3 (.t 17)])))
def fn104_l1:VCode :=
(.clean [0,3] [2] (.block 0 (.loop [0,3] fn104_b0)))
def fn104:VFn:=⟨1,30,[.tmp 2],(.seq (.ops [.asg 2 (.c (.int .i64 0))]) (.seq (.seq (.ops [.mov 4 (.t 0),.len 5 (.t 4),.bin 6 .lss (.t 5) (.c (.int .i64 1)),.mov 7 (.t 6),.grd 7 false (.mov 8 (.t 0)),.grd 7 false (.len 9 (.t 8)),.grd 7 false (.bin 10 .gtr (.t 9) (.c (.int .i64 8))),.pick 11 (.t 7) (.c (.bool true)) (.t 10)]) (.cond (.t 11) (.seq (.ops [.asg 2 (.c (.int .i64 6))]) .ret) .skip)) (.seq (.seq (.ops [.asg 3 (.c (.int .i64 0))])
   fn104_l1) (.seq (.ops [.asg 2 (.c (.int .i64 0))]) .ret))))⟩
def fn105_b0:VCode:=(.seq (.seq (.ops [.mov 4 (.t 3),.mov 5 (.t 0),.len 6 (.t 5),.bin 7 .lss (.t 4) (.t 6)]) (.cond (.t 7) .skip (.exit 0))) (.seq (.block 1 (.seq (.ops [.mov 10 (.t 0),.mov 11 (.t 3),.iadr 12 1 (.t 10) (.t 11),.load 13 none (.t 12),.bin 14 .lss (.t 13) (.c (.int .i64 0)),.mov 15 (.t 14),.grd 15 false (.mov 16 (.t 0)),.grd 15 false (.mov 17 (.t 3)),.grd 15 false (.iadr 18 1 (.t 16) (.t 17)),.grd 15 false (.load 19 none (.t 18)),.grd 15 false (.bin 20 .gtr (.t 19) (.c (.int .i64 1073741824))),.pick 21 (.t 15) (.c (.bool true)) (.t 20)]) (.cond (.t 21) (.seq (.ops [.asg 2 (.c (.int .i64 2))]) .ret) .skip))) (.ops [.mov 8 (.t 3),.bin 9 .add (.t 8) (.c (.int .i64 1)),.asg 3 (.t 9)])))
def fn105_l1:VCode :=
(.clean [0,3] [2] (.block 0 (.loop [0,3] fn105_b0)))
def fn105:VFn:=⟨1,22,[.tmp 2],(.seq (.ops [.asg 2 (.c (.int .i64 0))]) (.seq (.seq (.ops [.asg 3 (.c (.int .i64 0))])
  fn105_l1) (.seq (.ops [.asg 2 (.c (.int .i64 0))]) .ret)))⟩
def fn106_b0:VCode:=(.seq (.seq (.ops [.mov 14 (.t 6),.mov 15 (.t 0),.len 16 (.t 15),.bin 17 .lss (.t 14) (.t 16)]) (.cond (.t 17) .skip (.exit 0))) (.seq (.block 1 (.seq (.seq (.ops [.mov 20 (.t 1),.mov 21 (.t 0),.mov 22 (.t 6),.iadr 23 3 (.t 21) (.t 22),.load 24 (some 3) (.t 23),.call 25 134 [(.t 20),(.t 24)],.asg 7 (.t 25)]) (.seq (.ops [.mov 26 (.t 7),.bin 27 .neq (.t 26) (.c (.int .i64 0))]) (.cond (.t 27) (.seq (.ops [.mov 28 (.t 7),.asg 4 (.t 28)]) .ret) .skip))) (.seq (.seq (.ops [.mov 29 (.t 6),.bin 30 .eql (.t 29) (.c (.int .i64 0))]) (.cond (.t 30) (.exit 1) .skip)) (.seq (.ops [.mov 31 (.t 0),.mov 32 (.t 6),.bin 33 .sub (.t 32) (.c (.int .i64 1)),.iadr 34 3 (.t 31) (.t 33),.load 35 (some 3) (.t 34),.alloc 8 [(.int .i64 0),(.int .i64 0),(.list 0 [])],.store none 3 (.t 8) (.t 35)]) (.seq (.drw [] [] none [0,1,2,3,4,5,6,7,8,9,10,11,12,13,14,15,16,17,18,19,20,21,22,23,24,25,26,27,28,29,30,31,32] [.mov 36 (.t 0),.mov 37 (.t 6),.iadr 38 3 (.t 36) (.t 37),.fadr 39 (.t 38) 0,.load 40 none (.t 39),.fadr 41 (.t 8) 0,.load 42 none (.t 41),.bin 43 .lss (.t 40) (.t 42),.mov 44 (.t 43),.grd 44 false (.mov 45 (.t 0)),.grd 44 false (.mov 46 (.t 6)),.grd 44 false (.iadr 47 3 (.t 45) (.t 46)),.grd 44 false (.fadr 48 (.t 47) 0),.grd 44 false (.load 49 none (.t 48)),.grd 44 false (.fadr 50 (.t 8) 0),.grd 44 false (.load 51 none (.t 50)),.grd 44 false (.bin 52 .eql (.t 49) (.t 51)),.grd 44 false (.mov 53 (.t 52)),.grd 53 true (.mov 54 (.t 0)),.grd 53 true (.mov 55 (.t 6)),.grd 53 true (.iadr 56 3 (.t 54) (.t 55)),.grd 53 true (.fadr 57 (.t 56) 1),.grd 53 true (.load 58 none (.t 57)),.grd 53 true (.fadr 59 (.t 8) 1),.grd 53 true (.load 60 none (.t 59)),.grd 53 true (.fadr 61 (.t 8) 2),.grd 53 true (.load 62 none (.t 61)),.grd 53 true (.len 63 (.t 62)),.grd 53 true (.bin 64 .add (.t 60) (.t 63)),.grd 53 true (.bin 65 .add (.t 64) (.c (.int .i64 1))),.grd 53 true (.bin 66 .lss (.t 58) (.t 65)),.grd 44 false (.pick 67 (.t 53) (.t 66) (.c (.bool false))),.pick 68 (.t 44) (.c (.bool true)) (.t 67)]) (.cond (.t 68) (.seq (.ops [.asg 4 (.c (.int .i64 3))]) .ret) .skip)))))) (.ops [.mov 18 (.t 6),.bin 19 .add (.t 18) (.c (.int .i64 1)),.asg 6 (.t 19)])))
def fn106_l1:VCode :=
(.clean [0,1,6] [4] (.block 0 (.loop [0,1,6] fn106_b0)))
def fn106:VFn:=⟨2,69,[.tmp 4],(.seq (.ops [.asg 4 (.c (.int .i64 0))]) (.seq (.seq (.ops [.mov 9 (.t 1),.call 10 104 [(.t 9)],.asg 5 (.t 10)]) (.seq (.ops [.mov 11 (.t 5),.bin 12 .neq (.t 11) (.c (.int .i64 0))]) (.cond (.t 12) (.seq (.ops [.mov 13 (.t 5),.asg 4 (.t 13)]) .ret) .skip))) (.seq (.seq (.ops [.asg 6 (.c (.int .i64 0))])
   fn106_l1) (.seq (.ops [.asg 4 (.c (.int .i64 0))]) .ret))))⟩
def fn107_b0:VCode:=(.seq (.seq (.ops [.mov 11 (.t 5),.mov 12 (.t 0),.len 13 (.t 12),.bin 14 .lss (.t 11) (.t 13)]) (.cond (.t 14) .skip (.exit 0))) (.seq (.block 1 (.seq (.drw [] [] none [0,1,2,3,4,5,6,7,8] [.mov 17 (.t 0),.mov 18 (.t 5),.iadr 19 8 (.t 17) (.t 18),.load 20 (some 8) (.t 19),.mov 21 (.t 1),.mov 22 (.t 5),.iadr 23 8 (.t 21) (.t 22),.load 24 (some 8) (.t 23),.eqa 25 true 8 (.t 20) (.t 24)]) (.cond (.t 25) (.seq (.ops [.asg 4 (.c (.bool false))]) .ret) .skip))) (.ops [.mov 15 (.t 5),.bin 16 .add (.t 15) (.c (.int .i64 1)),.asg 5 (.t 16)])))
def fn107_l1:VCode :=
(.clean [0,1,5] [4] (.block 0 (.loop [0,1,5] fn107_b0)))
def fn107:VFn:=⟨2,26,[.tmp 4],(.seq (.ops [.asg 4 (.c (.bool false))]) (.seq (.seq (.ops [.mov 6 (.t 0),.len 7 (.t 6),.mov 8 (.t 1),.len 9 (.t 8),.bin 10 .neq (.t 7) (.t 9)]) (.cond (.t 10) (.seq (.ops [.asg 4 (.c (.bool false))]) .ret) .skip)) (.seq (.seq (.ops [.asg 5 (.c (.int .i64 0))])
   fn107_l1) (.seq (.ops [.asg 4 (.c (.bool true))]) .ret))))⟩
def fn111:VFn:=⟨2,8,[.tmp 4],(.seq (.ops [.asg 4 (.c (.bool false))]) (.seq (.ops [.mov 5 (.t 0),.mov 6 (.t 1),.call 7 86 [(.t 5),(.t 6),(.c (.func 135 []))],.asg 4 (.t 7)]) .ret))⟩
def fn112_b0:VCode:=(.seq (.ops [.bin 16 .lss (.t 15) (.t 14)]) (.seq (.cond (.t 16) .skip (.exit 0)) (.seq (.block 1 (.seq (.ops [.mov 17 (.t 15),.asg 6 (.t 17)]) (.seq (.drs [] [2,3,5,6,7,12,14,15] [.fadr 19 (.t 2) 2,.load 20 none (.t 19),.mov 21 (.t 6),.iadr 22 2 (.t 20) (.t 21),.load 23 (some 2) (.t 22),.fadr 24 (.t 3) 2,.load 25 none (.t 24),.mov 26 (.t 6),.iadr 27 2 (.t 25) (.t 26),.load 28 (some 2) (.t 27),.call 29 136 [(.t 23),(.t 28)],.mov 18 (.t 29),.ext 30 (.t 18) 0,.ext 31 (.t 18) 1,.alloc 7 [(.int .i64 0),(.list 1 [])],.store none 2 (.t 7) (.t 30),.asg 8 (.t 31)]
    [⟨[([0,1,2,3,4,5,6,7,8,9],10),([11,12,13],14)],(some ([],[],15,[])),[16],[0,1,2,3,4,5,6,7,8,9,10,11,12,13,14,15,16],false⟩,⟨[([0,1,2,3,4,5,6,7,8,9],14),([],10)],(some ([11,12],[13],15,[])),[16],[0,1,2,3,4,5,6,7,8,9,14,10,11,12,13,15,16],false⟩]) (.ops [.mov 32 (.t 5),.mov 33 (.t 6),.load 34 (some 2) (.t 7),.call 35 94 [(.t 34)],.iadr 36 1 (.t 32) (.t 33),.store none 1 (.t 36) (.t 35)])))) (.ops [.bin 37 .add (.t 15) (.c (.int .i64 1)),.mov 15 (.t 37)]))))
def fn112_l1:VCode :=
(.clean [2,3,5,12,14,15] [4,5] (.block 0 (.loop [2,3,5,12,14,15] fn112_b0)))
def fn112:VFn:=⟨2,39,[.tmp 4],(.seq (.ops [.box 2 (.t 0),.box 3 (.t 1),.asg 4 (.nil 1)]) (.seq (.ops [.fadr 9 (.t 2) 2,.load 10 none (.t 9),.len 11 (.t 10),.make 12 (.list 0 []) (.t 11) (.t 11),.asg 5 (.t 12)]) (.seq (.seq (.ops [.mov 13 (.t 5),.len 14 (.t 13),.mov 15 (.c (.int .i64 0))])
   fn112_l1) (.seq (.ops [.mov 38 (.t 5),.asg 4 (.t 38)]) .ret))))⟩
def fn115_b0:VCode:=(.seq (.ops [.bin 14 .lss (.t 13) (.t 12)]) (.seq (.cond (.t 14) .skip (.exit 0)) (.seq (.block 1 (.seq (.ops [.mov 15 (.t 13),.asg 5 (.t 15)]) (.seq (.drw [] [] none [0,1,2,3,4,5,6,7,8] [.mov 16 (.t 0),.mov 17 (.t 5),.iadr 18 1 (.t 16) (.t 17),.load 19 none (.t 18),.mov 20 (.t 1),.mov 21 (.t 5),.iadr 22 1 (.t 20) (.t 21),.load 23 none (.t 22),.bin 24 .neq (.t 19) (.t 23)]) (.cond (.t 24) (.seq (.ops [.asg 4 (.c (.bool false))]) .ret) .skip)))) (.ops [.bin 25 .add (.t 13) (.c (.int .i64 1)),.mov 13 (.t 25)]))))
def fn115_l1:VCode :=
(.clean [0,1,12,13] [4] (.block 0 (.loop [0,1,12,13] fn115_b0)))
def fn115:VFn:=⟨2,26,[.tmp 4],(.seq (.ops [.asg 4 (.c (.bool false))]) (.seq (.seq (.ops [.mov 6 (.t 0),.len 7 (.t 6),.mov 8 (.t 1),.len 9 (.t 8),.bin 10 .neq (.t 7) (.t 9)]) (.cond (.t 10) (.seq (.ops [.asg 4 (.c (.bool false))]) .ret) .skip)) (.seq (.seq (.ops [.mov 11 (.t 0),.len 12 (.t 11),.mov 13 (.c (.int .i64 0))])
   fn115_l1) (.seq (.ops [.asg 4 (.c (.bool true))]) .ret))))⟩
def fn116:VFn:=⟨1,5,[.tmp 2],(.seq (.ops [.asg 2 (.nil 1)]) (.seq (.ops [.mov 3 (.t 0),.call 4 138 [(.t 3),(.c (.func 139 []))],.asg 2 (.t 4)]) .ret))⟩
def fn117:VFn:=⟨2,6,[.tmp 4],(.seq (.ops [.box 2 (.t 0),.box 3 (.t 1),.asg 4 (.c .nilf)]) (.seq (.ops [.mkf 5 140 [(.t 2),(.t 3)],.asg 4 (.t 5)]) .ret))⟩
def fn118_b0:VCode:=(.ops [.alloc 5 [(.int .i64 0),(.int .i64 0)],.store none 2 (.t 5) (.t 7)])
def fn118_b1:VCode:=(.block 1 (.ops [.load 8 none (.t 2),.load 9 (some 2) (.t 5),.mksl 10 2 [(.t 9)],.app 11 2 (.t 8) (.t 10),.store none 1 (.t 2) (.t 11)]))
def fn118:VFn:=⟨2,13,[.tmp 4],(.seq (.ops [.box 2 (.t 0),.asg 4 (.nil 2)]) (.seq (.seq (.ops [.mov 6 (.t 1)]) (.block 0 (.rng (.t 6) [7] fn118_b0 fn118_b1))) (.seq (.ops [.load 12 none (.t 2),.asg 4 (.t 12)]) .ret)))⟩
def fn119_b0:VCode:=(.seq (.ops [.bin 19 .lss (.t 18) (.t 17)]) (.seq (.cond (.t 19) .skip (.exit 0)) (.seq (.block 1 (.seq (.ops [.mov 20 (.t 18),.iadr 21 3 (.t 16) (.t 18),.load 22 (some 3) (.t 21),.alloc 10 [(.int .i64 0),(.int .i64 0),(.int .i64 0)],.asg 9 (.t 20),.store none 3 (.t 10) (.t 22)]) (.seq (.drw [] [] (some ([0,1,2,3,4,5,6,7],[],8,[])) [] [.fadr 23 (.t 10) 1,.load 24 none (.t 23),.aadr 25 (.t 6) (.t 24) 2 1,.load 26 none (.t 25),.fadr 27 (.t 10) 2,.load 28 none (.t 27),.bin 29 .add (.t 26) (.t 28),.aadr 30 (.t 6) (.t 24) 2 1,.store none 1 (.t 30) (.t 29)]) (.seq (.seq (.drw [] [] none [0,1,2,3,4,5,6,7,8,9,10,11,12,13,14,15] [.mov 31 (.t 9),.bin 32 .add (.t 31) (.c (.int .i64 1)),.mov 33 (.t 5),.len 34 (.t 33),.bin 35 .lss (.t 32) (.t 34),.mov 36 (.t 35),.grd 36 true (.mov 37 (.t 5)),.grd 36 true (.mov 38 (.t 9)),.grd 36 true (.bin 39 .add (.t 38) (.c (.int .i64 1))),.grd 36 true (.iadr 40 3 (.t 37) (.t 39)),.grd 36 true (.fadr 41 (.t 40) 0),.grd 36 true (.load 42 none (.t 41)),.grd 36 true (.fadr 43 (.t 10) 0),.grd 36 true (.load 44 none (.t 43)),.grd 36 true (.bin 45 .eql (.t 42) (.t 44)),.pick 46 (.t 36) (.t 45) (.c (.bool false))]) (.cond (.t 46) (.exit 1) .skip)) (.seq (.ops [.load 47 none (.t 3),.aadr 48 (.t 6) (.c (.int .i64 0)) 2 1,.load 49 none (.t 48),.bin 50 .gtr (.t 49) (.c (.int .i64 0)),.aadr 51 (.t 6) (.c (.int .i64 1)) 2 1,.load 52 none (.t 51),.bin 53 .gtr (.t 52) (.c (.int .i64 0)),.callv 54 (.t 47) [(.t 50),(.t 53)],.asg 11 (.t 54)]) (.seq (.seq (.ops [.mov 55 (.t 11),.mov 56 (.t 55),.grd 56 true (.mov 57 (.t 8)),.grd 56 true (.un 58 .not (.t 57)),.pick 59 (.t 56) (.t 58) (.c (.bool false))]) (.cond (.t 59) (.ops [.fadr 60 (.t 10) 0,.load 61 none (.t 60),.asg 7 (.t 61)]) .skip)) (.seq (.seq (.ops [.mov 62 (.t 11),.un 63 .not (.t 62),.mov 64 (.t 63),.grd 64 true (.mov 65 (.t 8)),.pick 66 (.t 64) (.t 65) (.c (.bool false)),.mov 67 (.t 66),.grd 67 true (.mov 68 (.t 0)),.grd 67 true (.mov 69 (.t 7)),.grd 67 true (.fadr 70 (.t 10) 0),.grd 67 true (.load 71 none (.t 70)),.grd 67 true (.mov 72 (.t 7)),.grd 67 true (.bin 73 .sub (.t 71) (.t 72)),.grd 67 true (.build 74 [(.int .i64 0),(.int .i64 0)] [(0,1,(.t 69)),(1,1,(.t 73))]),.grd 67 true (.yield 75 (.t 68) [(.t 74)]),.grd 67 true (.un 76 .not (.t 75)),.pick 77 (.t 67) (.t 76) (.c (.bool false))]) (.cond (.t 77) .ret .skip)) (.ops [.mov 78 (.t 11),.asg 8 (.t 78)])))))))) (.ops [.bin 79 .add (.t 18) (.c (.int .i64 1)),.mov 18 (.t 79)]))))
def fn119_l1:VCode :=
(.clean [0,3,5,6,7,8,15,16,17,18] [] (.block 0 (.loop [0,3,5,6,7,8,15,16,17,18] fn119_b0)))
def fn119:VFn:=⟨4,80,[],(.seq (.ops [.load 12 none (.t 1),.load 13 none (.t 2),.mksl 14 1 [(.t 12),(.t 13)],.call 15 120 [(.t 14)],.asg 5 (.t 15)]) (.seq (.ops [.alloc 6 [(.int .i64 0),(.int .i64 0)]]) (.seq (.ops [.asg 7 (.c (.int .i64 0)),.asg 8 (.c (.bool false))]) (.seq (.ops [.mov 16 (.t 5),.len 17 (.t 16),.mov 18 (.c (.int .i64 0))])
   fn119_l1))))⟩
def fn120_b0:VCode:=(.seq (.ops [.bin 21 .lss (.t 20) (.t 19)]) (.seq (.cond (.t 21) .skip (.exit 2)) (.seq (.block 3 (.seq (.ops [.iadr 22 2 (.t 18) (.t 20),.load 23 (some 2) (.t 22),.alloc 7 [(.int .i64 0),(.int .i64 0)],.store none 2 (.t 7) (.t 23)]) (.seq (.ops [.load 25 (some 2) (.t 7),.call 26 141 [(.t 25)],.mov 24 (.t 26),.ext 27 (.t 24) 0,.ext 28 (.t 24) 1,.ext 29 (.t 24) 2,.asg 8 (.t 27),.asg 9 (.t 28),.asg 10 (.t 29)]) (.seq (.ops [.mov 30 (.t 10)]) (.cond (.t 30) (.ops [.mov 31 (.t 3),.mov 32 (.t 8),.mov 33 (.t 4),.build 34 [(.int .i64 0),(.int .i64 0),(.int .i64 0)] [(0,1,(.t 32)),(1,1,(.t 33)),(2,1,(.c (.int .i64 1)))],.mov 35 (.t 9),.mov 36 (.t 4),.build 37 [(.int .i64 0),(.int .i64 0),(.int .i64 0)] [(0,1,(.t 35)),(1,1,(.t 36)),(2,1,(.c (.int .i64 (-1))))],.mksl 38 3 [(.t 34),(.t 37)],.app 39 3 (.t 31) (.t 38),.asg 3 (.t 39)]) .skip))))) (.ops [.bin 40 .add (.t 20) (.c (.int .i64 1)),.mov 20 (.t 40)]))))
def fn120_l1:VCode :=
(.clean [0,3,4,5,11,12,13,17,18,19,20,39] [0,2,3,11,12,13,39] (.block 2 (.loop [0,3,4,5,11,12,13,17,18,19,20,39] fn120_b0)))
def fn120_b2:VCode:=(.seq (.ops [.bin 14 .lss (.t 13) (.t 12)]) (.seq (.cond (.t 14) .skip (.exit 0)) (.seq (.block 1 (.seq (.ops [.mov 15 (.t 13),.iadr 16 1 (.t 11) (.t 13),.load 17 none (.t 16),.asg 4 (.t 15),.asg 5 (.t 17)]) (.seq (.ops [.mov 18 (.t 5),.len 19 (.t 18),.mov 20 (.c (.int .i64 0))])
    fn120_l1))) (.ops [.bin 41 .add (.t 13) (.c (.int .i64 1)),.mov 13 (.t 41)]))))
def fn120_l3:VCode :=
(.clean [0,3,11,12,13,39] [2,3] (.block 0 (.loop [0,3,11,12,13,39] fn120_b2)))
def fn120:VFn:=⟨1,45,[.tmp 2],(.seq (.ops [.asg 2 (.nil 3)]) (.seq (.ops [.asg 3 (.nil 3)]) (.seq (.seq (.ops [.mov 11 (.t 0),.len 12 (.t 11),.mov 13 (.c (.int .i64 0))])
   fn120_l3) (.seq (.ops [.mov 42 (.t 3),.srt 43 142 (.t 42) (.c (.func 143 []))]) (.seq (.ops [.mov 44 (.t 3),.asg 2 (.t 44)]) .ret)))))⟩
def fn121:VFn:=⟨1,7,[.tmp 2],(.seq (.ops [.asg 2 (.c (.int .i64 0))]) (.seq (.ops [.mov 3 (.t 0),.bin 4 .add (.t 3) (.c (.int .i64 64)),.bin 5 .sub (.t 4) (.c (.int .i64 1)),.bin 6 .quo (.t 5) (.c (.int .i64 64)),.asg 2 (.t 6)]) .ret))⟩
def fn122:VFn:=⟨2,8,[.tmp 4],(.seq (.ops [.asg 4 (.c (.int .u64 0))]) (.seq (.ops [.mov 5 (.t 0),.mov 6 (.t 1),.bin 7 .or (.t 5) (.t 6),.asg 4 (.t 7)]) .ret))⟩
def fn123_b0:VCode:=(.seq (.ops [.bin 29 .lss (.t 28) (.t 27)]) (.seq (.cond (.t 29) .skip (.exit 0)) (.seq (.block 1 (.seq (.ops [.mov 30 (.t 28),.asg 10 (.t 30)]) (.drw [] [([0,1,2,3,4,5,6,7,8,9,10,11,12,13,14,15],16),([],17)] (some ([18],[],19,[])) [] [.mov 31 (.t 9),.mov 32 (.t 10),.fadr 33 (.t 3) 0,.load 34 none (.t 33),.mov 35 (.t 9),.mov 36 (.t 10),.iadr 37 1 (.t 35) (.t 36),.load 38 none (.t 37),.mov 39 (.t 10),.fadr 40 (.t 5) 0,.load 41 none (.t 40),.fadr 42 (.t 5) 0,.load 43 none (.t 42),.fadr 44 (.t 5) 1,.load 45 none (.t 44),.bin 46 .add (.t 43) (.t 45),.call 47 147 [(.t 39),(.t 41),(.t 46)],.callv 48 (.t 34) [(.t 38),(.t 47)],.iadr 49 1 (.t 31) (.t 32),.store none 1 (.t 49) (.t 48)]))) (.ops [.bin 50 .add (.t 28) (.c (.int .i64 1)),.mov 28 (.t 50)]))))
def fn123_l1:VCode :=
(.clean [3,4,5,6,9,25,27,28] [4,6,7,9] (.block 0 (.loop [3,4,5,6,9,25,27,28] fn123_b0)))
def fn123:VFn:=⟨3,55,[.cell 6 (some 2),.tmp 7],(.seq (.ops [.box 3 (.t 0),.box 4 (.t 1),.box 5 (.t 2),.alloc 6 [(.int .i64 0),(.list 1 [])],.asg 7 (.c (.int .i64 0))]) (.seq (.seq (.ops [.load 11 (some 2) (.t 4),.call 12 90 [(.t 11)],.asg 8 (.t 12)]) (.seq (.ops [.mov 13 (.t 8),.bin 14 .neq (.t 13) (.c (.int .i64 0))]) (.cond (.t 14) (.seq (.ops [.build 15 [(.int .i64 0),(.list 1 [])] [],.mov 16 (.t 8),.store none 2 (.t 6) (.t 15),.asg 7 (.t 16)]) .ret) .skip))) (.seq (.seq (.ops [.load 17 (some 2) (.t 5),.fadr 18 (.t 4) 0,.load 19 none (.t 18),.call 20 145 [(.t 17),(.t 19)],.un 21 .not (.t 20)]) (.cond (.t 21) (.seq (.ops [.build 22 [(.int .i64 0),(.list 1 [])] [],.store none 2 (.t 6) (.t 22),.asg 7 (.c (.int .i64 2))]) .ret) .skip)) (.seq (.ops [.fadr 23 (.t 4) 1,.load 24 none (.t 23),.call 25 146 [(.t 24)],.asg 9 (.t 25)]) (.seq (.seq (.ops [.mov 26 (.t 9),.len 27 (.t 26),.mov 28 (.c (.int .i64 0))])
    fn123_l1) (.seq (.ops [.fadr 51 (.t 4) 0,.load 52 none (.t 51),.mov 53 (.t 9),.build 54 [(.int .i64 0),(.list 1 [])] [(0,1,(.t 52)),(1,1,(.t 53))],.store none 2 (.t 6) (.t 54),.asg 7 (.c (.int .i64 0))]) .ret))))))⟩
def fn124:VFn:=⟨1,13,[.tmp 2],(.seq (.ops [.asg 2 (.c (.int .i64 0))]) (.seq (.seq (.ops [.mov 3 (.t 0),.len 4 (.t 3),.bin 5 .lss (.t 4) (.c (.int .i64 1)),.mov 6 (.t 5),.grd 6 false (.mov 7 (.t 0)),.grd 6 false (.len 8 (.t 7)),.grd 6 false (.bin 9 .gtr (.t 8) (.c (.int .i64 8))),.pick 10 (.t 6) (.c (.bool true)) (.t 9)]) (.cond (.t 10) (.seq (.ops [.asg 2 (.c (.int .i64 6))]) .ret) .skip)) (.seq (.seq (.ops [.mov 11 (.t 0),.call 12 129 [(.t 11),(.c (.func 148 []))]]) (.cond (.t 12) (.seq (.ops [.asg 2 (.c (.int .i64 2))]) .ret) .skip)) (.seq (.ops [.asg 2 (.c (.int .i64 0))]) .ret))))⟩
def fn126:VFn:=⟨2,6,[.tmp 4],(.seq (.ops [.box 2 (.t 0),.box 3 (.t 1),.asg 4 (.c .nilf)]) (.seq (.ops [.mkf 5 149 [(.t 2),(.t 3)],.asg 4 (.t 5)]) .ret))⟩
def fn127_b0:VCode:=(.seq (.ops [.bin 14 .lss (.t 13) (.t 12)]) (.seq (.cond (.t 14) .skip (.exit 0)) (.seq (.block 1 (.seq (.ops [.iadr 15 1 (.t 11) (.t 13),.load 16 none (.t 15),.asg 7 (.t 16)]) (.ops [.mov 17 (.t 5),.mov 18 (.t 1),.mov 19 (.t 7),.callv 20 (.t 18) [(.t 19)],.mksl 21 1 [(.t 20)],.app 22 1 (.t 17) (.t 21),.asg 5 (.t 22)]))) (.ops [.bin 23 .add (.t 13) (.c (.int .i64 1)),.mov 13 (.t 23)]))))
def fn127_l1:VCode :=
(.clean [0,1,5,10,11,12,13,22] [4,5] (.block 0 (.loop [0,1,5,10,11,12,13,22] fn127_b0)))
def fn127:VFn:=⟨2,25,[.tmp 4],(.seq (.ops [.asg 4 (.nil 1)]) (.seq (.ops [.mov 8 (.t 0),.len 9 (.t 8),.make 10 (.list 0 []) (.c (.int .i64 0)) (.t 9),.asg 5 (.t 10)]) (.seq (.seq (.ops [.mov 11 (.t 0),.len 12 (.t 11),.mov 13 (.c (.int .i64 0))])
   fn127_l1) (.seq (.ops [.mov 24 (.t 5),.asg 4 (.t 24)]) .ret))))⟩
def fn128:VFn:=⟨1,5,[.tmp 2],(.seq (.ops [.asg 2 (.nil 8)]) (.seq (.ops [.mov 3 (.t 0),.make 4 (.agg [(.int .u8 0),(.int .u8 0),(.int .u8 0),(.int .u8 0),(.int .u8 0),(.int .u8 0),(.int .u8 0),(.int .u8 0)]) (.t 3) (.t 3),.asg 2 (.t 4)]) .ret))⟩
def fn129:VFn:=⟨2,9,[.tmp 4],(.seq (.ops [.asg 4 (.c (.bool false))]) (.seq (.ops [.mov 5 (.t 0),.mov 6 (.t 1),.call 7 151 [(.t 5),(.t 6)],.bin 8 .geq (.t 7) (.c (.int .i64 0)),.asg 4 (.t 8)]) .ret))⟩
def fn130:VFn:=⟨1,6,[.tmp 2],(.seq (.ops [.asg 2 (.c (.bool false))]) (.seq (.ops [.mov 3 (.t 0),.call 4 97 [(.t 3),(.c (.int .i64 0)),(.c (.int .i64 1073741824))],.un 5 .not (.t 4),.asg 2 (.t 5)]) .ret))⟩
def fn131_b0:VCode:=(.seq (.ops [.bin 12 .lss (.t 11) (.t 10)]) (.seq (.cond (.t 12) .skip (.exit 0)) (.seq (.block 1 (.seq (.ops [.mov 13 (.t 11),.iadr 14 3 (.t 9) (.t 11),.load 15 (some 3) (.t 14),.alloc 6 [(.int .i64 0),(.int .i64 0),(.list 0 [])],.asg 5 (.t 13),.store none 3 (.t 6) (.t 15)]) (.seq (.seq (.ops [.mov 16 (.t 1),.load 17 (some 3) (.t 6),.callv 18 (.t 16) [(.t 17)],.asg 7 (.t 18)]) (.seq (.ops [.mov 19 (.t 7),.bin 20 .neq (.t 19) (.c (.int .i64 0))]) (.cond (.t 20) (.seq (.ops [.mov 21 (.t 7),.asg 4 (.t 21)]) .ret) .skip))) (.seq (.seq (.ops [.mov 22 (.t 5),.bin 23 .eql (.t 22) (.c (.int .i64 0))]) (.cond (.t 23) (.exit 1) .skip)) (.seq (.ops [.mov 24 (.t 0),.mov 25 (.t 5),.bin 26 .sub (.t 25) (.c (.int .i64 1)),.iadr 27 3 (.t 24) (.t 26),.load 28 (some 3) (.t 27),.alloc 8 [(.int .i64 0),(.int .i64 0),(.list 0 [])],.store none 3 (.t 8) (.t 28)]) (.seq (.ops [.fadr 29 (.t 6) 0,.load 30 none (.t 29),.fadr 31 (.t 8) 0,.load 32 none (.t 31),.bin 33 .lss (.t 30) (.t 32),.mov 34 (.t 33),.grd 34 false (.fadr 35 (.t 6) 0),.grd 34 false (.load 36 none (.t 35)),.grd 34 false (.fadr 37 (.t 8) 0),.grd 34 false (.load 38 none (.t 37)),.grd 34 false (.bin 39 .eql (.t 36) (.t 38)),.grd 34 false (.mov 40 (.t 39)),.grd 40 true (.fadr 41 (.t 6) 1),.grd 40 true (.load 42 none (.t 41)),.grd 40 true (.fadr 43 (.t 8) 1),.grd 40 true (.load 44 none (.t 43)),.grd 40 true (.fadr 45 (.t 8) 2),.grd 40 true (.load 46 none (.t 45)),.grd 40 true (.len 47 (.t 46)),.grd 40 true (.bin 48 .add (.t 44) (.t 47)),.grd 40 true (.bin 49 .leq (.t 42) (.t 48)),.grd 34 false (.pick 50 (.t 40) (.t 49) (.c (.bool false))),.pick 51 (.t 34) (.c (.bool true)) (.t 50)]) (.cond (.t 51) (.seq (.ops [.asg 4 (.c (.int .i64 3))]) .ret) .skip))))))) (.ops [.bin 52 .add (.t 11) (.c (.int .i64 1)),.mov 11 (.t 52)]))))
def fn131_l1:VCode :=
(.clean [0,1,9,10,11] [4] (.block 0 (.loop [0,1,9,10,11] fn131_b0)))
def fn131:VFn:=⟨2,53,[.tmp 4],(.seq (.ops [.asg 4 (.c (.int .i64 0))]) (.seq (.seq (.ops [.mov 9 (.t 0),.len 10 (.t 9),.mov 11 (.c (.int .i64 0))])
  fn131_l1) (.seq (.ops [.asg 4 (.c (.int .i64 0))]) .ret)))⟩
def fn132:VFn:=⟨2,7,[.tmp 3],(.seq (.ops [.box 2 (.t 0),.asg 3 (.c (.int .i64 0))]) (.seq (.ops [.load 4 none (.t 1),.load 5 (some 3) (.t 2),.call 6 133 [(.t 4),(.t 5)],.asg 3 (.t 6)]) .ret))⟩
def fn133:VFn:=⟨2,14,[.tmp 4],(.seq (.ops [.box 3 (.t 1),.asg 4 (.c (.int .i64 0))]) (.seq (.seq (.ops [.mov 6 (.t 0),.call 7 85 [(.t 6)],.asg 5 (.t 7)]) (.seq (.ops [.mov 8 (.t 5),.bin 9 .neq (.t 8) (.c (.int .i64 0))]) (.cond (.t 9) (.seq (.ops [.mov 10 (.t 5),.asg 4 (.t 10)]) .ret) .skip))) (.seq (.ops [.mov 11 (.t 0),.load 12 (some 3) (.t 3),.call 13 89 [(.t 11),(.t 12)],.asg 4 (.t 13)]) .ret)))⟩
def fn134:VFn:=⟨2,46,[.tmp 4],(.seq (.ops [.box 3 (.t 1),.asg 4 (.c (.int .i64 0))]) (.seq (.seq (.ops [.fadr 5 (.t 3) 0,.load 6 none (.t 5),.bin 7 .lss (.t 6) (.c (.int .i64 0)),.mov 8 (.t 7),.grd 8 false (.fadr 9 (.t 3) 0),.grd 8 false (.load 10 none (.t 9)),.grd 8 false (.mov 11 (.t 0)),.grd 8 false (.len 12 (.t 11)),.grd 8 false (.bin 13 .geq (.t 10) (.t 12)),.pick 14 (.t 8) (.c (.bool true)) (.t 13)]) (.cond (.t 14) (.seq (.ops [.asg 4 (.c (.int .i64 7))]) .ret) .skip)) (.seq (.seq (.ops [.fadr 15 (.t 3) 2,.load 16 none (.t 15),.len 17 (.t 16),.bin 18 .eql (.t 17) (.c (.int .i64 0))]) (.cond (.t 18) (.seq (.ops [.asg 4 (.c (.int .i64 1))]) .ret) .skip)) (.seq (.seq (.drw [] [] none [0,1,2,3,4,5,6,7,8,9,10,11,12,13,14,15,16,17,18,19,20,21,22,23,24,25,26] [.fadr 19 (.t 3) 1,.load 20 none (.t 19),.bin 21 .lss (.t 20) (.c (.int .i64 0)),.mov 22 (.t 21),.grd 22 false (.fadr 23 (.t 3) 1),.grd 22 false (.load 24 none (.t 23)),.grd 22 false (.mov 25 (.t 0)),.grd 22 false (.fadr 26 (.t 3) 0),.grd 22 false (.load 27 none (.t 26)),.grd 22 false (.iadr 28 1 (.t 25) (.t 27)),.grd 22 false (.load 29 none (.t 28)),.grd 22 false (.bin 30 .geq (.t 24) (.t 29)),.pick 31 (.t 22) (.c (.bool true)) (.t 30),.mov 32 (.t 31),.grd 32 false (.fadr 33 (.t 3) 2),.grd 32 false (.load 34 none (.t 33)),.grd 32 false (.len 35 (.t 34)),.grd 32 false (.mov 36 (.t 0)),.grd 32 false (.fadr 37 (.t 3) 0),.grd 32 false (.load 38 none (.t 37)),.grd 32 false (.iadr 39 1 (.t 36) (.t 38)),.grd 32 false (.load 40 none (.t 39)),.grd 32 false (.fadr 41 (.t 3) 1),.grd 32 false (.load 42 none (.t 41)),.grd 32 false (.bin 43 .sub (.t 40) (.t 42)),.grd 32 false (.bin 44 .gtr (.t 35) (.t 43)),.pick 45 (.t 32) (.c (.bool true)) (.t 44)]) (.cond (.t 45) (.seq (.ops [.asg 4 (.c (.int .i64 2))]) .ret) .skip)) (.seq (.ops [.asg 4 (.c (.int .i64 0))]) .ret)))))⟩
def fn135:VFn:=⟨2,10,[.tmp 4],(.seq (.ops [.asg 4 (.c (.bool false))]) (.seq (.ops [.mov 5 (.t 0),.len 6 (.t 5),.mov 7 (.t 1),.len 8 (.t 7),.bin 9 .eql (.t 6) (.t 8),.asg 4 (.t 9)]) .ret))⟩
def fn136:VFn:=⟨2,11,[.cell 4 (some 2),.tmp 5],(.seq (.ops [.box 2 (.t 0),.box 3 (.t 1),.alloc 4 [(.int .i64 0),(.list 1 [])],.asg 5 (.c (.int .i64 0))]) (.seq (.ops [.load 6 (some 2) (.t 2),.load 7 (some 2) (.t 3),.call 8 152 [(.t 6),(.t 7),(.c (.func 153 []))],.ext 9 (.t 8) 0,.ext 10 (.t 8) 1,.store none 2 (.t 4) (.t 9),.asg 5 (.t 10)]) .ret))⟩
def fn138_b0:VCode:=(.seq (.ops [.bin 14 .lss (.t 13) (.t 12)]) (.seq (.cond (.t 14) .skip (.exit 0)) (.seq (.block 1 (.seq (.ops [.iadr 15 1 (.t 11) (.t 13),.load 16 none (.t 15),.asg 7 (.t 16)]) (.ops [.mov 17 (.t 5),.mov 18 (.t 1),.mov 19 (.t 7),.callv 20 (.t 18) [(.t 19)],.mksl 21 1 [(.t 20)],.app 22 1 (.t 17) (.t 21),.asg 5 (.t 22)]))) (.ops [.bin 23 .add (.t 13) (.c (.int .i64 1)),.mov 13 (.t 23)]))))
def fn138_l1:VCode :=
(.clean [0,1,5,10,11,12,13,22] [4,5] (.block 0 (.loop [0,1,5,10,11,12,13,22] fn138_b0)))
def fn138:VFn:=⟨2,25,[.tmp 4],(.seq (.ops [.asg 4 (.nil 1)]) (.seq (.ops [.mov 8 (.t 0),.len 9 (.t 8),.make 10 (.int .i64 0) (.c (.int .i64 0)) (.t 9),.asg 5 (.t 10)]) (.seq (.seq (.ops [.mov 11 (.t 0),.len 12 (.t 11),.mov 13 (.c (.int .i64 0))])
   fn138_l1) (.seq (.ops [.mov 24 (.t 5),.asg 4 (.t 24)]) .ret))))⟩
def fn139:VFn:=⟨1,5,[.tmp 2],(.seq (.ops [.asg 2 (.c (.int .i64 0))]) (.seq (.ops [.mov 3 (.t 0),.len 4 (.t 3),.asg 2 (.t 4)]) .ret))⟩
def fn140_b0:VCode:=(.seq (.ops [.bin 8 .lss (.t 7) (.t 6)]) (.seq (.cond (.t 8) .skip (.exit 0)) (.seq (.block 1 (.seq (.ops [.mov 9 (.t 7),.asg 4 (.t 9)]) (.seq (.drw [] [] (some ([0,1,2,3,4,5,6,7,8,9,10,11],[],12,[])) [13,14] [.load 10 none (.t 1),.mov 11 (.t 4),.iadr 12 8 (.t 10) (.t 11),.load 13 (some 8) (.t 12),.load 14 none (.t 2),.mov 15 (.t 4),.iadr 16 8 (.t 14) (.t 15),.load 17 (some 8) (.t 16),.eqa 18 true 8 (.t 13) (.t 17),.mov 19 (.t 18),.grd 19 true (.mov 20 (.t 0)),.grd 19 true (.mov 21 (.t 4)),.grd 19 true (.yield 22 (.t 20) [(.t 21)]),.grd 19 true (.un 23 .not (.t 22)),.pick 24 (.t 19) (.t 23) (.c (.bool false))]) (.cond (.t 24) .ret .skip)))) (.ops [.bin 25 .add (.t 7) (.c (.int .i64 1)),.mov 7 (.t 25)]))))
def fn140_l1:VCode :=
(.clean [0,1,2,6,7] [] (.block 0 (.loop [0,1,2,6,7] fn140_b0)))
def fn140:VFn:=⟨3,26,[],(.seq (.ops [.load 5 none (.t 1),.len 6 (.t 5),.mov 7 (.c (.int .i64 0))])
 fn140_l1)⟩
def fn141:VFn:=⟨1,35,[.tmp 2,.tmp 3,.tmp 4],(.seq (.ops [.box 1 (.t 0),.asg 2 (.c (.int .i64 0)),.asg 3 (.c (.int .i64 0)),.asg 4 (.c (.bool false))]) (.seq (.seq (.ops [.fadr 7 (.t 1) 1,.load 8 none (.t 7),.bin 9 .leq (.t 8) (.c (.int .i64 0))]) (.cond (.t 9) (.seq (.ops [.asg 2 (.c (.int .i64 0)),.asg 3 (.c (.int .i64 0)),.asg 4 (.c (.bool false))]) .ret) .skip)) (.seq (.ops [.fadr 10 (.t 1) 0,.load 11 none (.t 10),.mn 12 true (.t 11) (.c (.int .i64 0)),.asg 5 (.t 12),.asg 6 (.c (.int .i64 4096))]) (.seq (.seq (.ops [.fadr 13 (.t 1) 0,.load 14 none (.t 13),.bin 15 .lss (.t 14) (.c (.int .i64 0)),.mov 16 (.t 15),.grd 16 false (.fadr 17 (.t 1) 1),.grd 16 false (.load 18 none (.t 17)),.grd 16 false (.fadr 19 (.t 1) 0),.grd 16 false (.load 20 none (.t 19)),.grd 16 false (.bin 21 .sub (.c (.int .i64 4096)) (.t 20)),.grd 16 false (.bin 22 .lss (.t 18) (.t 21)),.pick 23 (.t 16) (.c (.bool true)) (.t 22)]) (.cond (.t 23) (.ops [.fadr 24 (.t 1) 0,.load 25 none (.t 24),.fadr 26 (.t 1) 1,.load 27 none (.t 26),.bin 28 .add (.t 25) (.t 27),.mn 29 false (.t 28) (.c (.int .i64 4096)),.asg 6 (.t 29)]) .skip)) (.seq (.ops [.mov 30 (.t 5),.mov 31 (.t 6),.mov 32 (.t 5),.mov 33 (.t 6),.bin 34 .lss (.t 32) (.t 33),.asg 2 (.t 30),.asg 3 (.t 31),.asg 4 (.t 34)]) .ret)))))⟩
def fn143:VFn:=⟨2,10,[.tmp 4],(.seq (.ops [.box 2 (.t 0),.box 3 (.t 1),.asg 4 (.c (.int .i64 0))]) (.seq (.ops [.fadr 5 (.t 2) 0,.load 6 none (.t 5),.fadr 7 (.t 3) 0,.load 8 none (.t 7),.call 9 144 [(.t 6),(.t 8)],.asg 4 (.t 9)]) .ret))⟩
def fn144:VFn:=⟨2,20,[.tmp 4],(.seq (.ops [.asg 4 (.c (.int .i64 0))]) (.seq (.ops [.mov 7 (.t 0),.call 8 157 [(.t 7)],.asg 5 (.t 8)]) (.seq (.ops [.mov 9 (.t 1),.call 10 157 [(.t 9)],.asg 6 (.t 10)]) (.seq (.seq (.ops [.mov 11 (.t 5)]) (.cond (.t 11) (.seq (.seq (.ops [.mov 12 (.t 6)]) (.cond (.t 12) (.seq (.ops [.asg 4 (.c (.int .i64 0))]) .ret) .skip)) (.seq (.ops [.asg 4 (.c (.int .i64 (-1)))]) .ret)) .skip)) (.seq (.seq (.ops [.mov 13 (.t 6)]) (.cond (.t 13) (.seq (.ops [.asg 4 (.c (.int .i64 1))]) .ret) .skip)) (.seq (.seq (.ops [.mov 14 (.t 0),.mov 15 (.t 1),.bin 16 .lss (.t 14) (.t 15)]) (.cond (.t 16) (.seq (.ops [.asg 4 (.c (.int .i64 (-1)))]) .ret) .skip)) (.seq (.seq (.ops [.mov 17 (.t 0),.mov 18 (.t 1),.bin 19 .gtr (.t 17) (.t 18)]) (.cond (.t 19) (.seq (.ops [.asg 4 (.c (.int .i64 1))]) .ret) .skip)) (.seq (.ops [.asg 4 (.c (.int .i64 0))]) .ret))))))))⟩
def fn145:VFn:=⟨2,28,[.tmp 4],(.seq (.ops [.box 2 (.t 0),.asg 4 (.c (.bool false))]) (.seq (.ops [.fadr 5 (.t 2) 0,.load 6 none (.t 5),.bin 7 .geq (.t 6) (.c (.int .i64 0)),.mov 8 (.t 7),.grd 8 true (.fadr 9 (.t 2) 1),.grd 8 true (.load 10 none (.t 9)),.grd 8 true (.bin 11 .geq (.t 10) (.c (.int .i64 0))),.pick 12 (.t 8) (.t 11) (.c (.bool false)),.mov 13 (.t 12),.grd 13 true (.fadr 14 (.t 2) 0),.grd 13 true (.load 15 none (.t 14)),.grd 13 true (.mov 16 (.t 1)),.grd 13 true (.bin 17 .leq (.t 15) (.t 16)),.pick 18 (.t 13) (.t 17) (.c (.bool false)),.mov 19 (.t 18),.grd 19 true (.fadr 20 (.t 2) 1),.grd 19 true (.load 21 none (.t 20)),.grd 19 true (.mov 22 (.t 1)),.grd 19 true (.fadr 23 (.t 2) 0),.grd 19 true (.load 24 none (.t 23)),.grd 19 true (.bin 25 .sub (.t 22) (.t 24)),.grd 19 true (.bin 26 .leq (.t 21) (.t 25)),.pick 27 (.t 19) (.t 26) (.c (.bool false)),.asg 4 (.t 27)]) .ret))⟩
def fn146:VFn:=⟨1,8,[.tmp 2],(.seq (.ops [.asg 2 (.nil 1)]) (.seq (.seq (.ops [.mov 3 (.t 0),.isn 4 false (.t 3)]) (.cond (.t 4) (.seq (.ops [.asg 2 (.nil 1)]) .ret) .skip)) (.seq (.ops [.mksl 5 1 [],.mov 6 (.t 0),.app 7 1 (.t 5) (.t 6),.asg 2 (.t 7)]) .ret)))⟩
def fn147:VFn:=⟨3,27,[.tmp 6],(.seq (.ops [.asg 6 (.c (.int .u64 0))]) (.seq (.ops [.mov 7 (.t 1),.mov 8 (.t 0),.bin 9 .mul (.t 8) (.c (.int .i64 64)),.bin 10 .sub (.t 7) (.t 9),.mn 11 true (.t 10) (.c (.int .i64 0)),.mov 12 (.t 2),.mov 13 (.t 0),.bin 14 .mul (.t 13) (.c (.int .i64 64)),.bin 15 .sub (.t 12) (.t 14),.mn 16 false (.t 15) (.c (.int .i64 64)),.asg 1 (.t 11),.asg 2 (.t 16)]) (.seq (.seq (.ops [.mov 17 (.t 1),.mov 18 (.t 2),.bin 19 .geq (.t 17) (.t 18)]) (.cond (.t 19) (.seq (.ops [.asg 6 (.c (.int .u64 0))]) .ret) .skip)) (.seq (.ops [.mov 20 (.t 2),.mov 21 (.t 1),.bin 22 .sub (.t 20) (.t 21),.bin 23 .sub (.c (.int .i64 64)) (.t 22),.bin 24 .shr (.c (.int .u64 18446744073709551615)) (.t 23),.mov 25 (.t 1),.bin 26 .shl (.t 24) (.t 25),.asg 6 (.t 26)]) .ret))))⟩
def fn148:VFn:=⟨1,9,[.tmp 2],(.seq (.ops [.asg 2 (.c (.bool false))]) (.seq (.ops [.mov 3 (.t 0),.bin 4 .lss (.t 3) (.c (.int .i64 1)),.mov 5 (.t 4),.grd 5 false (.mov 6 (.t 0)),.grd 5 false (.bin 7 .gtr (.t 6) (.c (.int .i64 4096))),.pick 8 (.t 5) (.c (.bool true)) (.t 7),.asg 2 (.t 8)]) .ret))⟩
def fn149_b0:VCode:=(.seq (.seq (.ops [.mov 24 (.t 5),.bin 25 .neq (.t 24) (.c (.int .u64 0))]) (.cond (.t 25) .skip (.exit 2))) (.block 3 (.seq (.seq (.ops [.mov 26 (.t 0),.mov 27 (.t 4),.bin 28 .mul (.t 27) (.c (.int .i64 64)),.mov 29 (.t 5),.call 30 150 [(.t 29)],.bin 31 .add (.t 28) (.t 30),.yield 32 (.t 26) [(.t 31)],.un 33 .not (.t 32)]) (.cond (.t 33) .ret .skip)) (.ops [.mov 34 (.t 5),.mov 35 (.t 5),.bin 36 .sub (.t 35) (.c (.int .u64 1)),.bin 37 .and (.t 34) (.t 36),.asg 5 (.t 37)]))))
def fn149_l1:VCode :=
(.clean [0,1,2,4,5,10,11,12] [0,1,2,10,11,12] (.block 2 (.loop [0,1,2,4,5,10,11,12] fn149_b0)))
def fn149_b2:VCode:=(.seq (.ops [.bin 13 .lss (.t 12) (.t 11)]) (.seq (.cond (.t 13) .skip (.exit 0)) (.seq (.block 1 (.seq (.ops [.mov 14 (.t 12),.iadr 15 1 (.t 10) (.t 12),.load 16 none (.t 15),.asg 4 (.t 14),.asg 5 (.t 16)]) (.seq (.ops [.mov 17 (.t 5),.mov 18 (.t 4),.load 19 none (.t 2),.fadr 20 (.t 1) 0,.load 21 none (.t 20),.call 22 147 [(.t 18),(.t 19),(.t 21)],.bin 23 .and (.t 17) (.t 22),.asg 5 (.t 23)])
    fn149_l1))) (.ops [.bin 38 .add (.t 12) (.c (.int .i64 1)),.mov 12 (.t 38)]))))
def fn149_l3:VCode :=
(.clean [0,1,2,10,11,12] [] (.block 0 (.loop [0,1,2,10,11,12] fn149_b2)))
def fn149:VFn:=⟨3,39,[],(.seq (.seq (.ops [.load 6 (some 2) (.t 1),.call 7 90 [(.t 6)],.bin 8 .neq (.t 7) (.c (.int .i64 0))]) (.cond (.t 8) .ret .skip)) (.seq (.ops [.fadr 9 (.t 1) 1,.load 10 none (.t 9),.len 11 (.t 10),.mov 12 (.c (.int .i64 0))])
  fn149_l3))⟩
def fn151_b0:VCode:=(.seq (.ops [.bin 9 .lss (.t 8) (.t 7)]) (.seq (.cond (.t 9) .skip (.exit 0)) (.seq (.block 1 (.seq (.ops [.mov 10 (.t 8),.asg 5 (.t 10)]) (.seq (.ops [.mov 11 (.t 1),.mov 12 (.t 0),.mov 13 (.t 5),.iadr 14 1 (.t 12) (.t 13),.load 15 none (.t 14),.callv 16 (.t 11) [(.t 15)]]) (.cond (.t 16) (.seq (.ops [.mov 17 (.t 5),.asg 4 (.t 17)]) .ret) .skip)))) (.ops [.bin 18 .add (.t 8) (.c (.int .i64 1)),.mov 8 (.t 18)]))))
def fn151_l1:VCode :=
(.clean [0,1,7,8] [4] (.block 0 (.loop [0,1,7,8] fn151_b0)))
def fn151:VFn:=⟨2,19,[.tmp 4],(.seq (.ops [.asg 4 (.c (.int .i64 0))]) (.seq (.seq (.ops [.mov 6 (.t 0),.len 7 (.t 6),.mov 8 (.c (.int .i64 0))])
  fn151_l1) (.seq (.ops [.asg 4 (.c (.int .i64 (-1)))]) .ret)))⟩
def fn152_b0:VCode:=(.seq (.ops [.bin 37 .lss (.t 36) (.t 35)]) (.seq (.cond (.t 37) .skip (.exit 0)) (.seq (.block 1 (.seq (.ops [.mov 38 (.t 36),.asg 11 (.t 38)]) (.drw [] [([0,1,2,3,4,5,6,7,8,9,10,11,12],13)] (some ([14],[],15,[])) [] [.mov 39 (.t 10),.mov 40 (.t 11),.mov 41 (.t 2),.fadr 42 (.t 3) 1,.load 43 none (.t 42),.mov 44 (.t 11),.iadr 45 1 (.t 43) (.t 44),.load 46 none (.t 45),.fadr 47 (.t 4) 1,.load 48 none (.t 47),.mov 49 (.t 11),.iadr 50 1 (.t 48) (.t 49),.load 51 none (.t 50),.callv 52 (.t 41) [(.t 46),(.t 51)],.iadr 53 1 (.t 39) (.t 40),.store none 1 (.t 53) (.t 52)]))) (.ops [.bin 54 .add (.t 36) (.c (.int .i64 1)),.mov 36 (.t 54)]))))
def fn152_l1:VCode :=
(.clean [2,3,4,6,10,33,35,36] [3,6,7,10] (.block 0 (.loop [2,3,4,6,10,33,35,36] fn152_b0)))
def fn152:VFn:=⟨3,59,[.cell 6 (some 2),.tmp 7],(.seq (.ops [.box 3 (.t 0),.box 4 (.t 1),.alloc 6 [(.int .i64 0),(.list 1 [])],.asg 7 (.c (.int .i64 0))]) (.seq (.seq (.ops [.load 12 (some 2) (.t 3),.call 13 90 [(.t 12)],.asg 8 (.t 13)]) (.seq (.ops [.mov 14 (.t 8),.bin 15 .neq (.t 14) (.c (.int .i64 0))]) (.cond (.t 15) (.seq (.ops [.build 16 [(.int .i64 0),(.list 1 [])] [],.mov 17 (.t 8),.store none 2 (.t 6) (.t 16),.asg 7 (.t 17)]) .ret) .skip))) (.seq (.seq (.ops [.load 18 (some 2) (.t 4),.call 19 90 [(.t 18)],.asg 9 (.t 19)]) (.seq (.ops [.mov 20 (.t 9),.bin 21 .neq (.t 20) (.c (.int .i64 0))]) (.cond (.t 21) (.seq (.ops [.build 22 [(.int .i64 0),(.list 1 [])] [],.mov 23 (.t 9),.store none 2 (.t 6) (.t 22),.asg 7 (.t 23)]) .ret) .skip))) (.seq (.seq (.ops [.fadr 24 (.t 3) 0,.load 25 none (.t 24),.fadr 26 (.t 4) 0,.load 27 none (.t 26),.bin 28 .neq (.t 25) (.t 27)]) (.cond (.t 28) (.seq (.ops [.build 29 [(.int .i64 0),(.list 1 [])] [],.store none 2 (.t 6) (.t 29),.asg 7 (.c (.int .i64 22))]) .ret) .skip)) (.seq (.ops [.fadr 30 (.t 3) 1,.load 31 none (.t 30),.len 32 (.t 31),.make 33 (.int .u64 0) (.t 32) (.t 32),.asg 10 (.t 33)]) (.seq (.seq (.ops [.mov 34 (.t 10),.len 35 (.t 34),.mov 36 (.c (.int .i64 0))])
    fn152_l1) (.seq (.ops [.fadr 55 (.t 3) 0,.load 56 none (.t 55),.mov 57 (.t 10),.build 58 [(.int .i64 0),(.list 1 [])] [(0,1,(.t 56)),(1,1,(.t 57))],.store none 2 (.t 6) (.t 58),.asg 7 (.c (.int .i64 0))]) .ret)))))))⟩
def fn153:VFn:=⟨2,8,[.tmp 4],(.seq (.ops [.asg 4 (.c (.int .u64 0))]) (.seq (.ops [.mov 5 (.t 0),.mov 6 (.t 1),.bin 7 .or (.t 5) (.t 6),.asg 4 (.t 7)]) .ret))⟩
def fn157:VFn:=⟨1,6,[.tmp 2],(.seq (.ops [.asg 2 (.c (.bool false))]) (.seq (.ops [.mov 3 (.t 0),.mov 4 (.t 0),.bin 5 .neq (.t 3) (.t 4),.asg 2 (.t 5)]) .ret))⟩
def tab:List (Nat × VDef):=[(3,.code fn3),(10,.code fn10),(11,.code fn11),(12,.dfn fn12),(13,.code fn13),(14,.code fn14),(15,.dfn fn15),(17,.code fn17),(20,.code fn20),(24,.dfn fn24),(27,.code fn27),(29,.code fn29),(30,.code fn30),(33,.code fn33),(35,.code fn35),(36,.code fn36),(37,.code fn37),(38,.ext applyX),(39,.code fn39),(42,.code fn42),(43,.code fn43),(44,.code fn44),(45,.code fn45),(46,.code fn46),(48,.code fn48),(49,.code fn49),(50,.code fn50),(51,.thr demandX),(52,.code fn52),(53,.code fn53),(54,.code fn54),(55,.code fn55),(56,.code fn56),(57,.code fn57),(58,.code fn58),(59,.code fn59),(60,.code fn60),(61,.code fn61),(62,.code fn62),(66,.code fn66),(68,.code fn68),(69,.code fn69),(70,.code fn70),(71,.code fn71),(73,.code fn73),(75,.code fn75),(76,.code fn76),(77,.code fn77),(78,.code fn78),(79,.code fn79),(81,.code fn81),(83,.code fn83),(84,.code fn84),(85,.code fn85),(86,.code fn86),(87,.code fn87),(89,.code fn89),(90,.code fn90),(92,.code fn92),(93,.code fn93),(94,.code fn94),(95,.ext (cloneX 8)),(96,.code fn96),(97,.code fn97),(98,.code fn98),(99,.code fn99),(100,.code fn100),(101,.code fn101),(102,.code fn102),(103,.code fn103),(104,.code fn104),(105,.code fn105),(106,.code fn106),(107,.code fn107),(111,.code fn111),(112,.code fn112),(115,.code fn115),(116,.code fn116),(117,.code fn117),(118,.code fn118),(119,.code fn119),(120,.code fn120),(121,.code fn121),(122,.code fn122),(123,.code fn123),(124,.code fn124),(126,.code fn126),(127,.code fn127),(128,.code fn128),(129,.code fn129),(130,.code fn130),(131,.code fn131),(132,.code fn132),(133,.code fn133),(134,.code fn134),(135,.code fn135),(136,.code fn136),(138,.code fn138),(139,.code fn139),(140,.code fn140),(141,.code fn141),(142,.srt (sortEndsX 143)),(143,.code fn143),(144,.code fn144),(145,.code fn145),(146,.ext (cloneX 1)),(147,.code fn147),(148,.code fn148),(149,.code fn149),(150,.ext tzX),(151,.code fn151),(152,.code fn152),(153,.code fn153),(157,.code fn157)]
def env:Env:=fun f=>tab.lookup f
theorem env3:env 3=some (.code fn3):=rfl
theorem env10:env 10=some (.code fn10):=rfl
theorem env11:env 11=some (.code fn11):=rfl
theorem env12:env 12=some (.dfn fn12):=rfl
theorem env13:env 13=some (.code fn13):=rfl
theorem env14:env 14=some (.code fn14):=rfl
theorem env29:env 29=some (.code fn29):=rfl
theorem env42:env 42=some (.code fn42):=rfl
theorem env48:env 48=some (.code fn48):=rfl
theorem env49:env 49=some (.code fn49):=rfl
theorem env50:env 50=some (.code fn50):=rfl
theorem env51:env 51=some (.thr demandX):=rfl
theorem env52:env 52=some (.code fn52):=rfl
theorem env53:env 53=some (.code fn53):=rfl
theorem env54:env 54=some (.code fn54):=rfl
theorem env55:env 55=some (.code fn55):=rfl
theorem env56:env 56=some (.code fn56):=rfl
theorem env57:env 57=some (.code fn57):=rfl
theorem env58:env 58=some (.code fn58):=rfl
theorem env59:env 59=some (.code fn59):=rfl
theorem env60:env 60=some (.code fn60):=rfl
theorem env61:env 61=some (.code fn61):=rfl
theorem env70:env 70=some (.code fn70):=rfl
theorem env73:env 73=some (.code fn73):=rfl
theorem env85:env 85=some (.code fn85):=rfl
theorem env89:env 89=some (.code fn89):=rfl
theorem env90:env 90=some (.code fn90):=rfl
theorem env92:env 92=some (.code fn92):=rfl
theorem env93:env 93=some (.code fn93):=rfl
theorem env94:env 94=some (.code fn94):=rfl
theorem env95:env 95=some (.ext (cloneX 8)):=rfl
theorem env96:env 96=some (.code fn96):=rfl
theorem env97:env 97=some (.code fn97):=rfl
theorem env98:env 98=some (.code fn98):=rfl
theorem env99:env 99=some (.code fn99):=rfl
theorem env100:env 100=some (.code fn100):=rfl
theorem env101:env 101=some (.code fn101):=rfl
theorem env102:env 102=some (.code fn102):=rfl
theorem env103:env 103=some (.code fn103):=rfl
theorem env104:env 104=some (.code fn104):=rfl
theorem env105:env 105=some (.code fn105):=rfl
theorem env106:env 106=some (.code fn106):=rfl
theorem env107:env 107=some (.code fn107):=rfl
theorem env116:env 116=some (.code fn116):=rfl
theorem env121:env 121=some (.code fn121):=rfl
theorem env124:env 124=some (.code fn124):=rfl
theorem env126:env 126=some (.code fn126):=rfl
theorem env127:env 127=some (.code fn127):=rfl
theorem env128:env 128=some (.code fn128):=rfl
theorem env129:env 129=some (.code fn129):=rfl
theorem env130:env 130=some (.code fn130):=rfl
theorem env131:env 131=some (.code fn131):=rfl
theorem env132:env 132=some (.code fn132):=rfl
theorem env133:env 133=some (.code fn133):=rfl
theorem env134:env 134=some (.code fn134):=rfl
theorem env138:env 138=some (.code fn138):=rfl
theorem env139:env 139=some (.code fn139):=rfl
theorem env147:env 147=some (.code fn147):=rfl
theorem env148:env 148=some (.code fn148):=rfl
theorem env149:env 149=some (.code fn149):=rfl
theorem env150:env 150=some (.ext tzX):=rfl
theorem env151:env 151=some (.code fn151):=rfl
end Go.Proofs.YtioijcfcehhmdaaGreatDoor

namespace Go.Proofs.YtioijcfcehhmdaaGreatDoor
open V
def vAll:=(And.intro (And.intro (And.intro (And.intro (And.intro (And.intro (And.intro (And.intro @tfin_normal (And.intro @tfin_ret @tfin_thr)) (And.intro (And.intro @den_dem @demEnd_some) (And.intro @demEnd_none @next_thr))) (And.intro (And.intro @endBlock_thr (And.intro @tail_thr @den_drs)) (And.intro (And.intro @dalts_cons @dagree_nil) (And.intro @dagree_cons @sameAs_same)))) (And.intro (And.intro (And.intro @dalt_eq (And.intro @altEnd_false @altEnd_true)) (And.intro (And.intro @pickV_nil @pickV_one) (And.intro @den_skip @List.foldl_nil.{0,0}))) (And.intro (And.intro @List.foldl_cons.{0,0} (And.intro @den_ops @den_drw)) (And.intro (And.intro @den_seq @den_cond) (And.intro @den_block @den_exit))))) (And.intro (And.intro (And.intro (And.intro @den_ret (And.intro @next_normal @next_exit)) (And.intro (And.intro @next_ret @endBlock_normal) (And.intro @endBlock_ret @endBlock_exit))) (And.intro (And.intro @tail_normal (And.intro @tail_ret @tail_exit)) (And.intro (And.intro @fin_normal @fin_ret) (And.intro @bcase_true @bcase_false)))) (And.intro (And.intro (And.intro @z_bind_some (And.intro @z_map_some @z_bind_none)) (And.intro (And.intro @z_map_none @resultsOf.eq_1) (And.intro @resultsOf.eq_2 @resultsOf.eq_3))) (And.intro (And.intro (And.intro @resultList.eq_1 @resultList.eq_2) (And.intro @resultOf.eq_1 @resultOf.eq_2)) (And.intro (And.intro @resultOf.eq_3 @zBV.eq_1) (And.intro @zBV.eq_2 @splice.eq_1)))))) (And.intro (And.intro (And.intro (And.intro (And.intro @PV.remade.eq_1 (And.intro @PV.remade.eq_2 @PV.remade.eq_3)) (And.intro (And.intro @PV.remade.eq_4 @St.freezeAt.eq_1) (And.intro @St.freezeBox.eq_1 @St.freezeCap.eq_1))) (And.intro (And.intro @St.freezeCap.eq_2 (And.intro @PV.single.eq_1 @PV.single.eq_2)) (And.intro (And.intro @dops_nil @dops_cons) (And.intro @dop_grd @dop_pick)))) (And.intro (And.intro (And.intro @dop_call (And.intro @dop_callv @op1_call)) (And.intro (And.intro @op1_callv @dop_lin) (And.intro @dop_linv @op1_lin))) (And.intro (And.intro @op1_linv (And.intro @op1_pick @dop_mov)) (And.intro (And.intro @dop_asg @dop_bin) (And.intro @dop_eqa @dop_eqb))))) (And.intro (And.intro (And.intro (And.intro @dop_eqm (And.intro @dop_isn @dop_cut)) (And.intro (And.intro @dop_asl @dop_asz) (And.intro @dop_ldz @dop_srt))) (And.intro (And.intro @dop_stw (And.intro @dop_bldo @dop_mvz)) (And.intro (And.intro @dop_un @dop_conv) (And.intro @dop_load @dop_fadr)))) (And.intro (And.intro (And.intro @dop_aadr (And.intro @dop_iadr @dop_fld)) (And.intro (And.intro @dop_idx @dop_sli) (And.intro @dop_len @dop_lens))) (And.intro (And.intro (And.intro @dop_ext @dop_build) (And.intro @dop_mn @dop_mkf)) (And.intro (And.intro @dop_alloc @dop_box) (And.intro @dop_store @dop_mksl))))))) (And.intro (And.intro (And.intro (And.intro (And.intro (And.intro @dop_make (And.intro @dop_app @dop_cpy)) (And.intro (And.intro @dop_yield @op1_mov) (And.intro @op1_asg @op1_bin))) (And.intro (And.intro @op1_eqa (And.intro @op1_eqb @op1_eqm)) (And.intro (And.intro @op1_isn @op1_cut) (And.intro @op1_asl @op1_asz)))) (And.intro (And.intro (And.intro @op1_ldz (And.intro @op1_srt @op1_stw)) (And.intro (And.intro @op1_bldo @op1_mvz) (And.intro @op1_un @op1_conv))) (And.intro (And.intro @op1_load (And.intro @op1_fadr @op1_aadr)) (And.intro (And.intro @op1_iadr @op1_fld) (And.intro @op1_idx @op1_sli))))) (And.intro (And.intro (And.intro (And.intro @op1_len (And.intro @op1_lens @op1_ext)) (And.intro (And.intro @op1_build @op1_mn) (And.intro @op1_mkf @op1_alloc))) (And.intro (And.intro @op1_box (And.intro @op1_store @op1_mksl)) (And.intro (And.intro @op1_make @op1_app) (And.intro @op1_cpy @op1_yield)))) (And.intro (And.intro (And.intro @plain.eq_1 (And.intro @plain.eq_2 @plain.eq_3)) (And.intro (And.intro @plain.eq_4 @plain.eq_5) (And.intro @plain.eq_6 @plain.eq_7))) (And.intro (And.intro (And.intro @plain.eq_8 @plain.eq_9) (And.intro @plain.eq_10 @plain.eq_11)) (And.intro (And.intro @plain.eq_12 @plain.eq_13) (And.intro @plain.eq_14 @plain.eq_15)))))) (And.intro (And.intro (And.intro (And.intro (And.intro @plain.eq_16 (And.intro @plain.eq_17 @plain.eq_18)) (And.intro (And.intro @plain.eq_19 @plain.eq_20) (And.intro @plain.eq_21 @plain.eq_22))) (And.intro (And.intro @plain.eq_23 (And.intro @plain.eq_24 @plain.eq_25)) (And.intro (And.intro @plain.eq_26 @plain.eq_27) (And.intro @plain.eq_28 @plain.eq_29)))) (And.intro (And.intro (And.intro @plain.eq_30 (And.intro @plain.eq_31 @act.eq_1)) (And.intro (And.intro @act.eq_2 @act.eq_3) (And.intro @act.eq_4 @act.eq_5))) (And.intro (And.intro (And.intro @act.eq_6 @act.eq_7) (And.intro @act.eq_8 @act.eq_9)) (And.intro (And.intro @act.eq_10 @act.eq_11) (And.intro @act.eq_12 @act.eq_13))))) (And.intro (And.intro (And.intro (And.intro @act.eq_14 (And.intro @act.eq_15 @dstOf.eq_1)) (And.intro (And.intro @dstOf.eq_2 @dstOf.eq_3) (And.intro @dstOf.eq_4 @dstOf.eq_5))) (And.intro (And.intro @dstOf.eq_6 (And.intro @dstOf.eq_7 @dstOf.eq_8)) (And.intro (And.intro @dstOf.eq_9 @dstOf.eq_10) (And.intro @dstOf.eq_11 @dstOf.eq_12)))) (And.intro (And.intro (And.intro @dstOf.eq_13 (And.intro @dstOf.eq_14 @dstOf.eq_15)) (And.intro (And.intro @dstOf.eq_16 @dstOf.eq_17) (And.intro @dstOf.eq_18 @dstOf.eq_19))) (And.intro (And.intro (And.intro @dstOf.eq_20 @dstOf.eq_21) (And.intro @dstOf.eq_22 @dstOf.eq_23)) (And.intro (And.intro @dstOf.eq_24 @dstOf.eq_25) (And.intro @dstOf.eq_26 @dstOf.eq_27)))))))) (And.intro (And.intro (And.intro (And.intro (And.intro (And.intro (And.intro @dstOf.eq_28 (And.intro @dstOf.eq_29 @dstOf.eq_30)) (And.intro (And.intro @dstOf.eq_31 @dstOf.eq_32) (And.intro @dstOf.eq_33 @dstOf.eq_34))) (And.intro (And.intro @dstOf.eq_35 (And.intro @dstOf.eq_36 @dstOf.eq_37)) (And.intro (And.intro @dstOf.eq_38 @dstOf.eq_39) (And.intro @dstOf.eq_40 @dstOf.eq_41)))) (And.intro (And.intro (And.intro @dstOf.eq_42 (And.intro @dstOf.eq_43 @dstOf.eq_44)) (And.intro (And.intro @Bool.false_eq_true @if_true.{1}) (And.intro @if_false.{1} @z_ite_true))) (And.intro (And.intro @z_ite_false (And.intro @St.get.eq_1 @St.get.eq_2)) (And.intro (And.intro @St.get.eq_3 @St.put.eq_1) (And.intro @St.pvOf.eq_1 @St.putRow.eq_1))))) (And.intro (And.intro (And.intro (And.intro @St.consume.eq_1 (And.intro @St.consume.eq_2 @St.consume.eq_3)) (And.intro (And.intro @St.freeze.eq_1 @St.row.eq_1) (And.intro @St.row.eq_2 @St.row.eq_3))) (And.intro (And.intro @St.elems.eq_1 (And.intro @St.grab.eq_1 @St.grab.eq_2)) (And.intro (And.intro @St.grab.eq_3 @allBV.eq_1) (And.intro @allBV.eq_2 @allBV.eq_3)))) (And.intro (And.intro (And.intro @allBV.eq_4 (And.intro @ownP.eq_1 @ownP.eq_2)) (And.intro (And.intro @ownCells.eq_1 @ownCells.eq_2) (And.intro @ownCells.eq_3 @ownCells.eq_4))) (And.intro (And.intro (And.intro @St.takeRow.eq_1 @St.takeRow.eq_2) (And.intro @St.takeRow.eq_3 @St.setRow.eq_1)) (And.intro (And.intro @St.setRow.eq_2 @St.setRow.eq_3) (And.intro @St.place.eq_1 @St.place.eq_2)))))) (And.intro (And.intro (And.intro (And.intro (And.intro @St.optPv.eq_1 (And.intro @St.optPv.eq_2 @St.setCell.eq_1)) (And.intro (And.intro @St.setCellRow.eq_1 @binPV.eq_1) (And.intro @binPV.eq_2 @binPV.eq_3))) (And.intro (And.intro @binPV.eq_4 (And.intro @eqMix.eq_1 @eqMix.eq_2)) (And.intro (And.intro @eqMix.eq_3 @eqMix.eq_4) (And.intro @intBin.eq_1 @intBin.eq_2)))) (And.intro (And.intro (And.intro @intBin.eq_3 (And.intro @intBin.eq_4 @intBin.eq_5)) (And.intro (And.intro @intBin.eq_6 @intBin.eq_7) (And.intro @intBin.eq_8 @intBin.eq_9))) (And.intro (And.intro (And.intro @intBin.eq_10 @intBin.eq_11) (And.intro @intBin.eq_12 @intBin.eq_13)) (And.intro (And.intro @intBin.eq_14 @intBin.eq_15) (And.intro @intBin.eq_16 @intBin.eq_17))))) (And.intro (And.intro (And.intro (And.intro @unPV.eq_1 (And.intro @unPV.eq_2 @unPV.eq_3)) (And.intro (And.intro @unPV.eq_4 @BV.val.eq_1) (And.intro @BV.val.eq_2 @cells_int))) (And.intro (And.intro @cells_bool (And.intro @cells_str @cells_list)) (And.intro (And.intro @cells_func @cells_agg) (And.intro @part_one @part_succ)))) (And.intro (And.intro (And.intro @part_more (And.intro @killS_pv @killS_any)) (And.intro (And.intro @killS_row @killS_pbox) (And.intro @killS_fn @killS_tup))) (And.intro (And.intro (And.intro @killS_yld @killS_refs) (And.intro @killS_refc @killS_pels)) (And.intro (And.intro @killS_pelc @killc_pv) (And.intro @killc_any @killc_row))))))) (And.intro (And.intro (And.intro (And.intro (And.intro (And.intro @killc_pbox (And.intro @killc_fn @killc_tup)) (And.intro (And.intro @killc_yld @killc_refs) (And.intro @killc_refc @killc_pels))) (And.intro (And.intro @killc_pelc (And.intro @bound.eq_1 @bound.eq_2)) (And.intro (And.intro @bound.eq_3 @consumeAll.eq_1) (And.intro @consumeAll.eq_2 @buildParts.eq_1)))) (And.intro (And.intro (And.intro @buildParts.eq_2 (And.intro @capsOf.eq_1 @capsOf.eq_2)) (And.intro (And.intro @capOf.eq_1 @z_bind_eq) (And.intro @z_pure @z_map_cons))) (And.intro (And.intro @z_map_nil (And.intro @z_len_cons @z_len_nil)) (And.intro (And.intro @List.append_nil.{0} @z_nil_app) (And.intro @z_cons_app @Nat.zero_add))))) (And.intro (And.intro (And.intro (And.intro @Nat.add_zero (And.intro @z_drop_zero @z_drop_succ)) (And.intro (And.intro @z_take_succ @z_take_zero) (And.intro @decide_true @decide_false))) (And.intro (And.intro @Bool.not_true (And.intro @Bool.not_false @Bool.true_eq_false)) (And.intro (And.intro @beq_self_eq_true.{0} @Bool.true_and) (And.intro @Bool.and_true @Bool.false_and)))) (And.intro (And.intro (And.intro @Bool.and_false (And.intro @Bool.true_or @Bool.false_or)) (And.intro (And.intro @Bool.or_false @Bool.or_true) (And.intro @beq_t @beq_f))) (And.intro (And.intro (And.intro @bcase_not @bcase_bne) (And.intro @List.length_map.{0,0} @z_getD_zero)) (And.intro (And.intro @z_getD_8 @z_getD_succ) (And.intro @z_get_zero @z_get_8)))))) (And.intro (And.intro (And.intro (And.intro (And.intro @z_get_succ (And.intro @z_set_zero @z_set_8)) (And.intro (And.intro @z_set_succ @dcall.eq_1) (And.intro @dcallP.eq_1 @dlin.eq_1))) (And.intro (And.intro @dlinP.eq_1 (And.intro @takeLin.eq_1 @backLin.eq_1)) (And.intro (And.intro @backLin.eq_2 @backLin.eq_3) (And.intro @linRes_row @linRes_own)))) (And.intro (And.intro (And.intro @linRes_box (And.intro @lav_row @lav_own)) (And.intro (And.intro @lav_box @lbx_row) (And.intro @lbx_own @lbx_box))) (And.intro (And.intro (And.intro @finL_normal @finL_ret) (And.intro @afterCall_false @afterCall_true)) (And.intro (And.intro @List.mapM_cons.{0,0,0} @z_mapM_nil) (And.intro @St.snapFn.eq_1 @St.snapFn.eq_2))))) (And.intro (And.intro (And.intro (And.intro @St.snap.eq_1 (And.intro @St.snap.eq_2 @St.snap.eq_3)) (And.intro (And.intro @St.snap.eq_4 @St.snap.eq_5) (And.intro @St.snap.eq_6 @z_any_cons))) (And.intro (And.intro @z_any_nil (And.intro @z_all_cons @z_all_nil)) (And.intro (And.intro @scal_int @scal_bool) (And.intro @scal_str @scal_list)))) (And.intro (And.intro (And.intro @scal_func (And.intro @St.layAll.eq_1 @St.layAll.eq_2)) (And.intro (And.intro @St.lay.eq_1 @St.lay.eq_2) (And.intro @St.lay.eq_3 @z_foldl_cons))) (And.intro (And.intro (And.intro @z_foldl_nil @St.freezeArg.eq_1) (And.intro @St.freezeArg1.eq_1 @St.freezeArg1.eq_2)) (And.intro (And.intro @St.freezeArg1.eq_3 @St.freezeArg1.eq_4) (And.intro @St.freezeArg1.eq_5 @St.freezeArg1.eq_6)))))))))
def memAll:=(And.intro (And.intro (And.intro (And.intro @List.isEmpty_nil.{0} (And.intro @val_pvs @frozen_pvs)) (And.intro @msnoc_len (And.intro @msnoc_get @msnoc_set))) (And.intro (And.intro @msnoc_take (And.intro @Int.le_refl @take_map_all)) (And.intro @Nat.le_refl (And.intro @St.freezeRows.eq_1 @BV.frozen.eq_1)))) (And.intro (And.intro (And.intro @BV.frozen.eq_2 (And.intro @List.take_length.{0} @List.take_append_drop.{0})) (And.intro @z_repl_zero (And.intro @Int.toNat_zero @true_and))) (And.intro (And.intro @and_true (And.intro @and_self @eq_self.{1})) (And.intro @z_take_zero (And.intro @List.drop_nil.{0} @List.take_nil.{0})))))
def slsAll:=(And.intro (And.intro @Nat.zero_le (And.intro @List.take_zero.{0} @List.take_nil.{0})) (And.intro (And.intro @List.take_succ_cons.{0} @List.length_cons.{0}) (And.intro @List.length_nil.{0} @Nat.le_refl)))
end Go.Proofs.YtioijcfcehhmdaaGreatDoor

namespace Go.Proofs.YtioijcfcehhmdaaGreatDoor
open Go.RowKit V
theorem cellish_at {w:World} {b o:Nat} {u:Value} (h:w.cell? ⟨b,o,none⟩=some u):Cellish w b:=by
 unfold World.cell? at h
 simp only at h
 split at h
 ·rename_i e;exact ⟨_,_,_,e⟩
 ·cases h
theorem sl_of_prep {α:Type} {r:Rep α} {enc:α→PV} {ok:Nat→Prop} {w:World} {l:List α} {sz:Nat} {v:Value} (hsz:sz=r.sz) (hc:∀ x,(enc x).cells.length=r.sz)
  (hr:∀ x∈l,∀ (cs:List Value),cs.length=r.sz→(∀ (j:Nat) p u,(enc x).cells[j]?=some p→cs[j]?=some u→PRep ok w p u)→r.rd ok w cs x) (h:PRep ok w (.list sz (l.map enc)) v):∃ a n c,v=.slice a n c∧Sl r ok w a n c l:=by
 generalize he:l.map enc=es at h
 cases h with
 |nil _ a =>
  have:l=[]:=by simpa using he
  subst this
  exact ⟨a,0,0,rfl,⟨rfl,Nat.le_refl _,Nat.zero_le _,fun _=>rfl,.inl rfl⟩⟩
 |list _ _ b off c cv h1 h2 h3 h4 h6 h7 h8 =>
  subst hsz he
  refine ⟨_,_,c,rfl,⟨by simp,h3,h4,(fun e=>by cases e),.inr ⟨b,off,rfl,h1,h2.lt,fun i x hx=>?_⟩⟩⟩
  have hi:(l.map enc)[i]?=some (enc x):=by simp [hx]
  refine ⟨(List.range r.sz).map (cv i),fun j hj=>?_,hr x (List.mem_of_getElem? hx) _ (by simp) fun j p u hp hu=>?_⟩
  ·have hj':j<(enc x).cells.length:=by rw [hc];exact hj
   rw [(h7 i _ j _ hi (List.getElem?_eq_getElem hj')).1]
   simp [hj]
  ·have hj:j<r.sz:=by have:=(List.getElem?_eq_some_iff.1 hp).1;rw [hc] at this;exact this
   have:u=cv i j:=by simp [hj] at hu;exact hu.symm
   rw [this]
   exact h8 i _ j _ hi hp
theorem prep_of_sl {α:Type} {r:Rep α} {enc:α→PV} {ok ok':Nat→Prop} {w:World} {l:List α} {a:Option Addr} {n c:Nat} (hk:∀ b,ok b→b<w.heap.size→ok' b) (hp0:0<r.sz) (hc:∀ x,(enc x).cells.length=r.sz)
  (hr:∀ x∈l,∀ (cs:List Value),cs.length=r.sz→r.rd ok w cs x→∀ (j:Nat) p u,(enc x).cells[j]?=some p→cs[j]?=some u→u.oneCell'=true∧PRep ok' w p u) (hz:l=[]→c=0) (h:Sl r ok w a n c l):PRep ok' w (.list r.sz (l.map enc)) (.slice a n c):=by
 obtain ⟨h1,h2,h3,h4,h5⟩:=h
 by_cases hl:l=[]
 ·have:=hz hl
  subst hl
  have:n=0:=by simpa using h1.symm
  subst this
  have:c=0:=by omega
  subst this
  exact .nil _ _
 ·rcases h5 with h5|⟨b,off,rfl,hb,hlt,h6⟩
  ·exact absurd (List.eq_nil_of_length_eq_zero (by omega)) hl
  ·have hn:n=(l.map enc).length:=by simp [h1]
   rw [hn]
   have key:∀ (i:Nat) (x:α) (j:Nat) (p:PV),l[i]?=some x→(enc x).cells[j]?=some p→∃ u,w.cell? ⟨b,off+i * r.sz+j,none⟩=some u∧u.oneCell'=true∧PRep ok' w p u:=by
    intro i x j p hx hp
    obtain ⟨cs,g1,g2⟩:=h6 i x hx
    have hj:j<r.sz:=by have:=(List.getElem?_eq_some_iff.1 hp).1;rw [hc] at this;exact this
    have hl2:=r.len g2
    have hu:cs[j]?=some (cs[j]'(by omega)):=List.getElem?_eq_getElem (by omega)
    obtain ⟨k1,k2⟩:=hr x (List.mem_of_getElem? hx) cs hl2 g2 j p _ hp hu
    exact ⟨_,by rw [g1 j hj,hu],k1,k2⟩
   have get:∀ {i:Nat} {e:PV},(l.map enc)[i]?=some e→∃ x,l[i]?=some x∧e=enc x:=by
    intro i e he
    rw [List.getElem?_map] at he
    cases hx:l[i]? with
    |none=>rw [hx] at he;cases he
    |some x=>rw [hx] at he;cases he;exact ⟨x,rfl,rfl⟩
   have hce:Cellish w b:=by
    cases l with
    |nil=>exact absurd rfl hl
    |cons x l =>
     have hj:0<(enc x).cells.length:=by rw [hc];exact hp0
     obtain ⟨u,k1,_⟩:=key 0 x 0 _ rfl (List.getElem?_eq_getElem hj)
     exact cellish_at k1
   refine .list _ _ b off c (fun i j=>(w.cell? ⟨b,off+i * r.sz+j,none⟩).getD undef) (hk b hb hlt) hce (by simp;omega) h3 (fun e he=>?_) (fun i e j x hi hj=>?_) fun i e j x hi hj=>?_
   ·obtain ⟨x,_,rfl⟩:=List.mem_map.1 he;exact hc x
   ·obtain ⟨x',hx,rfl⟩:=get hi
    obtain ⟨u,k1,k2,k3⟩:=key i x' j x hx hj
    rw [k1];exact ⟨rfl,k2⟩
   ·obtain ⟨x',hx,rfl⟩:=get hi
    obtain ⟨u,k1,k2,k3⟩:=key i x' j x hx hj
    rw [k1];exact k3
theorem secs_in {ok:Nat→Prop} {w:World} {l:List Sec} {v:Value} (h:PRep ok w (eSecs l) v):∃ a n c,v=.slice a n c∧Sl secR ok w a n c l:=by
 refine sl_of_prep (r:=secR) (enc:=eSec) rfl (fun x=>secPV_length x) (fun x _ cs hl hcs=>?_) h
 show cs=secCells x
 refine List.ext_getElem? fun j=>?_
 by_cases hj:j<8
 ·have h1:cs[j]?=some (cs[j]'(by rw [hl];exact hj)):=List.getElem?_eq_getElem _
  have h2:(eSec x).cells[j]?=some (.int .u8 ((x.toList[j]'(by simpa using hj)).toNat:Int)):=by
   show (secPV x)[j]?=_
   have hj':j<x.toList.length:=by simpa using hj
   simp only [secPV,List.getElem?_map,List.getElem?_eq_getElem hj',Option.map_some]
  have:=(hcs j _ _ h2 h1).int_inv
  have hj':j<x.toList.length:=by simpa using hj
  rw [h1,this]
  simp only [secCells,List.getElem?_map,List.getElem?_eq_getElem hj',Option.map_some]
 ·have e1:cs.length=8:=hl
  rw [List.getElem?_eq_none (by omega),List.getElem?_eq_none (by rw [secCells_length];omega)]
theorem img_in {ok:Nat→Prop} {w:World} {l:List (List Sec)} {v:Value} (h:PRep ok w (.list 1 (l.map eSecs)) v):∃ a n c,v=.slice a n c∧Sl secsR ok w a n c l:=by
 refine sl_of_prep (r:=secsR) (enc:=eSecs) rfl (fun x=>rfl) (fun x _ cs hl hcs=>?_) h
 match cs,hl with
 |[u],_ =>
  obtain ⟨a,n,c,rfl,hs⟩:=secs_in (hcs 0 _ u rfl rfl)
  exact ⟨a,n,c,rfl,hs⟩
theorem wrs_in {ok:Nat→Prop} {w:World} {l:List Wrt} {v:Value} (hok:∀ x∈l,i64b x.volume=true∧i64b x.start=true) (h:PRep ok w (.list 3 (l.map eWr)) v):∃ a n c,v=.slice a n c∧Sl wrR ok w a n c (l.map fun x=>(x.volume,x.start,x.data)):=by
 have:∃ a n c,v=.slice a n c∧Sl (α:=Wrt) ⟨3,fun ok w cs x=>wrR.rd ok w cs (x.volume,x.start,x.data),fun h=>wrR.len h,fun hk h=>wrR.mono hk h,fun h=>wrR.live h,fun hf h=>wrR.frame hf h,fun h=>wrR.one h⟩ ok w a n c l:=by
  refine sl_of_prep rfl (fun x=>rfl) (fun x hx cs hl hcs=>?_) h
  match cs,hl with
  |[u,u2,u3],_ =>
   have e1:=(hcs 0 _ u rfl rfl).int_inv
   have e2:=(hcs 1 _ u2 rfl rfl).int_inv
   obtain ⟨a,n,c,rfl,hs⟩:=secs_in (l:=x.data) (hcs 2 _ u3 rfl rfl)
   obtain ⟨o1,o2⟩:=hok x hx
   simp only [i64b,Bool.and_eq_true,decide_eq_true_eq] at o1 o2
   exact ⟨[u],[u2,.slice a n c],rfl,⟨by rw [e1],o1⟩,⟨[u2],[.slice a n c],rfl,⟨by rw [e2],o2⟩,a,n,c,rfl,hs⟩⟩
 obtain ⟨a,n,c,rfl,h1,h2,h3,h4,h5⟩:=this
 refine ⟨a,n,c,rfl,⟨by simpa using h1,h2,h3,h4,h5.imp id fun ⟨b,off,g1,g2,g3,g4⟩=>⟨b,off,g1,g2,g3,fun i x hx=>?_⟩⟩⟩
 rw [List.getElem?_map] at hx
 cases hx':l[i]? with
 |none=>rw [hx'] at hx;cases hx
 |some y=>rw [hx'] at hx;cases hx;exact g4 i y hx'
theorem img_out {ok ok':Nat→Prop} {w:World} {l:List (List Sec)} {a:Option Addr} {n c:Nat} (hk:∀ b,ok b→b<w.heap.size→ok' b) (hz:l=[]→c=0) (hne:∀ x∈l,x≠[]) (h:Sl secsR ok w a n c l):PRep ok' w (.list 1 (l.map eSecs)) (.slice a n c):=by
 refine prep_of_sl (r:=secsR) (enc:=eSecs) hk (by decide) (fun x=>rfl) (fun x hx cs hl hrd j p u hp hu=>?_) hz h
 obtain ⟨a,n,c,rfl,hs⟩:=hrd
 match j with
 |j+1=>simp [eSecs,PV.cells] at hp
 |0 =>
  cases hp
  cases hu
  refine ⟨rfl,prep_of_sl (r:=secR) (enc:=eSec) hk (by decide) (fun x=>secPV_length x) (fun s _ cs hl hrd j p u hp hu=>?_) (fun e=>absurd e (hne x hx)) hs⟩
  have hrd:cs=secCells s:=hrd
  subst hrd
  simp only [secCells,List.getElem?_map,Option.map_eq_some_iff] at hu
  have hp:(secPV s)[j]?=some p:=hp
  simp only [secPV,List.getElem?_map,Option.map_eq_some_iff] at hp
  obtain ⟨b,h1,rfl⟩:=hu
  obtain ⟨b',h2,rfl⟩:=hp
  rw [h1] at h2
  cases h2
  exact ⟨rfl,.int _ _⟩
theorem wrErr_fit (sz:List Int) (x:Wrt):wrErr sz x=fitW sz (x.volume,x.start,x.data):=by
 simp only [fitW,fitErr,wrErr]
 repeat' split
 all_goals first|rfl|omega
theorem wrErrs_eq (sz:List Int):∀ (l:List Wrt) (i:Nat),wrErrs sz l i=applyErr sz (l.map fun x=>(x.volume,x.start,x.data)) i
 |[],_=>rfl
 |x :: l,i=>by rw [List.map_cons,wrErrs,applyErr,wrErr_fit,wrErrs_eq sz l (i+1)]
theorem apE_eq (im:List (List Sec)) (l:List Wrt):apE im l=applyE im (l.map fun x=>(x.volume,x.start,x.data)):=by
 unfold apE applyE;rw [wrErrs_eq];rfl
theorem apI_eq (im:List (List Sec)) (l:List Wrt):apI im l=applyIdx im (l.map fun x=>(x.volume,x.start,x.data)):=by
 unfold apI applyIdx;rw [wrErrs_eq];rfl
theorem put1_eq (im:List (List Sec)) (x:Wrt):put1 im x=putW im (x.volume,x.start,x.data):=rfl
theorem puts_eq:∀ (l:List Wrt) (im:List (List Sec)),l.foldl put1 im=(l.map fun x=>(x.volume,x.start,x.data)).foldl putW im
 |[],_=>rfl
 |x :: l,im=>by rw [List.map_cons,List.foldl_cons,List.foldl_cons,put1_eq,puts_eq l]
theorem apO_eq (im:List (List Sec)) (l:List Wrt):apO im l=applyImg im (l.map fun x=>(x.volume,x.start,x.data)):=by
 unfold apO applyImg
 rw [apE_eq,puts_eq]
 unfold applyE orNil
 by_cases h:imgErr im=0
 ·simp [h]
 ·simp [h]
theorem wrErr_ok {im:List (List Sec)} {x:Wrt} (h:wrErr (szsOf im) x=0):szsOf (put1 im x)=szsOf im:=by
 rw [wrErr_fit] at h
 exact lens_put h
theorem puts_sizes:∀ (l:List Wrt) (im:List (List Sec)) (i:Nat),(wrErrs (szsOf im) l i).2=0→szsOf (l.foldl put1 im)=szsOf im
 |[],_,_,_=>rfl
 |x :: l,im,i,h=>by
  unfold wrErrs at h
  split at h
  ·rename_i h2;exact absurd h h2
  ·rename_i h2
   have h2:wrErr (szsOf im) x=0:=by omega
   have e:=wrErr_ok h2
   rw [List.foldl_cons,puts_sizes l (put1 im x) (i+1) (by rw [e];exact h),e]
theorem apO_sizes {im:List (List Sec)} {l:List Wrt} (h:apE im l=0):szsOf (apO im l)=szsOf im:=by
 unfold apO
 rw [if_pos h]
 unfold apE at h
 split at h
 ·rename_i h2;exact absurd h h2
 ·exact puts_sizes l im 0 h
theorem szErr_ne {im:List (List Sec)} (h:szErr (szsOf im)=0):im≠[]∧∀ v∈im,v≠[]:=by
 unfold szErr at h
 split at h
 ·cases h
 ·rename_i h1
  split at h
  ·cases h
  ·rename_i h2
   refine ⟨fun e=>by subst e;simp [szsOf] at h1,fun v hv e=>?_⟩
   subst e
   refine h2 (List.any_eq_true.2 ⟨0,?_,by decide⟩)
   exact List.mem_map.2 ⟨[],hv,rfl⟩
theorem apO_ne {im:List (List Sec)} {l:List Wrt}:(apE im l=0→apO im l≠[])∧∀ v∈apO im l,v≠[]:=by
 by_cases h:apE im l=0
 ·have h0:szErr (szsOf im)=0:=by
   unfold apE at h
   split at h
   ·rename_i h2;exact absurd h h2
   ·omega
  have:=szErr_ne (im:=apO im l) (by rw [apO_sizes h];exact h0)
  exact ⟨fun _=>this.1,this.2⟩
 ·exact ⟨fun e=>absurd e h,fun v hv=>by unfold apO at hv;rw [if_neg h] at hv;cases hv⟩
theorem apply_ok {f:Nat} (hc:callable Tryz.prog f=true) (hA:∀ {a:Option Addr} {n c:Nat} {im:List (List Sec)} {ok ok2:Nat→Prop} {w:World},Sl secsR ok w a n c im→n≤1000000→(∀ v∈im,v.length≤1000000) →
  ∀ {la:Option Addr} {ln lc:Nat} {l:List Wr},Sl wrR ok2 w la ln lc l→Calls Tryz.prog f #[.slice a n c,.slice la ln lc] w (RetApply w im l)) :
  ∀ args rs,applyX args=some rs→callable Tryz.prog f=true∧CallOk Tryz.prog f args rs:=fun args rs h=>by
 obtain ⟨im,l,rfl,hw,hn,hv,rfl⟩:=applyX_eq h
 refine ⟨hc,fun T0 w vs h1 h2 h3 h4 _=>?_⟩
 match vs,h3 with
 |[v0,v1],_ =>
  obtain ⟨a,n,c,rfl,hs⟩:=img_in (h4 0 _ v0 rfl rfl)
  obtain ⟨la,ln,lc,rfl,hl⟩:=wrs_in hw (h4 1 _ v1 rfl rfl)
  refine (hA hs (by rw [← hs.len];exact hn) hv hl).mono ?_
  rintro e w' ⟨a',n',c',rfl,hr,hz,hB⟩
  rw [← apI_eq,← apE_eq]
  rw [← apO_eq] at hr
  rw [← apE_eq] at hz
  refine ⟨_,fun b=>if w.heap.size≤b∧b<w'.heap.size then .ro else T0 b,rfl,hB,fun b hb=>if_neg (by omega),fun b hb=>?_,#[_,_,_],rfl,rfl,fun i r u hr' hu=>?_⟩
  ·show (if _ then _ else T0 b)=_
   rw [if_neg (by omega)];exact h2 b (by have:=hB.size;omega)
  ·match i with
   |0 =>
    cases hr';cases hu
    refine img_out (ok:=(w.heap.size≤·)) (fun b hb hlt=>if_pos ⟨hb,hlt⟩) (fun e=>?_) apO_ne.2 hr
    rcases hz with hz|hz
    ·exact hr.nil hz
    ·exact absurd e (apO_ne.1 hz)
   |1=>cases hr';cases hu;exact .int _ _
   |2=>cases hr';cases hu;exact .int _ _
   |i+3=>simp at hr'
theorem applyI_ok:∀ args rs,applyX args=some rs→callable Tryz.prog 38=true∧CallOk Tryz.prog 38 args rs:=apply_ok (by kernel_rfl) fun h hn hv _ _ _ _ hl=>applyI_any h hn hv hl
end Go.Proofs.YtioijcfcehhmdaaGreatDoor

namespace Go.Proofs.YtioijcfcehhmdaaGreatDoor
open Go.RowKit V
def oneEnv (f:Nat) (fn:VFn):Env:=fun k=>if k=f then some (.code fn) else none
theorem oneEnv_ok {P:Program} {f:Nat} {fn:VFn} (h:fnOk P f fn=true):EnvOk P (oneEnv f fn):=fun k d hk=>by
 unfold oneEnv at hk
 split at hk
 ·rename_i e;subst e;cases hk;exact h
 ·cases hk
def emR (n:Nat):Rep Unit where
 sz:=n
 rd _ _ cs _:=cs.length=n∧∀ u∈cs,u.oneCell'=true
 len h:=h.1
 mono _ h:=h
 live h:=h
 frame _ h:=h
 one h:=h.2
theorem Flat.em (n:Nat):Flat (emR n):=fun h=>h
theorem sl_nil {ok:Nat→Prop} {w:World} {sz:Nat} {v:Value} (h:PRep ok w (.list sz []) v):∃ a c,v=.slice a 0 c∧Sl (emR sz) (fun _=>True) w a 0 c []:=by
 obtain ⟨l,hl⟩:∃ l:List PV,l=[]:=⟨_,rfl⟩
 rw [← hl] at h
 cases h with
 |nil _ a=>exact ⟨a,0,rfl,⟨rfl,Nat.le_refl _,Nat.zero_le _,fun _=>rfl,.inl rfl⟩⟩
 |list _ _ b off c cv h1 h2 h3 h4 h6 h7 h8=>subst hl;exact ⟨_,c,rfl,⟨rfl,Nat.zero_le _,h4,(fun e=>by cases e),.inl rfl⟩⟩
--+
theorem slt95:SliceT Tryz.prog 66 68 8 8 (.agg #[.int .u8 0,.int .u8 0,.int .u8 0,.int .u8 0,.int .u8 0,.int .u8 0,.int .u8 0,.int .u8 0]):=⟨Tryz.underlying66,by kernel_rfl,rfl,by decide⟩
set_option maxHeartbeats 1000000 in
theorem cempty95 {a:Option Addr} {n c:Nat} {l:List Unit} {ok:Nat→Prop} {w:World} (h:Sl (emR 8) ok w a n c l) (hn:n≤1000000) :
  Calls Tryz.prog 95 #[.slice a n c] w fun e w'=>∃ a' n' c',e=.returned (.slice a' n' c')∧(ownRowR (emR 8) 68).rd (w.heap.size≤·) w' [.slice a' n' c'] l∧Below w.heap.size w w':=by
 have heq:=fun (a:Option Addr) (n c:Nat) (w:World)=>Lib.run_eql_slice_nil (P:=Tryz.prog) w 66 68 a n c 0 0 Tryz.underlying66
 cases a with
 |none =>
  have h0:l=[]:=List.eq_nil_of_length_eq_zero (by rw [h.len];have:=h.nil rfl;have:=h.cap;omega)
  have H0:=Lib.hid h0;clear h0
  go_enter Tryz.func95,Tryz.ntmps95
  go_wp2
  go_ret
  refine ⟨_,_,_,rfl,?_,Below.refl _ _⟩
  rw [H0.out]
  exact ownRowR.mk (Own.nil _ _ _ _ _) (fun _=>.inl rfl)
 |some ad =>
  have hs:n≤9223372036854775807:=by have:=Nat.le_trans h.cap h.bnd;unfold maxLen at this;omega
  go_enter Tryz.func95,Tryz.ntmps95
  go_wp2_with (at_builtin;refine wpList_app slt95 rfl _ _ rfl rfl (Own.lit0 (emR 8) (ok:=fun _=>False) (Nat.le_refl _)) rfl ((Src.of_sl (h.below ((Below.refl _ _).alloc (Nat.le_refl _) _))).flat (Flat.em 8)) ?c1 ?c2 ?c3 ?_)
  case c1=>simp;unfold maxLen;omega
  case c2=>simp;omega
  case c3=>simp
  intro v' w1 hown hgrow hat
  obtain ⟨a',n',c',rfl,_⟩:=hown.sl
  go_wp2
  go_ret
  refine ⟨_,_,_,rfl,ownRowR.mk (by simpa using hown) (fun e=>?_),((Below.refl _ _).alloc (Nat.le_refl _) _).grown hgrow (by simp) (fun k hk=>by cases hk;exact Nat.le_refl _)⟩
  subst e
  obtain ⟨xs,h1,_⟩:=hown
  rcases h1.2 with ⟨hv,_⟩|⟨g,cap,cur,hv,_⟩
  ·exact .inl hv
  ·exact .inr ⟨g,cap,by simpa using hv⟩
theorem clone95_fn:fnOk Tryz.prog 95 fn95=true:=by kernel_rfl
theorem clone95_some {en:Env} (hen:en 95=some (.code fn95)) {e:PV} {es:List PV} (hl:(e :: es).length≤lim):cal en 95 [.list 8 (e :: es)]=some [(.list 8 (e :: es),true)]:=by
 have F1:(es.length+1≤lim)=True:=eq_true (by simpa using hl)
 rw [cal_code hen rfl]
 simp only [fn95]
 simp only [start,z_map_cons,z_map_nil,z_len_cons,z_len_nil,z_repl_zero,z_repl_succ,z_cons_app,z_nil_app,Nat.reduceAdd,Nat.reduceSub]
 simp only [F1,z_nil_app,memAll,vAll,reduceCtorEq,Nat.reduceEqDiff,Nat.reduceAdd,Nat.reduceLT,Nat.reduceLeDiff,Nat.beq]
theorem clone95_ok:∀ args rs,cloneX 8 args=some rs→callable Tryz.prog 95=true∧CallOk Tryz.prog 95 args rs:=fun args rs h=>by
 unfold cloneX at h
 split at h
 case h_2=>cases h
 rename_i sz es
 split at h
 case isFalse=>cases h
 rename_i hc
 obtain ⟨rfl,hl⟩:=hc
 cases h
 cases es with
 |cons e es =>
  obtain ⟨n,hn⟩:=vmCall_of_cal (clone95_some (en:=oneEnv 95 fn95) (if_pos rfl) hl)
  exact vmCall_ok (oneEnv_ok clone95_fn) hn
 |nil =>
  refine ⟨by kernel_rfl,fun T0 w vs h1 h2 h3 h4 _=>?_⟩
  match vs,h3 with
  |[v],_ =>
   have hv:=h4 0 _ v rfl rfl
   obtain ⟨a,c,rfl,hsl⟩:=sl_nil hv
   refine (cempty95 (ok:=fun _=>True) hsl (by omega)).mono ?_
   rintro e w' ⟨a',n',c',rfl,hrd,hB⟩
   obtain ⟨v,hv,hb,⟨xs,hown,_⟩,hnil⟩:=hrd
   obtain rfl:Value.slice a' n' c'=v:=by simpa using hv
   rcases hown.2 with ⟨e1,_⟩|⟨g,cap,cur,e1,_,hg,_,hm,hs,_⟩
   ·refine ⟨_,T0,rfl,hB,fun _ _=>rfl,fun b hb=>h2 b (by have:=hB.size;omega),#[_],rfl,rfl,fun i r u hr hu=>?_⟩
    cases i with
    |zero=>cases hr;cases hu;exact .inl ⟨rfl,none,e1⟩
    |succ i=>simp at hr
   ·have hg0:w.heap.size≤g:=hb g (by rw [e1];rfl)
    have hgl:g<w'.heap.size:=(Array.getElem?_eq_some_iff.1 hg).1
    refine ⟨_,fun b=>if b=g then .row (.part 0 0) else T0 b,rfl,hB,fun b hb=>if_neg (by omega),fun b hb=>?_,#[_],rfl,rfl,fun i r u hr hu=>?_⟩
    ·show (if b=g then _ else T0 b)=_
     rw [if_neg (by omega)];exact h2 b (by have:=hB.size;omega)
    ·cases i with
     |zero =>
      cases hr;cases hu
      exact .inr ⟨g,cap,cur,_,e1,if_pos rfl,hg,hs,Nat.zero_le _,hm,(fun e he=>by cases he),fun i e j x hi=>by simp at hi⟩
     |succ i=>simp at hr
--+
theorem slt146:SliceT Tryz.prog 87 144 1 8 (.int .u64 0):=⟨Tryz.underlying87,by kernel_rfl,rfl,by decide⟩
set_option maxHeartbeats 1000000 in
theorem cempty146 {a:Option Addr} {n c:Nat} {l:List Unit} {ok:Nat→Prop} {w:World} (h:Sl (emR 1) ok w a n c l) (hn:n≤1000000) :
  Calls Tryz.prog 146 #[.slice a n c] w fun e w'=>∃ a' n' c',e=.returned (.slice a' n' c')∧(ownRowR (emR 1) 144).rd (w.heap.size≤·) w' [.slice a' n' c'] l∧Below w.heap.size w w':=by
 have heq:=fun (a:Option Addr) (n c:Nat) (w:World)=>Lib.run_eql_slice_nil (P:=Tryz.prog) w 87 144 a n c 0 0 Tryz.underlying87
 cases a with
 |none =>
  have h0:l=[]:=List.eq_nil_of_length_eq_zero (by rw [h.len];have:=h.nil rfl;have:=h.cap;omega)
  have H0:=Lib.hid h0;clear h0
  go_enter Tryz.func146,Tryz.ntmps146
  go_wp2
  go_ret
  refine ⟨_,_,_,rfl,?_,Below.refl _ _⟩
  rw [H0.out]
  exact ownRowR.mk (Own.nil _ _ _ _ _) (fun _=>.inl rfl)
 |some ad =>
  have hs:n≤9223372036854775807:=by have:=Nat.le_trans h.cap h.bnd;unfold maxLen at this;omega
  go_enter Tryz.func146,Tryz.ntmps146
  go_wp2_with (at_builtin;refine wpList_app slt146 rfl _ _ rfl rfl (Own.lit0 (emR 1) (ok:=fun _=>False) (Nat.le_refl _)) rfl ((Src.of_sl (h.below ((Below.refl _ _).alloc (Nat.le_refl _) _))).flat (Flat.em 1)) ?c1 ?c2 ?c3 ?_)
  case c1=>simp;unfold maxLen;omega
  case c2=>simp;omega
  case c3=>simp
  intro v' w1 hown hgrow hat
  obtain ⟨a',n',c',rfl,_⟩:=hown.sl
  go_wp2
  go_ret
  refine ⟨_,_,_,rfl,ownRowR.mk (by simpa using hown) (fun e=>?_),((Below.refl _ _).alloc (Nat.le_refl _) _).grown hgrow (by simp) (fun k hk=>by cases hk;exact Nat.le_refl _)⟩
  subst e
  obtain ⟨xs,h1,_⟩:=hown
  rcases h1.2 with ⟨hv,_⟩|⟨g,cap,cur,hv,_⟩
  ·exact .inl hv
  ·exact .inr ⟨g,cap,by simpa using hv⟩
theorem clone146_fn:fnOk Tryz.prog 146 fn146=true:=by kernel_rfl
theorem clone146_some {en:Env} (hen:en 146=some (.code fn146)) {e:PV} {es:List PV} (hl:(e :: es).length≤lim):cal en 146 [.list 1 (e :: es)]=some [(.list 1 (e :: es),true)]:=by
 have F1:(es.length+1≤lim)=True:=eq_true (by simpa using hl)
 rw [cal_code hen rfl]
 simp only [fn146]
 simp only [start,z_map_cons,z_map_nil,z_len_cons,z_len_nil,z_repl_zero,z_repl_succ,z_cons_app,z_nil_app,Nat.reduceAdd,Nat.reduceSub]
 simp only [F1,z_nil_app,memAll,vAll,reduceCtorEq,Nat.reduceEqDiff,Nat.reduceAdd,Nat.reduceLT,Nat.reduceLeDiff,Nat.beq]
theorem clone146_ok:∀ args rs,cloneX 1 args=some rs→callable Tryz.prog 146=true∧CallOk Tryz.prog 146 args rs:=fun args rs h=>by
 unfold cloneX at h
 split at h
 case h_2=>cases h
 rename_i sz es
 split at h
 case isFalse=>cases h
 rename_i hc
 obtain ⟨rfl,hl⟩:=hc
 cases h
 cases es with
 |cons e es =>
  obtain ⟨n,hn⟩:=vmCall_of_cal (clone146_some (en:=oneEnv 146 fn146) (if_pos rfl) hl)
  exact vmCall_ok (oneEnv_ok clone146_fn) hn
 |nil =>
  refine ⟨by kernel_rfl,fun T0 w vs h1 h2 h3 h4 _=>?_⟩
  match vs,h3 with
  |[v],_ =>
   have hv:=h4 0 _ v rfl rfl
   obtain ⟨a,c,rfl,hsl⟩:=sl_nil hv
   refine (cempty146 (ok:=fun _=>True) hsl (by omega)).mono ?_
   rintro e w' ⟨a',n',c',rfl,hrd,hB⟩
   obtain ⟨v,hv,hb,⟨xs,hown,_⟩,hnil⟩:=hrd
   obtain rfl:Value.slice a' n' c'=v:=by simpa using hv
   rcases hown.2 with ⟨e1,_⟩|⟨g,cap,cur,e1,_,hg,_,hm,hs,_⟩
   ·refine ⟨_,T0,rfl,hB,fun _ _=>rfl,fun b hb=>h2 b (by have:=hB.size;omega),#[_],rfl,rfl,fun i r u hr hu=>?_⟩
    cases i with
    |zero=>cases hr;cases hu;exact .inl ⟨rfl,none,e1⟩
    |succ i=>simp at hr
   ·have hg0:w.heap.size≤g:=hb g (by rw [e1];rfl)
    have hgl:g<w'.heap.size:=(Array.getElem?_eq_some_iff.1 hg).1
    refine ⟨_,fun b=>if b=g then .row (.part 0 0) else T0 b,rfl,hB,fun b hb=>if_neg (by omega),fun b hb=>?_,#[_],rfl,rfl,fun i r u hr hu=>?_⟩
    ·show (if b=g then _ else T0 b)=_
     rw [if_neg (by omega)];exact h2 b (by have:=hB.size;omega)
    ·cases i with
     |zero =>
      cases hr;cases hu
      exact .inr ⟨g,cap,cur,_,e1,if_pos rfl,hg,hs,Nat.zero_le _,hm,(fun e he=>by cases he),fun i e j x hi=>by simp at hi⟩
     |succ i=>simp at hr
end Go.Proofs.YtioijcfcehhmdaaGreatDoor

namespace Go.Proofs.YtioijcfcehhmdaaGreatDoor
open Go.RowKit
theorem demand_true (n:Int) (w:World):Calls Tryz.prog 51 #[.bool true,.int .i64 n] w fun e w'=>e=.returned (.tuple #[])∧w'=w:=by
 go_enter Tryz.func51,Tryz.ntmps51
 have hnot:∀ (x:Bool) (w:World),(Op.unary .not (.bool x)).run Tryz.prog w=.ok (.bool (!x)) w:=fun _ _=>rfl
 go_wp2
 go_end0
 exact ⟨rfl,rfl⟩
theorem demand_false (n:Int) (w:World):Calls Tryz.prog 51 #[.bool false,.int .i64 n] w fun e w'=>e=.panicked [{ v:=.iface 148 (.int .i64 n),recovered:=false }]∧w'=w:=by
 go_enter Tryz.func51,Tryz.ntmps51
 have hnot:∀ (x:Bool) (w:World),(Op.unary .not (.bool x)).run Tryz.prog w=.ok (.bool (!x)) w:=fun _ _=>rfl
 have hp:=run_panic_iface (P:=Tryz.prog) 148 (.int .i64 n)
 go_wp2
 exact ⟨rfl,rfl,rfl⟩
theorem setRow_one {w:World} {b:Nat} {x v:Value} {E:TypeId} (h:w.heap[b]?=some (.cells #[x] E (0,0))):w.setCell ⟨b,0,none⟩ v=w.setRow b #[v]:=by
 simp only [World.setCell,World.setRow]
 congr 1
 refine Array.ext_getElem? fun i=>?_
 rw [Array.getElem?_modify,Array.getElem?_modify]
 by_cases e:b=i
 ·subst e
  simp [h]
 ·simp [e]
theorem opv {F:Fence} {k:Nat} {P:Program} {ops:Array Oper} {Q:Exit→Act→World→Prop} {rest:List Oper} {a:Act} {w w1:World} {o:Oper} (hF:F=Fence.wide) (hg:o.guard=none) {v:Value} {nx:Next} (hr:(execOp a.eval o).run P w=.ok nx w1) (hnx:nx=.value v∨nx=.skip∧v=undef) (hd:∀ c,o.op≠.defer c)
  (h:wpListIn F k P ops Q rest (a.put o.dst v) w1):wpListIn F k P ops Q (o :: rest) a w:=by
 subst hF
 have hw:Region.wanted o (yielded ops a.tmps)=true:=by simp only [Region.wanted,hg]
 simp only [wpListIn,hw,↓reduceIte]
 refine ⟨fun f _=>trivial,?_⟩
 rw [semAt_eq hd,hr]
 rcases hnx with rfl|⟨rfl,rfl⟩
 ·exact h
 ·exact h
theorem resc_panics (b:Nat) (m n:Int) (E:TypeId) (w:World) (h:w.heap[b]?=some (.cells #[.int .i64 m] E (0,0))):CallsDIn Fence.wide 0 Tryz.prog 47 #[.pointer (some ⟨b,0,none⟩)] (.panicking [{ v:=.iface 148 (.int .i64 n),recovered:=false }]) w fun e u' w'=>e=.returned (.tuple #[])∧settle u'=.returning∧w'=w.setRow b #[.int .i64 n]:=by
 have hc:w.cell? ⟨b,0,none⟩=some (.int .i64 m):=by rw [cell_of_row w _ _ _ _ (0,0) h];rfl
 have hz:w.frozen? ⟨b,0,none⟩=false:=by
  simp only [World.frozen?,h]
  rw [decide_eq_false (Nat.not_lt_zero 0),Bool.and_false]
 have hS:=setRow_one (v:=.int .i64 n) h
 refine callsDIn_of_wpSIn Tryz.func47 rfl trivial fun c₀ cs hu=>?_
 apply wpSIn_seq
 apply wpSIn_region
 simp [wpOpsSIn,go_sem,recoverD,hu,Tryz.ntmps47,Exit.thenS]
 refine wpSIn_of_wpIn rfl ?_
 obtain ⟨I,hI⟩:∃ I:Value,I=.iface 148 (.int .i64 n):=⟨_,rfl⟩
 have hta:(Instr.typeAssert I 20 148 true).run Tryz.prog w=.ok (.tuple #[.int .i64 n,.bool true]) w:=by
  rw [hI];simp [Instr.typeAssert,run_underlying Tryz.underlying148]
 have heq:(do eqGuard .eql 20 (.tmp 6) (.const .nilIface) I .nilIface;Go.binOp .eql 20 I .nilIface:Sem Value).run Tryz.prog w=.ok (.bool false) w:=by
  rw [hI]
  simp [eqGuard,go_sem]
 refine wpIn_seq (wpIn_seq (wpIn_region_list ?_))
 refine opv (w1:=w) rfl rfl (v:=I) (nx:=.value I) (by simp [execOp,Act.eval,Act.put,hI]) (.inl rfl) (by intro c h;cases h) ?_
 refine opv (w1:=w) rfl rfl (v:=.bool false) (nx:=.value (.bool false)) (by simp [execOp,Act.eval,Act.put,hI,eqGuard,go_sem]) (.inl rfl) (by intro c h;cases h) ?_
 simp only [wpListIn,Exit.then]
 refine wpIn_cond (t:=false) (by simp [Act.eval,Act.put]) ?_
 simp only [Bool.false_eq_true,if_false]
 refine wpIn_skip ?_
 simp only [Exit.then]
 refine wpIn_seq (wpIn_region_list ?_)
 refine opv (w1:=w) rfl rfl (v:=I) (nx:=.value I) (by simp [execOp,Act.eval,Act.put,hI]) (.inl rfl) (by intro c h;cases h) ?_
 refine opv (w1:=w) rfl rfl (v:=.tuple #[.int .i64 n,.bool true]) (nx:=.value (.tuple #[.int .i64 n,.bool true])) (by rw [hI] at hta;simp [execOp,Act.eval,Act.put,hI,hta]) (.inl rfl) (by intro c h;cases h) ?_
 refine opv (w1:=w) rfl rfl (v:=.tuple #[.int .i64 n,.bool true]) (nx:=.value (.tuple #[.int .i64 n,.bool true])) (by simp [execOp,Act.eval,Act.put,hI]) (.inl rfl) (by intro c h;cases h) ?_
 refine opv (w1:=w) rfl rfl (v:=.int .i64 n) (nx:=.value (.int .i64 n)) (by simp [execOp,Act.eval,Act.put,hI,go_sem]) (.inl rfl) (by intro c h;cases h) ?_
 refine opv (w1:=w) rfl rfl (v:=.bool true) (nx:=.value (.bool true)) (by simp [execOp,Act.eval,Act.put,hI,go_sem]) (.inl rfl) (by intro c h;cases h) ?_
 refine opv (w1:=w) rfl rfl (v:=.int .i64 n) (nx:=.value (.int .i64 n)) (by simp [execOp,Act.eval,Act.put,hI]) (.inl rfl) (by intro c h;cases h) ?_
 refine opv (w1:=w) rfl rfl (v:=.bool true) (nx:=.value (.bool true)) (by simp [execOp,Act.eval,Act.put,hI]) (.inl rfl) (by intro c h;cases h) ?_
 simp only [wpListIn,Exit.then]
 refine wpIn_seq (wpIn_seq (wpIn_region_list ?_))
 refine opv (w1:=w) rfl rfl (v:=.bool true) (nx:=.value (.bool true)) (by simp [execOp,Act.eval,Act.put,hI]) (.inl rfl) (by intro c h;cases h) ?_
 refine opv (w1:=w) rfl rfl (v:=.bool false) (nx:=.value (.bool false)) (by simp [execOp,Act.eval,Act.put,hI,go_sem]) (.inl rfl) (by intro c h;cases h) ?_
 simp only [wpListIn,Exit.then]
 refine wpIn_cond (t:=false) (by simp [Act.eval,Act.put]) ?_
 simp only [Bool.false_eq_true,if_false]
 refine wpIn_skip ?_
 simp only [Exit.then]
 refine wpIn_region_list ?_
 refine opv (w1:=w) rfl rfl (v:=.pointer (some ⟨b,0,none⟩)) (nx:=.value (.pointer (some ⟨b,0,none⟩))) (by simp [execOp,Act.eval,Act.put,hI]) (.inl rfl) (by intro c h;cases h) ?_
 refine opv (w1:=w) rfl rfl (v:=.int .i64 n) (nx:=.value (.int .i64 n)) (by simp [execOp,Act.eval,Act.put,hI]) (.inl rfl) (by intro c h;cases h) ?_
 refine opv (w1:=w) rfl rfl (v:=.pointer (some ⟨b,0,none⟩)) (nx:=.value (.pointer (some ⟨b,0,none⟩))) (by simp [execOp,Act.eval,Act.put,hI,go_sem]) (.inl rfl) (by intro c h;cases h) ?_
 refine opv (w1:=w.setRow b #[.int .i64 n]) rfl rfl (v:=undef) (nx:=.skip) (by simp [execOp,Act.eval,Act.put,hI,go_sem,hc,hz,hS]) (.inr ⟨rfl,rfl⟩) (by intro c h;cases h) ?_
 simp only [wpListIn]
 simp [bodyPostS,results,Tryz.results47,settle,Act.put]
theorem resc_returns (b:Nat) (w:World):CallsDIn Fence.wide 0 Tryz.prog 47 #[.pointer (some ⟨b,0,none⟩)] .returning w fun e u' w'=>e=.returned (.tuple #[])∧settle u'=.returning∧w'=w:=by
 refine callsDIn_of_wpSIn Tryz.func47 rfl trivial fun c₀ cs hu=>?_
 apply wpSIn_seq
 apply wpSIn_region
 simp [wpOpsSIn,go_sem,recoverD,hu,Tryz.ntmps47,Exit.thenS]
 refine wpSIn_of_wpIn rfl ?_
 refine wpIn_seq (wpIn_seq (wpIn_region_list ?_))
 refine opv (w1:=w) rfl rfl (v:=.nilIface) (nx:=.value .nilIface) (by simp [execOp,Act.eval,Act.put]) (.inl rfl) (by intro c h;cases h) ?_
 refine opv (w1:=w) rfl rfl (v:=.bool true) (nx:=.value (.bool true)) (by simp [execOp,Act.eval,Act.put,eqGuard,go_sem]) (.inl rfl) (by intro c h;cases h) ?_
 simp only [wpListIn,Exit.then]
 refine wpIn_cond (t:=true) (by simp [Act.eval,Act.put]) ?_
 simp only [if_true]
 refine wpIn_ret ?_
 simp only [Exit.then]
 simp [bodyPostS,results,Tryz.results47,settle,Act.put]
 cases c₀
 simp_all
theorem resc_ok:RescOk Tryz.prog 47 148:=⟨by kernel_rfl,fun b m n E w h=>resc_panics b m n E w h,fun b w=>resc_returns b w⟩
theorem demand_ok:(∀ args,demandX args=some none→callable Tryz.prog 51=true∧CallOk Tryz.prog 51 args [])∧∀ args t n,demandX args=some (some (t,n))→callable Tryz.prog 51=true∧ThrOk Tryz.prog 51 args t n:=by
 have hc:callable Tryz.prog 51=true:=by kernel_rfl
 refine ⟨fun args h=>⟨hc,fun T0 w vs h0 hf hl hr hG=>?_⟩,fun args t n h=>⟨hc,fun T0 w vs h0 hf hl hr hG=>?_⟩⟩
 ·unfold demandX at h
  split at h<;>try (cases h;done)
  match vs,hl with
  |[u,v],_ =>
   have e1:=(hr 0 _ u rfl rfl).bool_inv
   have e2:=(hr 1 _ v rfl rfl).int_inv
   subst e1;subst e2
   refine (demand_true _ w).mono ?_
   rintro e w' ⟨rfl,rfl⟩
   exact ⟨.tuple #[],T0,rfl,Below.refl _ _,fun _ _=>rfl,hf,#[],rfl,rfl,fun i r u hr=>by simp at hr⟩
 ·unfold demandX at h
  split at h<;>try (cases h;done)
  cases h
  match vs,hl with
  |[u,v],_ =>
   have e1:=(hr 0 _ u rfl rfl).bool_inv
   have e2:=(hr 1 _ v rfl rfl).int_inv
   subst e1;subst e2
   refine (demand_false _ w).mono ?_
   rintro e w' ⟨rfl,rfl⟩
   exact ⟨rfl,Below.refl _ _⟩
theorem store_all {P:Program} {T0:TypeId} {w:World} {b:Nat} {v:Value} {arr:Array Value} {E:TypeId} (hs:szOf P T0=some v.cells.size) (hb:w.heap[b]?=some (.cells arr E (0,0))) (hl:arr.size=v.cells.size) (h1:∀ u∈v.cells.toList,u.oneCell'=true) :
  (Instr.storeAt T0 (.pointer (some ⟨b,0,none⟩)) v).run P w=.ok () (w.setRow b v.cells):=by
 have:=run_storeVar (P:=P) (T0:=T0) (off:=0) hs hb (by omega) h1
 have e:arr.toList.drop (0+v.cells.toList.length)=[]:=List.drop_eq_nil_of_le (by simp [hl])
 rw [e] at this
 simp [Instr.storeAt,Instr.sureAddr]
 simpa using this
theorem nil_bs {bs:List Nat} (h:bs.length=1):∃ b,bs=[b]:=by
 match bs,h with
 |[b],_=>exact ⟨b,rfl⟩
theorem two_bs {bs:List Nat} (h:bs.length=2):∃ b c,bs=[b,c]:=by
 match bs,h with
 |[b,c],_=>exact ⟨b,c,rfl⟩
theorem clos_finish:ClosOk Tryz.prog 62 [[.int .i64 0,.int .i64 0,.int .i64 0,.int .i64 0,.int .i64 0,.int .i64 0,.bool false,.bool false]]:=by
 refine ⟨by kernel_rfl,fun be bs E w hl h=>?_,fun be bs m E w hm hl h hb hn=>?_⟩
 ·obtain ⟨b0,rfl⟩:=nil_bs hl
  have hc:w.cell? ⟨be,0,none⟩=some (.int .i64 0):=by rw [cell_of_row w _ _ _ _ (0,0) h];rfl
  refine (callsDIn_of_wp (R:=fun e w'=>e=.returned (.tuple #[])∧w'=w) Tryz.func62 rfl trivial ?_).mono (by rintro e u' w' ⟨rfl,rfl,rfl⟩;exact ⟨rfl,rfl,rfl⟩)
  simp only [ptrs,List.map_cons,List.map_nil,Tryz.ntmps62]
  refine wpIn_seq (wpIn_region_list ?_)
  refine opv (w1:=w) rfl rfl (v:=.int .i64 0) (nx:=.value (.int .i64 0)) (by simp [execOp,Act.eval,Act.put,go_sem,hc]) (.inl rfl) (by intro c h;cases h) ?_
  refine opv (w1:=w) rfl rfl (v:=.bool false) (nx:=.value (.bool false)) (by simp [execOp,Act.eval,Act.put,eqGuard,go_sem]) (.inl rfl) (by intro c h;cases h) ?_
  simp only [wpListIn,Exit.then]
  refine wpIn_cond (t:=false) (by simp [Act.eval,Act.put]) ?_
  simp only [Bool.false_eq_true,if_false]
  refine wpIn_skip ?_
  simp [bodyPost,results,Tryz.results62,Act.put]
 ·obtain ⟨b0,rfl⟩:=nil_bs hl
  have hc:w.cell? ⟨be,0,none⟩=some (.int .i64 m):=by rw [cell_of_row w _ _ _ _ (0,0) h];rfl
  refine (callsDIn_of_wp (R:=fun e w'=>e=.returned (.tuple #[])∧w'=zeroAll [b0] [[.int .i64 0,.int .i64 0,.int .i64 0,.int .i64 0,.int .i64 0,.int .i64 0,.bool false,.bool false]] w) Tryz.func62 rfl trivial ?_).mono (by rintro e u' w' ⟨rfl,rfl,rfl⟩;exact ⟨rfl,rfl,rfl⟩)
  simp only [ptrs,List.map_cons,List.map_nil,Tryz.ntmps62]
  refine wpIn_seq (wpIn_region_list ?_)
  have hm':(m != 0)=true:=by simpa using hm
  obtain ⟨arr0,E0,g0,s0⟩:=hb 0 b0 _ rfl rfl
  refine opv (w1:=w) rfl rfl (v:=.int .i64 m) (nx:=.value (.int .i64 m)) (by simp [execOp,Act.eval,Act.put,go_sem,hc]) (.inl rfl) (by intro c h;cases h) ?_
  refine opv (w1:=w) rfl rfl (v:=.bool true) (nx:=.value (.bool true)) (by simp [execOp,Act.eval,Act.put,eqGuard,go_sem,hm']) (.inl rfl) (by intro c h;cases h) ?_
  simp only [wpListIn,Exit.then]
  refine wpIn_cond (t:=true) (by simp [Act.eval,Act.put]) ?_
  simp only [if_true]
  refine wpIn_region_list ?_
  refine opv (w1:=w) rfl rfl (v:=.agg #[.int .i64 0,.int .i64 0,.int .i64 0,.int .i64 0,.int .i64 0,.int .i64 0,.bool false,.bool false]) (nx:=.value (.agg #[.int .i64 0,.int .i64 0,.int .i64 0,.int .i64 0,.int .i64 0,.int .i64 0,.bool false,.bool false])) (by simp [execOp,Act.eval,Act.put,go_sem]) (.inl rfl) (by intro c h;cases h) ?_
  have S0:=store_all (P:=Tryz.prog) (T0:=23) (v:=.agg #[.int .i64 0,.int .i64 0,.int .i64 0,.int .i64 0,.int .i64 0,.int .i64 0,.bool false,.bool false]) (by kernel_rfl) g0 (by rw [s0];rfl) (by simp [Value.cells,Value.oneCell'])
  refine opv (w1:=(w.setRow b0 #[.int .i64 0,.int .i64 0,.int .i64 0,.int .i64 0,.int .i64 0,.int .i64 0,.bool false,.bool false])) rfl rfl (v:=undef) (nx:=.skip) (by simp [execOp,Act.eval,Act.put];simp [S0,Value.cells]) (.inr ⟨rfl,rfl⟩) (by intro c h;cases h) ?_
  simp only [wpListIn]
  simp [bodyPost,results,Tryz.results62,Act.put,zeroAll,zval,Value.cells]
theorem clos_begin:ClosOk Tryz.prog 68 [[.int .i64 0,.int .i64 0,.int .i64 0,.int .i64 0,.int .i64 0,.int .i64 0,.bool false,.bool false],[.list 1 []]]:=by
 refine ⟨by kernel_rfl,fun be bs E w hl h=>?_,fun be bs m E w hm hl h hb hn=>?_⟩
 ·obtain ⟨b0,b1,rfl⟩:=two_bs hl
  have hc:w.cell? ⟨be,0,none⟩=some (.int .i64 0):=by rw [cell_of_row w _ _ _ _ (0,0) h];rfl
  refine (callsDIn_of_wp (R:=fun e w'=>e=.returned (.tuple #[])∧w'=w) Tryz.func68 rfl trivial ?_).mono (by rintro e u' w' ⟨rfl,rfl,rfl⟩;exact ⟨rfl,rfl,rfl⟩)
  simp only [ptrs,List.map_cons,List.map_nil,Tryz.ntmps68]
  refine wpIn_seq (wpIn_region_list ?_)
  refine opv (w1:=w) rfl rfl (v:=.int .i64 0) (nx:=.value (.int .i64 0)) (by simp [execOp,Act.eval,Act.put,go_sem,hc]) (.inl rfl) (by intro c h;cases h) ?_
  refine opv (w1:=w) rfl rfl (v:=.bool false) (nx:=.value (.bool false)) (by simp [execOp,Act.eval,Act.put,eqGuard,go_sem]) (.inl rfl) (by intro c h;cases h) ?_
  simp only [wpListIn,Exit.then]
  refine wpIn_cond (t:=false) (by simp [Act.eval,Act.put]) ?_
  simp only [Bool.false_eq_true,if_false]
  refine wpIn_skip ?_
  simp [bodyPost,results,Tryz.results68,Act.put]
 ·obtain ⟨b0,b1,rfl⟩:=two_bs hl
  have hc:w.cell? ⟨be,0,none⟩=some (.int .i64 m):=by rw [cell_of_row w _ _ _ _ (0,0) h];rfl
  refine (callsDIn_of_wp (R:=fun e w'=>e=.returned (.tuple #[])∧w'=zeroAll [b0,b1] [[.int .i64 0,.int .i64 0,.int .i64 0,.int .i64 0,.int .i64 0,.int .i64 0,.bool false,.bool false],[.list 1 []]] w) Tryz.func68 rfl trivial ?_).mono (by rintro e u' w' ⟨rfl,rfl,rfl⟩;exact ⟨rfl,rfl,rfl⟩)
  simp only [ptrs,List.map_cons,List.map_nil,Tryz.ntmps68]
  refine wpIn_seq (wpIn_region_list ?_)
  have hm':(m != 0)=true:=by simpa using hm
  obtain ⟨arr0,E0,g0,s0⟩:=hb 0 b0 _ rfl rfl
  obtain ⟨arr1,E1,g1,s1⟩:=hb 1 b1 _ rfl rfl
  have hne:b1≠b0:=fun e=>by subst e;simp at hn
  refine opv (w1:=w) rfl rfl (v:=.int .i64 m) (nx:=.value (.int .i64 m)) (by simp [execOp,Act.eval,Act.put,go_sem,hc]) (.inl rfl) (by intro c h;cases h) ?_
  refine opv (w1:=w) rfl rfl (v:=.bool true) (nx:=.value (.bool true)) (by simp [execOp,Act.eval,Act.put,eqGuard,go_sem,hm']) (.inl rfl) (by intro c h;cases h) ?_
  simp only [wpListIn,Exit.then]
  refine wpIn_cond (t:=true) (by simp [Act.eval,Act.put]) ?_
  simp only [if_true]
  refine wpIn_region_list ?_
  refine opv (w1:=w) rfl rfl (v:=.agg #[.int .i64 0,.int .i64 0,.int .i64 0,.int .i64 0,.int .i64 0,.int .i64 0,.bool false,.bool false]) (nx:=.value (.agg #[.int .i64 0,.int .i64 0,.int .i64 0,.int .i64 0,.int .i64 0,.int .i64 0,.bool false,.bool false])) (by simp [execOp,Act.eval,Act.put,go_sem]) (.inl rfl) (by intro c h;cases h) ?_
  have S0:=store_all (P:=Tryz.prog) (T0:=23) (v:=.agg #[.int .i64 0,.int .i64 0,.int .i64 0,.int .i64 0,.int .i64 0,.int .i64 0,.bool false,.bool false]) (by kernel_rfl) g0 (by rw [s0];rfl) (by simp [Value.cells,Value.oneCell'])
  refine opv (w1:=(w.setRow b0 #[.int .i64 0,.int .i64 0,.int .i64 0,.int .i64 0,.int .i64 0,.int .i64 0,.bool false,.bool false])) rfl rfl (v:=undef) (nx:=.skip) (by simp [execOp,Act.eval,Act.put];simp [S0,Value.cells]) (.inr ⟨rfl,rfl⟩) (by intro c h;cases h) ?_
  have S1:=store_all (P:=Tryz.prog) (w:=w.setRow b0 #[.int .i64 0,.int .i64 0,.int .i64 0,.int .i64 0,.int .i64 0,.int .i64 0,.bool false,.bool false]) (T0:=62) (v:=.slice none 0 0) (by kernel_rfl) ((setRow_other w b0 b1 _ hne).trans g1) (by rw [s1];rfl) (by simp [Value.cells,Value.oneCell'])
  refine opv (w1:=((w.setRow b0 #[.int .i64 0,.int .i64 0,.int .i64 0,.int .i64 0,.int .i64 0,.int .i64 0,.bool false,.bool false]).setRow b1 #[.slice none 0 0])) rfl rfl (v:=undef) (nx:=.skip) (by simp [execOp,Act.eval,Act.put];simp [S1,Value.cells]) (.inr ⟨rfl,rfl⟩) (by intro c h;cases h) ?_
  simp only [wpListIn]
  simp [bodyPost,results,Tryz.results68,Act.put,zeroAll,zval,Value.cells]
theorem clos_round:ClosOk Tryz.prog 46 [[.int .i64 0,.int .i64 0,.int .i64 0,.int .i64 0,.int .i64 0,.int .i64 0,.bool false,.bool false],[.int .i64 0,.int .i64 0,.int .i64 0,.list 1 [],.list 3 []]]:=by
 refine ⟨by kernel_rfl,fun be bs E w hl h=>?_,fun be bs m E w hm hl h hb hn=>?_⟩
 ·obtain ⟨b0,b1,rfl⟩:=two_bs hl
  have hc:w.cell? ⟨be,0,none⟩=some (.int .i64 0):=by rw [cell_of_row w _ _ _ _ (0,0) h];rfl
  refine (callsDIn_of_wp (R:=fun e w'=>e=.returned (.tuple #[])∧w'=w) Tryz.func46 rfl trivial ?_).mono (by rintro e u' w' ⟨rfl,rfl,rfl⟩;exact ⟨rfl,rfl,rfl⟩)
  simp only [ptrs,List.map_cons,List.map_nil,Tryz.ntmps46]
  refine wpIn_seq (wpIn_region_list ?_)
  refine opv (w1:=w) rfl rfl (v:=.int .i64 0) (nx:=.value (.int .i64 0)) (by simp [execOp,Act.eval,Act.put,go_sem,hc]) (.inl rfl) (by intro c h;cases h) ?_
  refine opv (w1:=w) rfl rfl (v:=.bool false) (nx:=.value (.bool false)) (by simp [execOp,Act.eval,Act.put,eqGuard,go_sem]) (.inl rfl) (by intro c h;cases h) ?_
  simp only [wpListIn,Exit.then]
  refine wpIn_cond (t:=false) (by simp [Act.eval,Act.put]) ?_
  simp only [Bool.false_eq_true,if_false]
  refine wpIn_skip ?_
  simp [bodyPost,results,Tryz.results46,Act.put]
 ·obtain ⟨b0,b1,rfl⟩:=two_bs hl
  have hc:w.cell? ⟨be,0,none⟩=some (.int .i64 m):=by rw [cell_of_row w _ _ _ _ (0,0) h];rfl
  refine (callsDIn_of_wp (R:=fun e w'=>e=.returned (.tuple #[])∧w'=zeroAll [b0,b1] [[.int .i64 0,.int .i64 0,.int .i64 0,.int .i64 0,.int .i64 0,.int .i64 0,.bool false,.bool false],[.int .i64 0,.int .i64 0,.int .i64 0,.list 1 [],.list 3 []]] w) Tryz.func46 rfl trivial ?_).mono (by rintro e u' w' ⟨rfl,rfl,rfl⟩;exact ⟨rfl,rfl,rfl⟩)
  simp only [ptrs,List.map_cons,List.map_nil,Tryz.ntmps46]
  refine wpIn_seq (wpIn_region_list ?_)
  have hm':(m != 0)=true:=by simpa using hm
  obtain ⟨arr0,E0,g0,s0⟩:=hb 0 b0 _ rfl rfl
  obtain ⟨arr1,E1,g1,s1⟩:=hb 1 b1 _ rfl rfl
  have hne:b1≠b0:=fun e=>by subst e;simp at hn
  refine opv (w1:=w) rfl rfl (v:=.int .i64 m) (nx:=.value (.int .i64 m)) (by simp [execOp,Act.eval,Act.put,go_sem,hc]) (.inl rfl) (by intro c h;cases h) ?_
  refine opv (w1:=w) rfl rfl (v:=.bool true) (nx:=.value (.bool true)) (by simp [execOp,Act.eval,Act.put,eqGuard,go_sem,hm']) (.inl rfl) (by intro c h;cases h) ?_
  simp only [wpListIn,Exit.then]
  refine wpIn_cond (t:=true) (by simp [Act.eval,Act.put]) ?_
  simp only [if_true]
  refine wpIn_region_list ?_
  refine opv (w1:=w) rfl rfl (v:=.agg #[.int .i64 0,.int .i64 0,.int .i64 0,.int .i64 0,.int .i64 0,.int .i64 0,.bool false,.bool false]) (nx:=.value (.agg #[.int .i64 0,.int .i64 0,.int .i64 0,.int .i64 0,.int .i64 0,.int .i64 0,.bool false,.bool false])) (by simp [execOp,Act.eval,Act.put,go_sem]) (.inl rfl) (by intro c h;cases h) ?_
  refine opv (w1:=w) rfl rfl (v:=.agg #[.int .i64 0,.int .i64 0,.int .i64 0,.slice none 0 0,.slice none 0 0]) (nx:=.value (.agg #[.int .i64 0,.int .i64 0,.int .i64 0,.slice none 0 0,.slice none 0 0])) (by simp [execOp,Act.eval,Act.put,go_sem]) (.inl rfl) (by intro c h;cases h) ?_
  have S0:=store_all (P:=Tryz.prog) (T0:=23) (v:=.agg #[.int .i64 0,.int .i64 0,.int .i64 0,.int .i64 0,.int .i64 0,.int .i64 0,.bool false,.bool false]) (by kernel_rfl) g0 (by rw [s0];rfl) (by simp [Value.cells,Value.oneCell'])
  refine opv (w1:=(w.setRow b0 #[.int .i64 0,.int .i64 0,.int .i64 0,.int .i64 0,.int .i64 0,.int .i64 0,.bool false,.bool false])) rfl rfl (v:=undef) (nx:=.skip) (by simp [execOp,Act.eval,Act.put];simp [S0,Value.cells]) (.inr ⟨rfl,rfl⟩) (by intro c h;cases h) ?_
  have S1:=store_all (P:=Tryz.prog) (w:=w.setRow b0 #[.int .i64 0,.int .i64 0,.int .i64 0,.int .i64 0,.int .i64 0,.int .i64 0,.bool false,.bool false]) (T0:=36) (v:=.agg #[.int .i64 0,.int .i64 0,.int .i64 0,.slice none 0 0,.slice none 0 0]) (by kernel_rfl) ((setRow_other w b0 b1 _ hne).trans g1) (by rw [s1];rfl) (by simp [Value.cells,Value.oneCell'])
  refine opv (w1:=((w.setRow b0 #[.int .i64 0,.int .i64 0,.int .i64 0,.int .i64 0,.int .i64 0,.int .i64 0,.bool false,.bool false]).setRow b1 #[.int .i64 0,.int .i64 0,.int .i64 0,.slice none 0 0,.slice none 0 0])) rfl rfl (v:=undef) (nx:=.skip) (by simp [execOp,Act.eval,Act.put];simp [S1,Value.cells]) (.inr ⟨rfl,rfl⟩) (by intro c h;cases h) ?_
  simp only [wpListIn]
  simp [bodyPost,results,Tryz.results46,Act.put,zeroAll,zval,Value.cells]
end Go.Proofs.YtioijcfcehhmdaaGreatDoor

namespace Go.Proofs
open Go.Shelf
def Tryz.sortEnd_ren:Go.Shelf.Ren:=⟨fun|6=>142|15=>156|14=>155|28=>166|29=>167|20=>158|21=>159|22=>160|23=>161|24=>162|25=>163|26=>164|27=>165|46=>168|47=>169|48=>170|49=>171|50=>172|57=>173|n=>n,fun|22=>170|24=>173|25=>196|3=>3|39=>180|0=>0|53=>214|55=>144|4=>4|46=>207|45=>206|50=>211|5=>5|9=>9|66=>215|70=>219|76=>221|77=>50|n=>n,fun|n=>n⟩
theorem Tryz.sortEnd:Go.Proofs.SlLaysF0.n6 Tryz.prog Tryz.sortEnd_ren:={
 mixed:=by kernel_rfl
 f6:=⟨Tryz.f142.name,by decide,Tryz.func142.trans (congrArg some (by kernel_rfl))⟩
 f14:=⟨Tryz.f155.name,by decide,Tryz.func155.trans (congrArg some (by kernel_rfl))⟩
 f15:=Tryz.func156.trans (congrArg some (by kernel_rfl))
 f20:=⟨Tryz.f158.name,by decide,Tryz.func158.trans (congrArg some (by kernel_rfl))⟩
 f21:=⟨Tryz.f159.name,by decide,Tryz.func159.trans (congrArg some (by kernel_rfl))⟩
 f22:=⟨Tryz.f160.name,by decide,Tryz.func160.trans (congrArg some (by kernel_rfl))⟩
 f23:=⟨Tryz.f161.name,by decide,Tryz.func161.trans (congrArg some (by kernel_rfl))⟩
 f24:=⟨Tryz.f162.name,by decide,Tryz.func162.trans (congrArg some (by kernel_rfl))⟩
 f25:=⟨Tryz.f163.name,by decide,Tryz.func163.trans (congrArg some (by kernel_rfl))⟩
 f26:=⟨Tryz.f164.name,by decide,Tryz.func164.trans (congrArg some (by kernel_rfl))⟩
 f27:=⟨Tryz.f165.name,by decide,Tryz.func165.trans (congrArg some (by kernel_rfl))⟩
 f28:=Tryz.func166.trans (congrArg some (by kernel_rfl))
 f29:=Tryz.func167.trans (congrArg some (by kernel_rfl))
 f46:=⟨Tryz.f168.name,by decide,Tryz.func168.trans (congrArg some (by kernel_rfl))⟩
 f47:=Tryz.func169.trans (congrArg some (by kernel_rfl))
 f48:=Tryz.func170.trans (congrArg some (by kernel_rfl))
 f49:=⟨Tryz.f171.name,by decide,Tryz.func171.trans (congrArg some (by kernel_rfl))⟩
 f50:=⟨Tryz.f172.name,by decide,Tryz.func172.trans (congrArg some (by kernel_rfl))⟩
 f57:=⟨Tryz.f173.name,by decide,Tryz.func173.trans (congrArg some (by kernel_rfl))⟩
 t0:=Tryz.underlying0
 a0:=Tryz.isAgg0
 z0:=Tryz.sizeOf0
 v0:=Tryz.zeroValue0
 t3:=Tryz.underlying3
 a3:=Tryz.isAgg3
 z3:=Tryz.sizeOf3
 v3:=Tryz.zeroValue3
 t4:=Tryz.underlying4
 a4:=Tryz.isAgg4
 z4:=Tryz.sizeOf4
 v4:=Tryz.zeroValue4
 t5:=Tryz.underlying5
 a5:=Tryz.isAgg5
 z5:=Tryz.sizeOf5
 v5:=Tryz.zeroValue5
 t9:=Tryz.underlying9
 a9:=Tryz.isAgg9
 z9:=Tryz.sizeOf9
 v9:=Tryz.zeroValue9
 t22:=Tryz.underlying170
 a22:=Tryz.isAgg170
 z22:=Tryz.sizeOf170
 v22:=Tryz.zeroValue170
 t25:=Tryz.underlying196
 a25:=Tryz.isAgg196
 z25:=Tryz.sizeOf196
 v25:=Tryz.zeroValue196
 t39:=Tryz.underlying180
 a39:=Tryz.isAgg180
 z39:=Tryz.sizeOf180
 v39:=Tryz.zeroValue180
 t45:=Tryz.underlying206
 a45:=Tryz.isAgg206
 z45:=Tryz.sizeOf206
 v45:=Tryz.zeroValue206
 t46:=Tryz.underlying207
 a46:=Tryz.isAgg207
 z46:=Tryz.sizeOf207
 v46:=Tryz.zeroValue207
 t50:=Tryz.underlying211
 a50:=Tryz.isAgg211
 z50:=Tryz.sizeOf211
 v50:=Tryz.zeroValue211
 t53:=Tryz.underlying214
 a53:=Tryz.isAgg214
 z53:=Tryz.sizeOf214
 v53:=Tryz.zeroValue214
 t55:=Tryz.underlying144
 a55:=Tryz.isAgg144
 z55:=Tryz.sizeOf144
 v55:=Tryz.zeroValue144
 t66:=Tryz.underlying215
 a66:=Tryz.isAgg215
 z66:=Tryz.sizeOf215
 v66:=Tryz.zeroValue215
 t70:=Tryz.underlying219
 a70:=Tryz.isAgg219
 z70:=Tryz.sizeOf219
 v70:=Tryz.zeroValue219
 t76:=Tryz.underlying221
 a76:=Tryz.isAgg221
 z76:=Tryz.sizeOf221
 v76:=Tryz.zeroValue221
 t77:=Tryz.underlying50
 a77:=Tryz.isAgg50
 z77:=Tryz.sizeOf50
 v77:=Tryz.zeroValue50 }
def Tryz.cmpInt_ren:Go.Shelf.Ren:=⟨fun|5=>144|7=>157|n=>n,fun|22=>3|3=>3|4=>4|n=>n,fun|n=>n⟩
theorem Tryz.cmpInt:Go.Proofs.SlLaysC2.n5 Tryz.prog Tryz.cmpInt_ren:={
 mixed:=by kernel_rfl
 f5:=⟨Tryz.f144.name,by decide,Tryz.func144.trans (congrArg some (by kernel_rfl))⟩
 f7:=⟨Tryz.f157.name,by decide,Tryz.func157.trans (congrArg some (by kernel_rfl))⟩
 t3:=Tryz.underlying3
 a3:=Tryz.isAgg3
 z3:=Tryz.sizeOf3
 v3:=Tryz.zeroValue3
 t4:=Tryz.underlying4
 a4:=Tryz.isAgg4
 z4:=Tryz.sizeOf4
 v4:=Tryz.zeroValue4
 t22:=Tryz.underlying3
 a22:=Tryz.isAgg3
 z22:=Tryz.sizeOf3
 v22:=Tryz.zeroValue3 }
end Go.Proofs
