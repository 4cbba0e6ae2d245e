/-
  Part 4 of the texts that the statement stands on.
-/
import Derived.Test.YtaaokejjmdbfaaaDoorZ3
import Derived.Sort.Defs
import Derived.Lib.BitFns
import Derived.Lib.TrailingZeros
set_option linter.all false
namespace Go.Proofs.YtaaokejjmdbfaaaDoor
abbrev Run:=(Int × Int) × List dD
def sV (out:List Run):Run:=out.getD (out.length - 1) ((0,0),[])
def vV (v:Int) (i:Nat) (x:dD) (out:List Run):List Run :=
 if 0<out.length∧(sV out).1.1=v∧(sV out).1.2+((sV out).2.length:Int)=(i:Int) then out.set (out.length - 1) ((sV out).1,(sV out).2++[x]) else out++[((v,(i:Int)),[x])]
def stR (v:Int) (A B:List dD) (out:List Run) (i:Nat):List Run:=if A[i]?=B[i]? then out else vV v i (A.getD i V.adZ) out
def vJ (v:Int) (A B:List dD) (s:Nat):Nat→List Run
 |0=>[]
 |k+1=>stR v A B (vJ v A B s k) (s+k)
def okR (v:Int) (i:Nat) (out:List Run):Prop:=∀ x∈out,x.1.1=v∧0≤x.1.2∧x.1.2+(x.2.length:Int)≤(i:Int)∧x.2≠[]
theorem F9 {out:List Run} (h:0<out.length):sV out∈out:=by
 unfold sV
 rw [List.getD_eq_getElem?_getD,List.getElem?_eq_getElem (by omega)]
 exact List.getElem_mem _
theorem abU {v:Int} {i:Nat} {x:dD} {out:List Run} (h:okR v i out):okR v (i+1) (vV v i x out)∧(vV v i x out).length≤out.length+1:=by
 unfold vV
 split
 ·rename_i hc
  obtain ⟨h0,_,h1⟩:=hc
  refine ⟨fun y hy=>?_,by simp⟩
  rcases List.mem_or_eq_of_mem_set hy with hy|rfl
  ·obtain ⟨a,b,c,d⟩:=h y hy
   exact ⟨a,b,by omega,d⟩
  ·obtain ⟨a,b,c,d⟩:=h _ (F9 h0)
   refine ⟨a,b,?_,by simp⟩
   simp only [List.length_append,List.length_cons,List.length_nil]
   omega
 ·refine ⟨fun y hy=>?_,by simp⟩
  rcases List.mem_append.1 hy with hy|hy
  ·obtain ⟨a,b,c,d⟩:=h y hy
   exact ⟨a,b,by omega,d⟩
  ·rw [List.mem_singleton.1 hy]
   exact ⟨rfl,by simp,by simp,by simp⟩
theorem CV (v:Int) (A B:List dD) (s:Nat):∀ k,okR v (s+k) (vJ v A B s k)∧(vJ v A B s k).length≤k
 |0=>⟨fun x hx=>by simp [vJ] at hx,Nat.le_refl _⟩
 |k+1=>by
  obtain ⟨h1,h2⟩:=CV v A B s k
  unfold vJ stR
  split
  ·exact ⟨fun x hx=>by
    obtain ⟨a,b,c,d⟩:=h1 x hx
    exact ⟨a,b,by omega,d⟩,by omega⟩
  ·obtain ⟨h3,h4⟩:=abU (v:=v) (i:=s+k) (x:=A.getD (s+k) V.adZ) h1
   exact ⟨h3,by omega⟩
theorem Iz {v:Int} {i:Nat} {x:dD} {out:List Run}:vV v i x out≠[]:=by
 unfold vV
 split
 ·rename_i h
  intro e
  have:=congrArg List.length e
  rw [List.length_set] at this
  rw [this] at h
  exact Nat.lt_irrefl _ h.1
 ·simp
def toW (r:Run):V.iy:=⟨r.1.1,r.1.2,r.2⟩
def Mc:List PV→Option (List pF)
 |[.int .i64 v,f,t,.agg [.int .i64 s,.int .i64 m]]=>match qg f,qg t with
  |some A,some B=>if kW v=true∧0≤s∧0≤m∧s+m≤(A.length:Int)∧s+m≤(B.length:Int)∧A.length≤1000000 then some [(.list 3 (((vJ v A B s.toNat m.toNat).map toW).map V.oz),false)] else none
  |_,_=>none
 |_=>none
theorem abV {args:List PV} {rs:List pF} (h:Mc args=some rs):∃ (v:Int) (A B:List dD) (s m:Nat),args=[.int .i64 v,V.bg A,V.bg B,.agg [.int .i64 s,.int .i64 m]]∧kW v=true∧s+m≤A.length∧s+m≤B.length∧A.length≤1000000 ∧
  rs=[(.list 3 (((vJ v A B s m).map toW).map V.oz),false)]:=by
 unfold Mc at h
 split at h
 ·rename_i v f t s m
  split at h
  ·rename_i A B hA hB
   split at h
   ·rename_i hc
    obtain ⟨c1,c2,c3,c4,c5,c6⟩:=hc
    have e1:=sG hA
    have e2:=sG hB
    subst e1 e2
    cases h
    exact ⟨v,A,B,s.toNat,m.toNat,by rw [Int.toNat_of_nonneg c2,Int.toNat_of_nonneg c3],c1,by omega,by omega,c6,rfl⟩
   ·cases h
  ·cases h
 ·cases h
theorem Yn {v:Int} {A B:List dD} {s m:Nat} (h1:kW v=true) (h2:s+m≤A.length) (h3:s+m≤B.length) (h4:A.length≤1000000) :
  Mc [.int .i64 v,V.bg A,V.bg B,.agg [.int .i64 s,.int .i64 m]]=some [(.list 3 (((vJ v A B s m).map toW).map V.oz),false)]:=by
 unfold Mc
 simp only [uF]
 rw [if_pos ⟨h1,by omega,by omega,by omega,by omega,h4⟩,Int.toNat_natCast,Int.toNat_natCast]
end Go.Proofs.YtaaokejjmdbfaaaDoor

namespace Go.Proofs.YtaaokejjmdbfaaaDoor
def IB:ah:=(.seq (.ops [.bin 106 .lss (.t 105) (.t 104)]) (.seq (.cond (.t 106) .skip (.exit 2)) (.seq (.block 3 (.seq (.ops [.bD 107 2 (.t 103) (.t 105),.load 108 (some 2) (.t 107),.alloc 20 [(.int .i64 0),(.int .i64 0)],.store none 2 (.t 20) (.t 108)]) (.seq (.ops [.aj 109 (.t 16),.aV 110 (.t 20) 1,.load 111 none (.t 110),.bin 112 .add (.t 109) (.t 111),.aC 16 (.t 112)]) (.seq (.ops [.aj 113 (.t 12),.aj 114 (.t 18),.bD 115 1 (.t 113) (.t 114),.load 116 none (.t 115),.NW 117 38 [(.t 20)],.call 118 37 [(.t 116),(.t 117)],.un 119 .not (.t 118)]) (.cond (.t 119) (.seq (.ops [.aC 6 (.c (.bool false))]) .ret) .skip))))) (.ops [.bin 120 .add (.t 105) (.c (.int .i64 1)),.aj 105 (.t 120)]))))
def IC:ah :=
(.clean [7,8,9,10,12,14,16,17,18,28,57,69,76,96,97,103,104,105] [6,7,8,9,10,12,14,16,17,28,57,69,76,96,97] (.block 2 (.loop [7,8,9,10,12,14,16,17,18,28,57,69,76,96,97,103,104,105] IB)))
def IE:ah:=(.seq (.ops [.bin 98 .lss (.t 97) (.t 96)]) (.seq (.cond (.t 98) .skip (.exit 0)) (.seq (.block 1 (.seq (.ops [.aj 99 (.t 97),.aC 18 (.t 99)]) (.seq (.ops [.aj 100 (.t 10),.aj 101 (.t 18),.bD 102 1 (.t 100) (.t 101),.load 103 none (.t 102),.len 104 (.t 103),.aj 105 (.c (.int .i64 0))])
    IC))) (.ops [.bin 121 .add (.t 97) (.c (.int .i64 1)),.aj 97 (.t 121)]))))
def IG:ah :=
(.clean [7,8,9,10,12,14,16,17,28,57,69,76,96,97] [6,7,8,9,14,16,17,28,76] (.block 0 (.loop [7,8,9,10,12,14,16,17,28,57,69,76,96,97] IE)))
def II:ah:=(.seq (.ops [.bin 125 .lss (.t 124) (.t 123)]) (.seq (.cond (.t 125) .skip (.exit 4)) (.seq (.block 5 (.seq (.ops [.bD 126 3 (.t 122) (.t 124),.load 127 (some 3) (.t 126),.alloc 22 [(.int .i64 0),(.int .i64 0),(.list 0 [])],.store none 3 (.t 22) (.t 127)]) (.ops [.aj 128 (.t 17),.aV 129 (.t 22) 2,.load 130 none (.t 129),.len 131 (.t 130),.bin 132 .add (.t 128) (.t 131),.aC 17 (.t 132)]))) (.ops [.bin 133 .add (.t 124) (.c (.int .i64 1)),.aj 124 (.t 133)]))))
def IJ:ah :=
(.clean [7,8,9,14,16,17,28,76,122,123,124] [6,7,8,9,14,16,17] (.block 4 (.loop [7,8,9,14,16,17,28,76,122,123,124] II)))
def UY:je:=⟨3,164,[.tmp 6],(.seq (.ops [.box 5 (.t 2),.aC 6 (.c (.bool false))]) (.seq (.ops [.aj 26 (.t 0),.aj 27 (.t 1),.call 28 32 [(.t 26),(.t 27)],.aC 7 (.t 28)]) (.seq (.seq (.ops [.aj 29 (.t 7),.len 30 (.t 29),.bin 31 .eql (.t 30) (.c (.int .i64 0))]) (.cond (.t 31) (.seq (.ops [.call 32 12 [],.aC 6 (.t 32)]) .ret) .skip)) (.seq (.tJ [] [] none [0,1,2,3,4,5,6,7,8,9,10,11,12,13] [.xw 33 (.t 5) (.c (.int .i64 0)) 2 1,.load 34 none (.t 33),.conv 35 .i64 (.t 34),.aj 36 (.t 7),.len 37 (.t 36),.bin 38 .rem (.t 35) (.t 37),.xw 39 (.t 5) (.c (.int .i64 1)) 2 1,.load 40 none (.t 39),.conv 41 .i64 (.t 40),.aj 42 (.t 7),.len 43 (.t 42),.bin 44 .rem (.t 41) (.t 43),.aC 8 (.t 38),.aC 9 (.t 44)]) (.seq (.tJ [] [([0,1,2,3,4,5,6,7,8,9],10)] none [11,12,13,14,15] [.aj 46 (.t 7),.aj 47 (.t 8),.bD 48 4 (.t 46) (.t 47),.aV 49 (.t 48) 3,.load 50 none (.t 49),.aj 51 (.t 7),.aj 52 (.t 9),.bD 53 4 (.t 51) (.t 52),.aV 54 (.t 53) 3,.load 55 none (.t 54),.call 56 36 [(.t 50),(.t 55)],.aj 45 (.t 56),.ext 57 (.t 45) 0,.ext 58 (.t 45) 1,.aC 10 (.t 57),.aC 11 (.t 58)]) (.seq (.tJ [] [([0,1,2,3,4,5,6,7],8)] none [9,10,11,12,13] [.aj 60 (.t 7),.aj 61 (.t 8),.bD 62 4 (.t 60) (.t 61),.load 63 (some 4) (.t 62),.aj 64 (.t 7),.aj 65 (.t 9),.bD 66 4 (.t 64) (.t 65),.load 67 (some 4) (.t 66),.call 68 13 [(.t 63),(.t 67)],.aj 59 (.t 68),.ext 69 (.t 59) 0,.ext 70 (.t 59) 1,.aC 12 (.t 69),.aC 13 (.t 70)]) (.seq (.ops [.aj 72 (.t 7),.aj 73 (.t 8),.aj 74 (.t 9),.call 75 22 [(.t 72),(.t 73),(.t 74)],.aj 71 (.t 75),.ext 76 (.t 71) 0,.ext 77 (.t 71) 1,.aC 14 (.t 76),.aC 15 (.t 77)]) (.seq (.seq (.ops [.aj 78 (.t 11),.bin 79 .neq (.t 78) (.c (.int .i64 0)),.aj 80 (.t 79),.grd 80 false (.aj 81 (.t 13)),.grd 80 false (.bin 82 .neq (.t 81) (.c (.int .i64 0))),.pick 83 (.t 80) (.c (.bool true)) (.t 82),.aj 84 (.t 83),.grd 84 false (.aj 85 (.t 15)),.grd 84 false (.bin 86 .neq (.t 85) (.c (.int .i64 0))),.pick 87 (.t 84) (.c (.bool true)) (.t 86),.aj 88 (.t 87),.grd 88 false (.aj 89 (.t 12)),.grd 88 false (.len 90 (.t 89)),.grd 88 false (.aj 91 (.t 10)),.grd 88 false (.len 92 (.t 91)),.grd 88 false (.bin 93 .neq (.t 90) (.t 92)),.pick 94 (.t 88) (.c (.bool true)) (.t 93)]) (.cond (.t 94) (.seq (.ops [.aC 6 (.c (.bool false))]) .ret) .skip)) (.seq (.ops [.aC 16 (.c (.int .i64 0)),.aC 17 (.c (.int .i64 0))]) (.seq (.seq (.ops [.aj 95 (.t 10),.len 96 (.t 95),.aj 97 (.c (.int .i64 0))])
      IG) (.seq (.seq (.ops [.aj 122 (.t 14),.len 123 (.t 122),.aj 124 (.c (.int .i64 0))])
       IJ) (.seq (.ops [.aj 135 (.t 7),.aj 136 (.t 9),.bD 137 4 (.t 135) (.t 136),.aV 138 (.t 137) 3,.load 139 none (.t 138),.aj 140 (.t 14),.call 141 39 [(.t 139),(.t 140)],.aj 134 (.t 141),.ext 142 (.t 134) 0,.ext 143 (.t 134) 1,.ext 144 (.t 134) 2,.aC 23 (.t 142),.aC 24 (.t 143),.aC 25 (.t 144)]) (.seq (.ops [.aj 145 (.t 25),.bin 146 .eql (.t 145) (.c (.int .i64 0)),.aj 147 (.t 146),.grd 147 true (.aj 148 (.t 23)),.grd 147 true (.aj 149 (.t 7)),.grd 147 true (.aj 150 (.t 8)),.grd 147 true (.bD 151 4 (.t 149) (.t 150)),.grd 147 true (.aV 152 (.t 151) 3),.grd 147 true (.load 153 none (.t 152)),.grd 147 true (.call 154 40 [(.t 148),(.t 153)]),.pick 155 (.t 147) (.t 154) (.c (.bool false)),.aj 156 (.t 155),.grd 156 true (.aj 157 (.t 16)),.grd 156 true (.aj 158 (.t 17)),.grd 156 true (.bin 159 .eql (.t 157) (.t 158)),.pick 160 (.t 156) (.t 159) (.c (.bool false)),.aj 161 (.t 160),.grd 161 true (.call 162 12 []),.pick 163 (.t 161) (.t 162) (.c (.bool false)),.aC 6 (.t 163)]) .ret)))))))))))))⟩
def aez:je:=⟨0,123,[.tmp 0],(.seq (.ops [.aC 0 (.c (.bool false))]) (.seq (.ops [.build 14 [(.int .u8 0),(.int .u8 0),(.int .u8 0),(.int .u8 0)] [(0,1,(.c (.int .u8 1))),(1,1,(.c (.int .u8 5))),(2,1,(.c (.int .u8 0))),(3,1,(.c (.int .u8 0)))],.jA 15 1 [(.c (.int .i64 0)),(.c (.int .i64 1))],.call 16 42 [(.t 14),(.t 15)],.build 17 [(.int .u8 0),(.int .u8 0),(.int .u8 0),(.int .u8 0)] [(0,1,(.c (.int .u8 0))),(1,1,(.c (.int .u8 5))),(2,1,(.c (.int .u8 6))),(3,1,(.c (.int .u8 0)))],.jA 18 1 [(.c (.int .i64 1)),(.c (.int .i64 2))],.call 19 42 [(.t 17),(.t 18)],.alloc 1 [(.int .i64 0),(.list 0 []),(.list 0 []),(.list 0 [])],.alloc 2 [(.int .i64 0),(.list 0 []),(.list 0 []),(.list 0 [])],.store none 4 (.t 1) (.t 16),.store none 4 (.t 2) (.t 19)]) (.seq (.ops [.build 20 [(.int .i64 0),(.int .i64 0),(.int .i64 0)] [(0,1,(.c (.int .i64 1))),(1,1,(.c (.int .i64 1))),(2,1,(.c (.int .i64 5)))],.build 21 [(.int .i64 0),(.int .i64 0),(.int .i64 0)] [(0,1,(.c (.int .i64 3))),(1,1,(.c (.int .i64 6))),(2,1,(.c (.int .i64 9)))],.jA 22 3 [(.t 20),(.t 21)],.aV 23 (.t 1) 1,.store none 1 (.t 23) (.t 22)]) (.seq (.ops [.build 24 [(.int .i64 0),(.int .i64 0),(.int .i64 0)] [(0,1,(.c (.int .i64 1))),(1,1,(.c (.int .i64 1))),(2,1,(.c (.int .i64 7)))],.jA 25 3 [(.t 24)],.aV 26 (.t 2) 1,.store none 1 (.t 26) (.t 25)]) (.seq (.ops [.aV 28 (.t 1) 1,.load 29 none (.t 28),.aV 30 (.t 2) 1,.load 31 none (.t 30),.call 32 18 [(.t 29),(.t 31)],.aj 27 (.t 32),.ext 33 (.t 27) 0,.ext 34 (.t 27) 1,.aC 3 (.t 33),.aC 4 (.t 34)]) (.seq (.drs [] [1,2,3,4,5,6] [.load 36 (some 4) (.t 2),.load 37 (some 4) (.t 1),.jA 38 4 [(.t 36),(.t 37)],.make 39 (.bool false) (.c (.int .i64 2)) (.c (.int .i64 2)),.call 40 20 [(.t 38),(.t 39)],.aj 35 (.t 40),.ext 41 (.t 35) 0,.ext 42 (.t 35) 1,.aC 5 (.t 41),.aC 6 (.t 42)]
    [⟨[([0,1],2),([],3),([],4)],none,[5,6,7,8,9],[0,1,2,3,4,5,6,7,8,9],false⟩,⟨[([0,1],3),([],2),([],4)],none,[5,6,7,8,9],[0,1,3,2,4,5,6,7,8,9],false⟩]) (.seq (.ops [.load 44 (some 4) (.t 1),.load 45 (some 4) (.t 2),.call 46 13 [(.t 44),(.t 45)],.aj 43 (.t 46),.ext 47 (.t 43) 0,.ext 48 (.t 43) 1,.aC 7 (.t 47),.aC 8 (.t 48)]) (.seq (.ops [.load 50 (some 4) (.t 1),.load 51 (some 4) (.t 2),.jA 52 4 [(.t 50),(.t 51)],.call 53 22 [(.t 52),(.c (.int .i64 0)),(.c (.int .i64 1))],.aj 49 (.t 53),.ext 54 (.t 49) 0,.ext 55 (.t 49) 1,.aC 9 (.t 54),.aC 10 (.t 55)]) (.seq (.ops [.load 57 (some 4) (.t 1),.load 58 (some 4) (.t 2),.jA 59 4 [(.t 57),(.t 58)],.call 60 24 [(.t 59),(.c (.int .i64 1))],.aj 56 (.t 60),.ext 61 (.t 56) 0,.ext 62 (.t 56) 1,.ext 63 (.t 56) 2,.aC 11 (.t 61),.aC 12 (.t 62),.aC 13 (.t 63)]) (.seq (.seq (.ops [.aj 64 (.t 3),.bin 65 .neq (.t 64) (.c (.int .i64 5)),.aj 66 (.t 65),.grd 66 false (.aj 67 (.t 4)),.grd 66 false (.bin 68 .neq (.t 67) (.c (.int .i64 1))),.pick 69 (.t 66) (.c (.bool true)) (.t 68),.aj 70 (.t 69),.grd 70 false (.aj 71 (.t 6)),.grd 70 false (.bin 72 .neq (.t 71) (.c (.int .i64 0))),.pick 73 (.t 70) (.c (.bool true)) (.t 72),.aj 74 (.t 73),.grd 74 false (.aj 75 (.t 5)),.grd 74 false (.bin 76 .neq (.t 75) (.c (.int .i64 1))),.pick 77 (.t 74) (.c (.bool true)) (.t 76),.aj 78 (.t 77),.grd 78 false (.aj 79 (.t 8)),.grd 78 false (.bin 80 .neq (.t 79) (.c (.int .i64 0))),.pick 81 (.t 78) (.c (.bool true)) (.t 80),.aj 82 (.t 81),.grd 82 false (.aj 83 (.t 7)),.grd 82 false (.len 84 (.t 83)),.grd 82 false (.bin 85 .neq (.t 84) (.c (.int .i64 1))),.pick 86 (.t 82) (.c (.bool true)) (.t 85),.aj 87 (.t 86),.grd 87 false (.aj 88 (.t 7)),.grd 87 false (.bD 89 1 (.t 88) (.c (.int .i64 0))),.grd 87 false (.load 90 none (.t 89)),.grd 87 false (.build 91 [(.int .i64 0),(.int .i64 0)] [(0,1,(.c (.int .i64 0))),(1,1,(.c (.int .i64 3)))]),.grd 87 false (.jA 92 2 [(.t 91)]),.grd 87 false (.call 93 43 [(.t 90),(.t 92)]),.grd 87 false (.un 94 .not (.t 93)),.pick 95 (.t 87) (.c (.bool true)) (.t 94),.aj 96 (.t 95),.grd 96 false (.aj 97 (.t 13)),.grd 96 false (.bin 98 .neq (.t 97) (.c (.int .i64 0))),.pick 99 (.t 96) (.c (.bool true)) (.t 98),.aj 100 (.t 99),.grd 100 false (.aj 101 (.t 11)),.grd 100 false (.jA 102 1 [(.c (.int .i64 1)),(.c (.int .i64 (-1)))]),.grd 100 false (.call 103 27 [(.t 101),(.t 102)]),.grd 100 false (.un 104 .not (.t 103)),.pick 105 (.t 100) (.c (.bool true)) (.t 104),.aj 106 (.t 105),.grd 106 false (.aj 107 (.t 12)),.grd 106 false (.bin 108 .neq (.t 107) (.c (.int .i64 3))),.pick 109 (.t 106) (.c (.bool true)) (.t 108)]) (.cond (.t 109) (.seq (.ops [.aC 0 (.c (.bool false))]) .ret) .skip)) (.seq (.ops [.aj 110 (.t 10),.bin 111 .eql (.t 110) (.c (.int .i64 0)),.aj 112 (.t 111),.grd 112 true (.aj 113 (.t 9)),.grd 112 true (.build 114 [(.int .u8 0),(.int .u8 0),(.int .u8 0),(.int .u8 0),(.int .u8 0),(.int .u8 0),(.int .u8 0),(.int .u8 0)] [(0,1,(.c (.int .u8 1)))]),.grd 112 true (.jA 115 8 [(.t 114)]),.grd 112 true (.build 116 [(.int .i64 0),(.int .i64 0),(.list 0 [])] [(1,1,(.c (.int .i64 0))),(2,1,(.t 115))]),.grd 112 true (.build 117 [(.int .u8 0),(.int .u8 0),(.int .u8 0),(.int .u8 0),(.int .u8 0),(.int .u8 0),(.int .u8 0),(.int .u8 0)] []),.grd 112 true (.jA 118 8 [(.t 117)]),.grd 112 true (.build 119 [(.int .i64 0),(.int .i64 0),(.list 0 [])] [(1,1,(.c (.int .i64 2))),(2,1,(.t 118))]),.grd 112 true (.jA 120 3 [(.t 116),(.t 119)]),.grd 112 true (.call 121 26 [(.t 113),(.t 120)]),.pick 122 (.t 112) (.t 121) (.c (.bool false)),.aC 0 (.t 122)]) .ret)))))))))))⟩
def AQ:ah:=(.seq (.ops [.bin 14 .lss (.t 13) (.t 12)]) (.seq (.cond (.t 14) .skip (.exit 0)) (.seq (.block 1 (.seq (.ops [.bD 15 4 (.t 11) (.t 13),.load 16 (some 4) (.t 15),.alloc 7 [(.int .i64 0),(.list 0 []),(.list 0 []),(.list 0 [])],.store none 4 (.t 7) (.t 16)]) (.seq (.ops [.load 17 (some 4) (.t 7),.call 18 15 [(.t 17)],.aC 8 (.t 18)]) (.seq (.ops [.aj 19 (.t 8),.bin 20 .neq (.t 19) (.c (.int .i64 0))]) (.cond (.t 20) (.seq (.ops [.aj 21 (.t 8),.aC 4 (.nil 1),.aC 5 (.t 21)]) .ret) .skip))))) (.ops [.bin 22 .add (.t 13) (.c (.int .i64 1)),.aj 13 (.t 22)]))))
def IK:ah :=
(.clean [2,3,11,12,13] [2,3,4,5] (.block 0 (.loop [2,3,11,12,13] AQ)))
def Yo:je:=⟨2,32,[.tmp 4,.tmp 5],(.seq (.ops [.box 2 (.t 0),.box 3 (.t 1),.aC 4 (.nil 1),.aC 5 (.c (.int .i64 0))]) (.seq (.seq (.ops [.load 9 (some 4) (.t 2),.load 10 (some 4) (.t 3),.jA 11 4 [(.t 9),(.t 10)],.len 12 (.t 11),.aj 13 (.c (.int .i64 0))])
  IK) (.seq (.seq (.ops [.aV 23 (.t 2) 3,.load 24 none (.t 23),.aV 25 (.t 3) 3,.load 26 none (.t 25),.call 27 44 [(.t 24),(.t 26)],.un 28 .not (.t 27)]) (.cond (.t 28) (.seq (.ops [.aC 4 (.nil 1),.aC 5 (.c (.int .i64 22))]) .ret) .skip)) (.seq (.ops [.load 29 (some 4) (.t 2),.load 30 (some 4) (.t 3),.call 31 45 [(.t 29),(.t 30)],.aC 4 (.t 31),.aC 5 (.c (.int .i64 0))]) .ret))))⟩
def yg:ah:=(.seq (.ops [.bin 34 .lss (.t 33) (.t 32)]) (.seq (.cond (.t 34) .skip (.exit 1)) (.seq (.block 2 (.seq (.ops [.aj 35 (.t 33),.bD 36 2 (.t 31) (.t 33),.load 37 (some 2) (.t 36),.alloc 5 [(.int .i64 0),(.list 1 [])],.aC 4 (.t 35),.store none 2 (.t 5) (.t 37)]) (.seq (.seq (.ops [.load 38 (some 2) (.t 5),.call 39 51 [(.t 38)],.aC 6 (.t 39)]) (.seq (.ops [.aj 40 (.t 6),.bin 41 .neq (.t 40) (.c (.int .i64 0))]) (.cond (.t 41) (.seq (.ops [.aj 42 (.t 6),.aC 2 (.t 42)]) .ret) .skip))) (.seq (.tJ [] [] none [0,1,2,3,4,5,6,7,8] [.aV 43 (.t 5) 0,.load 44 none (.t 43),.aV 45 (.t 1) 3,.load 46 none (.t 45),.aj 47 (.t 4),.bD 48 1 (.t 46) (.t 47),.load 49 none (.t 48),.len 50 (.t 49),.bin 51 .neq (.t 44) (.t 50)]) (.cond (.t 51) (.seq (.ops [.aC 2 (.c (.int .i64 22))]) .ret) .skip))))) (.ops [.bin 52 .add (.t 33) (.c (.int .i64 1)),.aj 33 (.t 52)]))))
def IL:ah :=
(.clean [1,31,32,33] [2] (.block 1 (.loop [1,31,32,33] yg)))
def IQ:je:=⟨1,53,[.tmp 2],(.seq (.ops [.box 1 (.t 0),.aC 2 (.c (.int .i64 0))]) (.seq (.block 0 (.seq (.ops [.aV 8 (.t 1) 0,.load 9 none (.t 8),.call 10 48 [(.t 9),(.c (.int .i64 0))],.un 11 .not (.t 10),.aC 7 (.t 11)]) (.cond (.t 7) (.seq (.ops [.aC 2 (.c (.int .i64 2))]) .ret) (.seq (.ops [.aV 13 (.t 1) 1,.load 14 none (.t 13),.call 15 49 [(.t 14)],.un 16 .not (.t 15),.aC 12 (.t 16)]) (.cond (.t 12) (.seq (.ops [.aC 2 (.c (.int .i64 3))]) .ret) .skip))))) (.seq (.seq (.ops [.aV 17 (.t 1) 3,.load 18 none (.t 17),.call 19 50 [(.t 18)],.aC 3 (.t 19)]) (.seq (.ops [.aj 20 (.t 3),.bin 21 .neq (.t 20) (.c (.int .i64 0))]) (.cond (.t 21) (.seq (.ops [.aj 22 (.t 3),.aC 2 (.t 22)]) .ret) .skip))) (.seq (.seq (.ops [.aV 23 (.t 1) 2,.load 24 none (.t 23),.len 25 (.t 24),.aV 26 (.t 1) 3,.load 27 none (.t 26),.len 28 (.t 27),.bin 29 .neq (.t 25) (.t 28)]) (.cond (.t 29) (.seq (.ops [.aC 2 (.c (.int .i64 6))]) .ret) .skip)) (.seq (.seq (.ops [.aV 30 (.t 1) 2,.load 31 none (.t 30),.len 32 (.t 31),.aj 33 (.c (.int .i64 0))])
    IL) (.seq (.ops [.aC 2 (.c (.int .i64 0))]) .ret))))))⟩
def abW:ah:=(.seq (.seq (.tJ [] [] none [0,1,2,3,4,5,6,7,8,9,10,11,12,13,14,15,16,17,18,19] [.aj 17 (.t 8),.aj 18 (.t 0),.len 19 (.t 18),.aj 20 (.t 1),.len 21 (.t 20),.mn 22 false (.t 19) (.t 21),.bin 23 .lss (.t 17) (.t 22),.aj 24 (.t 23),.grd 24 true (.aj 25 (.t 0)),.grd 24 true (.aj 26 (.t 8)),.grd 24 true (.bD 27 3 (.t 25) (.t 26)),.grd 24 true (.aV 28 (.t 27) 0),.grd 24 true (.load 29 none (.t 28)),.grd 24 true (.aj 30 (.t 1)),.grd 24 true (.aj 31 (.t 8)),.grd 24 true (.bD 32 3 (.t 30) (.t 31)),.grd 24 true (.aV 33 (.t 32) 0),.grd 24 true (.load 34 none (.t 33)),.grd 24 true (.bin 35 .eql (.t 29) (.t 34)),.pick 36 (.t 24) (.t 35) (.c (.bool false))]) (.cond (.t 36) .skip (.exit 0))) (.seq (.block 1 (.seq (.tJ [] [] none [0,1,2,3,4,5,6,7,8,9,10,11,12,13,14,15,16,17] [.aj 39 (.t 0),.aj 40 (.t 8),.bD 41 3 (.t 39) (.t 40),.aV 42 (.t 41) 2,.load 43 none (.t 42),.aj 44 (.t 1),.aj 45 (.t 8),.bD 46 3 (.t 44) (.t 45),.aV 47 (.t 46) 2,.load 48 none (.t 47),.mn 49 false (.t 43) (.t 48),.aj 50 (.t 0),.aj 51 (.t 8),.bD 52 3 (.t 50) (.t 51),.aV 53 (.t 52) 0,.load 54 none (.t 53),.aC 6 (.t 49),.aC 7 (.t 54)]) (.seq (.tJ [] [] none [0,1,2,3,4,5,6,7,8,9,10] [.aj 55 (.t 0),.aj 56 (.t 8),.bD 57 3 (.t 55) (.t 56),.aV 58 (.t 57) 2,.load 59 none (.t 58),.aj 60 (.t 1),.aj 61 (.t 8),.bD 62 3 (.t 60) (.t 61),.aV 63 (.t 62) 2,.load 64 none (.t 63),.bin 65 .neq (.t 59) (.t 64)]) (.cond (.t 65) (.exit 0) .skip)))) (.ops [.aj 37 (.t 8),.bin 38 .add (.t 37) (.c (.int .i64 1)),.aC 8 (.t 38)])))
def abX:ah :=
(.clean [0,1,6,7,8] [4,5,6,7] (.block 0 (.loop [0,1,6,7,8] abW)))
def aeA:je:=⟨2,68,[.tmp 4,.tmp 5],(.seq (.ops [.aC 4 (.c (.int .i64 0)),.aC 5 (.c (.int .i64 0))]) (.seq (.seq (.ops [.aj 9 (.t 0),.call 10 49 [(.t 9)],.un 11 .not (.t 10),.aj 12 (.t 11),.grd 12 false (.aj 13 (.t 1)),.grd 12 false (.call 14 49 [(.t 13)]),.grd 12 false (.un 15 .not (.t 14)),.pick 16 (.t 12) (.c (.bool true)) (.t 15)]) (.cond (.t 16) (.seq (.ops [.aC 4 (.c (.int .i64 0)),.aC 5 (.c (.int .i64 0))]) .ret) .skip)) (.seq (.ops [.aC 6 (.c (.int .i64 0)),.aC 7 (.c (.int .i64 0))]) (.seq (.seq (.ops [.aC 8 (.c (.int .i64 0))])
   abX) (.seq (.ops [.aj 66 (.t 6),.aj 67 (.t 7),.aC 4 (.t 66),.aC 5 (.t 67)]) .ret)))))⟩
def aeB:je:=⟨2,24,[.tmp 4,.tmp 5],(.seq (.ops [.box 3 (.t 1),.aC 4 (.c (.int .i64 0)),.aC 5 (.c (.int .i64 0))]) (.seq (.seq (.ops [.aj 8 (.t 0),.call 9 56 [(.t 8)],.aC 6 (.t 9)]) (.seq (.ops [.aj 10 (.t 6),.bin 11 .neq (.t 10) (.c (.int .i64 0))]) (.cond (.t 11) (.seq (.ops [.aj 12 (.t 6),.aC 4 (.c (.int .i64 0)),.aC 5 (.t 12)]) .ret) .skip))) (.seq (.seq (.ops [.load 13 none (.t 3),.len 14 (.t 13),.aj 15 (.t 0),.len 16 (.t 15),.bin 17 .neq (.t 14) (.t 16)]) (.cond (.t 17) (.seq (.ops [.aC 4 (.c (.int .i64 0)),.aC 5 (.c (.int .i64 6))]) .ret) .skip)) (.seq (.ops [.aj 18 (.t 0),.NW 19 58 [(.t 3)],.call 20 57 [(.t 18),(.t 19),(.c (.func 59 []))],.aC 7 (.t 20)]) (.seq (.seq (.ops [.aj 21 (.t 7),.bin 22 .lss (.t 21) (.c (.int .i64 0))]) (.cond (.t 22) (.seq (.ops [.aC 4 (.c (.int .i64 0)),.aC 5 (.c (.int .i64 17))]) .ret) .skip)) (.seq (.ops [.aj 23 (.t 7),.aC 4 (.t 23),.aC 5 (.c (.int .i64 0))]) .ret))))))⟩
def IU:ah:=(.seq (.ops [.bin 53 .lss (.t 52) (.t 51)]) (.seq (.cond (.t 53) .skip (.exit 2)) (.seq (.block 3 (.seq (.ops [.bD 54 2 (.t 50) (.t 52),.load 55 (some 2) (.t 54),.alloc 15 [(.int .i64 0),(.int .i64 0)],.store none 2 (.t 15) (.t 55)]) (.tJ [] [([0,1,2,3,4,5,6,7,8,9,10,11,12],13)] (some ([],[],14,[])) [15] [.aj 56 (.t 11),.aj 57 (.t 12),.aV 58 (.t 9) 3,.load 59 none (.t 58),.aj 60 (.t 12),.bD 61 1 (.t 59) (.t 60),.load 62 none (.t 61),.aV 63 (.t 10) 3,.load 64 none (.t 63),.aj 65 (.t 12),.bD 66 1 (.t 64) (.t 65),.load 67 none (.t 66),.load 68 (some 2) (.t 15),.call 69 64 [(.t 57),(.t 62),(.t 67),(.t 68)],.app 70 3 (.t 56) (.t 69),.aC 11 (.t 70)]))) (.ops [.bin 71 .add (.t 52) (.c (.int .i64 1)),.aj 52 (.t 71)]))))
def IV:ah :=
(.clean [9,10,11,12,13,43,44,45,49,50,51,52,70] [6,7,9,10,11,43,44,45,70] (.block 2 (.loop [9,10,11,12,13,43,44,45,49,50,51,52,70] IU)))
def IW:ah:=(.seq (.ops [.bin 46 .lss (.t 45) (.t 44)]) (.seq (.cond (.t 46) .skip (.exit 0)) (.seq (.block 1 (.seq (.ops [.aj 47 (.t 45),.bD 48 1 (.t 43) (.t 45),.load 49 none (.t 48),.aC 12 (.t 47),.aC 13 (.t 49)]) (.seq (.ops [.aj 50 (.t 13),.len 51 (.t 50),.aj 52 (.c (.int .i64 0))])
    IV))) (.ops [.bin 72 .add (.t 45) (.c (.int .i64 1)),.aj 45 (.t 72)]))))
def IX:ah :=
(.clean [9,10,11,43,44,45,70] [6,7,11] (.block 0 (.loop [9,10,11,43,44,45,70] IW)))
def Yp:je:=⟨3,74,[.tmp 6,.tmp 7],(.seq (.ops [.aC 6 (.nil 3),.aC 7 (.c (.int .i64 0))]) (.seq (.seq (.ops [.aj 16 (.t 0),.call 17 56 [(.t 16)],.aC 8 (.t 17)]) (.seq (.ops [.aj 18 (.t 8),.bin 19 .neq (.t 18) (.c (.int .i64 0))]) (.cond (.t 19) (.seq (.ops [.aj 20 (.t 8),.aC 6 (.nil 3),.aC 7 (.t 20)]) .ret) .skip))) (.seq (.seq (.ops [.aj 21 (.t 1),.aj 22 (.t 2),.mn 23 false (.t 21) (.t 22),.bin 24 .lss (.t 23) (.c (.int .i64 0)),.aj 25 (.t 24),.grd 25 false (.aj 26 (.t 1)),.grd 25 false (.aj 27 (.t 2)),.grd 25 false (.mn 28 true (.t 26) (.t 27)),.grd 25 false (.aj 29 (.t 0)),.grd 25 false (.len 30 (.t 29)),.grd 25 false (.bin 31 .geq (.t 28) (.t 30)),.pick 32 (.t 25) (.c (.bool true)) (.t 31)]) (.cond (.t 32) (.seq (.ops [.aC 6 (.nil 3),.aC 7 (.c (.int .i64 7))]) .ret) .skip)) (.seq (.drs [(.t 39)] [9,10,70] [.aj 33 (.t 0),.aj 34 (.t 1),.bD 35 4 (.t 33) (.t 34),.load 36 (some 4) (.t 35),.aj 37 (.t 0),.aj 38 (.t 2),.bD 39 4 (.t 37) (.t 38),.NV 40 (some 4) (.t 39),.alloc 9 [(.int .i64 0),(.list 0 []),(.list 0 []),(.list 0 [])],.alloc 10 [(.int .i64 0),(.list 0 []),(.list 0 []),(.list 0 [])],.store none 4 (.t 9) (.t 36),.store none 4 (.t 10) (.t 40)]
   [⟨[([0,1,2,3,4,5,6,7],8),([],9)],(some ([],[],10,[([],11)])),[],[0,1,2,3,4,5,6,7,8,9,10,11],false⟩,⟨[([0,1,2,3,4,5,6,7],9),([],8)],(some ([],[],10,[([],11)])),[],[0,1,2,3,4,5,6,7,9,8,10,11],true⟩]) (.seq (.ops [.aC 11 (.nil 3)]) (.seq (.seq (.ops [.load 41 (some 4) (.t 9),.load 42 (some 4) (.t 10),.call 43 45 [(.t 41),(.t 42)],.len 44 (.t 43),.aj 45 (.c (.int .i64 0))])
    IX) (.seq (.ops [.aj 73 (.t 11),.aC 6 (.t 73),.aC 7 (.c (.int .i64 0))]) .ret)))))))⟩
def abY:ah:=(.seq (.ops [.bin 41 .lss (.t 40) (.t 39)]) (.seq (.cond (.t 41) .skip (.exit 0)) (.seq (.block 1 (.seq (.lend 9 [0] [.aj 42 (.t 0),.aj 43 (.t 9),.call 44 68 [(.t 42),(.t 43)],.call 45 67 [(.t 44)],.call 46 66 [(.t 45),(.c (.func 69 []))],.alloc 11 [(.int .i64 0),(.int .i64 0),(.int .i64 0)],.store none 3 (.t 11) (.t 46)]) (.seq (.tJ [(.t 11)] [] (some ([0,1,2,6,7,8],[3,4,5],9,[([10],11)])) [] [.aj 47 (.t 8),.aV 48 (.t 11) 1,.load 49 none (.t 48),.aV 53 (.t 11) 2,.load 54 none (.t 53),.bD 55 1 (.t 47) (.t 49),.aj 50 (.t 9),.aV 51 (.t 11) 1,.NV 52 none (.t 51),.store none 1 (.t 55) (.t 54),.bD 56 1 (.t 50) (.t 52),.store none 1 (.t 56) (.c (.bool true))]) (.ops [.aj 57 (.t 10),.aV 58 (.t 11) 0,.load 59 none (.t 58),.bin 60 .add (.t 57) (.t 59),.aC 10 (.t 60)])))) (.ops [.bin 61 .add (.t 40) (.c (.int .i64 1)),.aj 40 (.t 61)]))))
def abZ:ah :=
(.clean [0,8,9,10,27,30,39,40] [4,5,6,8,10] (.block 0 (.loop [0,8,9,10,27,30,39,40] abY)))
def aeC:je:=⟨2,64,[.tmp 4,.tmp 5,.tmp 6],(.seq (.ops [.aC 4 (.nil 1),.aC 5 (.c (.int .i64 0)),.aC 6 (.c (.int .i64 0))]) (.seq (.seq (.ops [.aj 12 (.t 0),.call 13 56 [(.t 12)],.aC 7 (.t 13)]) (.seq (.ops [.aj 14 (.t 7),.bin 15 .neq (.t 14) (.c (.int .i64 0))]) (.cond (.t 15) (.seq (.ops [.aj 16 (.t 7),.aC 4 (.nil 1),.aC 5 (.c (.int .i64 0)),.aC 6 (.t 16)]) .ret) .skip))) (.seq (.seq (.ops [.aj 17 (.t 1),.bin 18 .lss (.t 17) (.c (.int .i64 0)),.aj 19 (.t 18),.grd 19 false (.aj 20 (.t 1)),.grd 19 false (.aj 21 (.t 0)),.grd 19 false (.len 22 (.t 21)),.grd 19 false (.bin 23 .geq (.t 20) (.t 22)),.pick 24 (.t 19) (.c (.bool true)) (.t 23)]) (.cond (.t 24) (.seq (.ops [.aC 4 (.nil 1),.aC 5 (.c (.int .i64 0)),.aC 6 (.c (.int .i64 7))]) .ret) .skip)) (.seq (.drs [] [0,1,8,9,27,30] [.aj 25 (.t 0),.len 26 (.t 25),.make 27 (.int .i64 0) (.t 26) (.t 26),.aj 28 (.t 0),.len 29 (.t 28),.make 30 (.bool false) (.t 29) (.t 29),.aC 8 (.t 27),.aC 9 (.t 30)]
   [⟨[([0,1,3,4],2),([6],5)],none,[7],[0,1,3,4,2,6,5,7],false⟩,⟨[([0,1,3,4],5),([],2)],none,[6,7],[0,1,3,4,5,2,6,7],false⟩]) (.seq (.ops [.aj 31 (.t 8),.aj 32 (.t 1),.aj 33 (.t 9),.aj 34 (.t 1),.bD 35 1 (.t 31) (.t 32),.store none 1 (.t 35) (.c (.int .i64 (-1))),.bD 36 1 (.t 33) (.t 34),.store none 1 (.t 36) (.c (.bool true))]) (.seq (.ops [.aC 10 (.c (.int .i64 0))]) (.seq (.seq (.ops [.aj 37 (.t 0),.len 38 (.t 37),.bin 39 .sub (.t 38) (.c (.int .i64 1)),.aj 40 (.c (.int .i64 0))])
     abZ) (.seq (.ops [.aj 62 (.t 8),.aj 63 (.t 10),.aC 4 (.t 62),.aC 5 (.t 63),.aC 6 (.c (.int .i64 0))]) .ret))))))))⟩
def ab1:ah:=(.seq (.seq (.ops [.aj 11 (.t 5),.aj 12 (.t 0),.len 13 (.t 12),.bin 14 .lss (.t 11) (.t 13)]) (.cond (.t 14) .skip (.exit 0))) (.seq (.block 1 (.seq (.tJ [] [([0,1,2,3,4,5,6,7,8,9,10,11,12,13,14,15,16,17,18,19,20,21,22,23,24,25,26,27,28,29,30,31,32,33,34],35)] none [36,37] [.aj 17 (.t 0),.aj 18 (.t 5),.bD 19 3 (.t 17) (.t 18),.aV 20 (.t 19) 0,.load 21 none (.t 20),.aj 22 (.t 1),.aj 23 (.t 5),.bD 24 3 (.t 22) (.t 23),.aV 25 (.t 24) 0,.load 26 none (.t 25),.bin 27 .neq (.t 21) (.t 26),.aj 28 (.t 27),.grd 28 false (.aj 29 (.t 0)),.grd 28 false (.aj 30 (.t 5)),.grd 28 false (.bD 31 3 (.t 29) (.t 30)),.grd 28 false (.aV 32 (.t 31) 1),.grd 28 false (.load 33 none (.t 32)),.grd 28 false (.aj 34 (.t 1)),.grd 28 false (.aj 35 (.t 5)),.grd 28 false (.bD 36 3 (.t 34) (.t 35)),.grd 28 false (.aV 37 (.t 36) 1),.grd 28 false (.load 38 none (.t 37)),.grd 28 false (.bin 39 .neq (.t 33) (.t 38)),.pick 40 (.t 28) (.c (.bool true)) (.t 39),.aj 41 (.t 40),.grd 41 false (.aj 42 (.t 0)),.grd 41 false (.aj 43 (.t 5)),.grd 41 false (.bD 44 3 (.t 42) (.t 43)),.grd 41 false (.aV 45 (.t 44) 2),.grd 41 false (.load 46 none (.t 45)),.grd 41 false (.aj 47 (.t 1)),.grd 41 false (.aj 48 (.t 5)),.grd 41 false (.bD 49 3 (.t 47) (.t 48)),.grd 41 false (.aV 50 (.t 49) 2),.grd 41 false (.load 51 none (.t 50)),.grd 41 false (.call 52 70 [(.t 46),(.t 51)]),.grd 41 false (.un 53 .not (.t 52)),.pick 54 (.t 41) (.c (.bool true)) (.t 53)]) (.cond (.t 54) (.seq (.ops [.aC 4 (.c (.bool false))]) .ret) .skip))) (.ops [.aj 15 (.t 5),.bin 16 .add (.t 15) (.c (.int .i64 1)),.aC 5 (.t 16)])))
def ab2:ah :=
(.clean [0,1,5] [4] (.block 0 (.loop [0,1,5] ab1)))
def aeD:je:=⟨2,55,[.tmp 4],(.seq (.ops [.aC 4 (.c (.bool false))]) (.seq (.seq (.ops [.aj 6 (.t 0),.len 7 (.t 6),.aj 8 (.t 1),.len 9 (.t 8),.bin 10 .neq (.t 7) (.t 9)]) (.cond (.t 10) (.seq (.ops [.aC 4 (.c (.bool false))]) .ret) .skip)) (.seq (.seq (.ops [.aC 5 (.c (.int .i64 0))])
   ab2) (.seq (.ops [.aC 4 (.c (.bool true))]) .ret))))⟩
def IY:ah:=(.seq (.ops [.bin 14 .lss (.t 13) (.t 12)]) (.seq (.cond (.t 14) .skip (.exit 0)) (.seq (.block 1 (.seq (.ops [.aj 15 (.t 13),.aC 5 (.t 15)]) (.seq (.tJ [] [] none [0,1,2,3,4,5,6,7,8] [.aj 16 (.t 0),.aj 17 (.t 5),.bD 18 1 (.t 16) (.t 17),.load 19 none (.t 18),.aj 20 (.t 1),.aj 21 (.t 5),.bD 22 1 (.t 20) (.t 21),.load 23 none (.t 22),.bin 24 .neq (.t 19) (.t 23)]) (.cond (.t 24) (.seq (.ops [.aC 4 (.c (.bool false))]) .ret) .skip)))) (.ops [.bin 25 .add (.t 13) (.c (.int .i64 1)),.aj 13 (.t 25)]))))
def IZ:ah :=
(.clean [0,1,12,13] [4] (.block 0 (.loop [0,1,12,13] IY)))
def Yq:je:=⟨2,26,[.tmp 4],(.seq (.ops [.aC 4 (.c (.bool false))]) (.seq (.seq (.ops [.aj 6 (.t 0),.len 7 (.t 6),.aj 8 (.t 1),.len 9 (.t 8),.bin 10 .neq (.t 7) (.t 9)]) (.cond (.t 10) (.seq (.ops [.aC 4 (.c (.bool false))]) .ret) .skip)) (.seq (.seq (.ops [.aj 11 (.t 0),.len 12 (.t 11),.aj 13 (.c (.int .i64 0))])
   IZ) (.seq (.ops [.aC 4 (.c (.bool true))]) .ret))))⟩
def AU:ah:=(.seq (.ops [.bin 68 .lss (.t 67) (.t 66)]) (.seq (.cond (.t 68) .skip (.exit 4)) (.seq (.block 5 (.seq (.ops [.bD 69 3 (.t 65) (.t 67),.load 70 (some 3) (.t 69),.alloc 15 [(.int .i64 0),(.int .i64 0),(.list 0 [])],.store none 3 (.t 15) (.t 70)]) (.seq (.ops [.aV 71 (.t 15) 0,.load 72 none (.t 71),.aj 73 (.t 12),.bin 74 .eql (.t 72) (.t 73)]) (.cond (.t 74) (.ops [.aj 75 (.t 13),.aV 76 (.t 15) 1,.load 77 none (.t 76),.aV 78 (.t 15) 2,.load 79 none (.t 78),.len 80 (.t 79),.build 81 [(.int .i64 0),(.int .i64 0)] [(0,1,(.t 77)),(1,1,(.t 80))],.jA 82 2 [(.t 81)],.app 83 2 (.t 75) (.t 82),.aC 13 (.t 83)]) .skip)))) (.ops [.bin 84 .add (.t 67) (.c (.int .i64 1)),.aj 67 (.t 84)]))))
def I4:ah :=
(.clean [0,1,5,7,8,11,12,13,36,37,38,42,47,61,62,65,66,67,83,105] [0,1,4,5,7,8,11,12,13,36,37,38,42,47,61,62,83,105] (.block 4 (.loop [0,1,5,7,8,11,12,13,36,37,38,42,47,61,62,65,66,67,83,105] AU)))
def AX:ah:=(.seq (.ops [.bin 63 .lss (.t 62) (.t 61)]) (.seq (.cond (.t 63) .skip (.exit 2)) (.seq (.block 3 (.seq (.ops [.aj 64 (.t 62),.aC 12 (.t 64)]) (.seq (.ops [.aC 13 (.nil 2)]) (.seq (.seq (.ops [.aj 65 (.t 7),.len 66 (.t 65),.aj 67 (.c (.int .i64 0))])
     I4) (.seq (.ops [.aj 86 (.t 8),.aj 87 (.t 12),.bD 88 1 (.t 86) (.t 87),.load 89 none (.t 88),.len 90 (.t 89),.aj 91 (.t 13),.call 92 71 [(.t 90),(.t 91)],.aj 85 (.t 92),.ext 93 (.t 85) 0,.ext 94 (.t 85) 1,.alloc 16 [(.int .i64 0),(.list 1 [])],.store none 2 (.t 16) (.t 93),.aC 17 (.t 94)]) (.ops [.aV 95 (.t 11) 2,.load 96 none (.t 95),.load 97 (some 2) (.t 16),.jA 98 2 [(.t 97)],.app 99 2 (.t 96) (.t 98),.aV 100 (.t 11) 2,.store none 1 (.t 100) (.t 99)])))))) (.ops [.bin 101 .add (.t 62) (.c (.int .i64 1)),.aj 62 (.t 101)]))))
def I5:ah :=
(.clean [0,1,5,7,8,11,36,37,38,42,47,61,62,83,105] [0,1,4,5,11,36,37,38,83,105] (.block 2 (.loop [0,1,5,7,8,11,36,37,38,42,47,61,62,83,105] AX)))
def yh:ah:=(.seq (.ops [.bin 39 .lss (.t 38) (.t 37)]) (.seq (.cond (.t 39) .skip (.exit 0)) (.seq (.block 1 (.seq (.ops [.aj 40 (.t 38),.bD 41 1 (.t 36) (.t 38),.load 42 none (.t 41),.aC 6 (.t 40),.aC 7 (.t 42)]) (.seq (.ops [.aj 44 (.t 0),.aj 45 (.t 7),.call 46 39 [(.t 44),(.t 45)],.aj 43 (.t 46),.ext 47 (.t 43) 0,.ext 48 (.t 43) 1,.ext 49 (.t 43) 2,.aC 8 (.t 47),.aC 9 (.t 48),.aC 10 (.t 49)]) (.seq (.seq (.ops [.aj 50 (.t 10),.bin 51 .neq (.t 50) (.c (.int .i64 0)),.aj 52 (.t 51),.grd 52 false (.aj 53 (.t 7)),.grd 52 false (.len 54 (.t 53)),.grd 52 false (.bin 55 .gtr (.t 54) (.c (.int .i64 20))),.pick 56 (.t 52) (.c (.bool true)) (.t 55)]) (.cond (.t 56) (.seq (.ops [.aC 4 (.nil 4)]) .ret) .skip)) (.seq (.ops [.aj 57 (.t 6),.aj 58 (.t 8),.build 59 [(.int .i64 0),(.list 3 []),(.kD 2),(.list 0 [])] [(0,1,(.t 57)),(3,1,(.t 58))],.alloc 11 [(.int .i64 0),(.list 0 []),(.list 0 []),(.list 0 [])],.store none 4 (.t 11) (.t 59)]) (.seq (.seq (.ops [.aj 60 (.t 8),.len 61 (.t 60),.aj 62 (.c (.int .i64 0))])
      I5) (.ops [.aj 102 (.t 5),.load 103 (some 4) (.t 11),.jA 104 4 [(.t 103)],.app 105 4 (.t 102) (.t 104),.aC 5 (.t 105)]))))))) (.ops [.bin 106 .add (.t 38) (.c (.int .i64 1)),.aj 38 (.t 106)]))))
def I7:ah :=
(.clean [0,1,5,36,37,38,83,105] [4,5] (.block 0 (.loop [0,1,5,36,37,38,83,105] yh)))
def EK:je:=⟨2,108,[.tmp 4],(.seq (.ops [.aC 4 (.nil 4)]) (.seq (.seq (.ops [.aj 18 (.t 0),.call 19 41 [(.t 18)],.un 20 .not (.t 19),.aj 21 (.t 20),.grd 21 false (.aj 22 (.t 0)),.grd 21 false (.call 23 50 [(.t 22)]),.grd 21 false (.bin 24 .neq (.t 23) (.c (.int .i64 0))),.pick 25 (.t 21) (.c (.bool true)) (.t 24),.aj 26 (.t 25),.grd 26 false (.aj 27 (.t 1)),.grd 26 false (.len 28 (.t 27)),.grd 26 false (.bin 29 .lss (.t 28) (.c (.int .i64 1))),.pick 30 (.t 26) (.c (.bool true)) (.t 29),.aj 31 (.t 30),.grd 31 false (.aj 32 (.t 1)),.grd 31 false (.len 33 (.t 32)),.grd 31 false (.bin 34 .gtr (.t 33) (.c (.int .i64 4))),.pick 35 (.t 31) (.c (.bool true)) (.t 34)]) (.cond (.t 35) (.seq (.ops [.aC 4 (.nil 4)]) .ret) .skip)) (.seq (.ops [.aC 5 (.nil 4)]) (.seq (.seq (.ops [.aj 36 (.t 1),.len 37 (.t 36),.aj 38 (.c (.int .i64 0))])
   I7) (.seq (.ops [.aj 107 (.t 5),.aC 4 (.t 107)]) .ret)))))⟩
def I8:ah:=(.seq (.ops [.bin 18 .lss (.t 17) (.t 16)]) (.seq (.cond (.t 18) .skip (.exit 0)) (.seq (.block 1 (.seq (.ops [.aj 19 (.t 17),.aC 8 (.t 19)]) (.tJ [] [([0,1,2,3,4,5,6,7,8],9),([],10)] (some ([],[],11,[])) [12] [.aj 20 (.t 7),.aj 21 (.t 0),.aj 22 (.t 8),.bD 23 1 (.t 21) (.t 22),.load 24 none (.t 23),.aj 25 (.t 1),.aj 26 (.t 8),.bD 27 1 (.t 25) (.t 26),.load 28 none (.t 27),.call 29 73 [(.t 24),(.t 28)],.jA 30 1 [(.t 29)],.app 31 1 (.t 20) (.t 30),.aC 7 (.t 31)]))) (.ops [.bin 32 .add (.t 17) (.c (.int .i64 1)),.aj 17 (.t 32)]))))
def I9:ah :=
(.clean [0,1,7,16,17,31] [4,5,7] (.block 0 (.loop [0,1,7,16,17,31] I8)))
def UZ:je:=⟨2,34,[.tmp 4,.tmp 5],(.seq (.ops [.aC 4 (.nil 1),.aC 5 (.c (.int .i64 0))]) (.seq (.seq (.ops [.aj 9 (.t 0),.aj 10 (.t 1),.call 11 72 [(.t 9),(.t 10)],.aC 6 (.t 11)]) (.seq (.ops [.aj 12 (.t 6),.bin 13 .neq (.t 12) (.c (.int .i64 0))]) (.cond (.t 13) (.seq (.ops [.aj 14 (.t 6),.aC 4 (.nil 1),.aC 5 (.t 14)]) .ret) .skip))) (.seq (.ops [.aC 7 (.nil 1)]) (.seq (.seq (.ops [.aj 15 (.t 0),.len 16 (.t 15),.aj 17 (.c (.int .i64 0))])
   I9) (.seq (.ops [.aj 33 (.t 7),.aC 4 (.t 33),.aC 5 (.c (.int .i64 0))]) .ret)))))⟩
def Yr:je:=⟨2,9,[.tmp 4],(.seq (.ops [.aC 4 (.c (.bool false))]) (.seq (.ops [.aj 5 (.t 0),.aj 6 (.t 1),.call 7 74 [(.t 5),(.t 6)],.bin 8 .geq (.t 7) (.c (.int .i64 0)),.aC 4 (.t 8)]) .ret))⟩
def Qd:je:=⟨2,22,[.tmp 3],(.seq (.ops [.box 2 (.t 0),.aC 3 (.c (.bool false))]) (.seq (.ops [.aV 4 (.t 2) 0,.load 5 none (.t 4),.aV 6 (.t 1) 0,.load 7 none (.t 6),.bin 8 .leq (.t 5) (.t 7),.aj 9 (.t 8),.grd 9 true (.aV 10 (.t 1) 0),.grd 9 true (.load 11 none (.t 10)),.grd 9 true (.aV 12 (.t 1) 1),.grd 9 true (.load 13 none (.t 12)),.grd 9 true (.bin 14 .add (.t 11) (.t 13)),.grd 9 true (.aV 15 (.t 2) 0),.grd 9 true (.load 16 none (.t 15)),.grd 9 true (.aV 17 (.t 2) 1),.grd 9 true (.load 18 none (.t 17)),.grd 9 true (.bin 19 .add (.t 16) (.t 18)),.grd 9 true (.bin 20 .leq (.t 14) (.t 19)),.pick 21 (.t 9) (.t 20) (.c (.bool false)),.aC 3 (.t 21)]) .ret))⟩
def Yt:je:=⟨2,8,[.tmp 4],(.seq (.ops [.aC 4 (.c (.bool false))]) (.seq (.ops [.aj 5 (.t 0),.aj 6 (.t 1),.call 7 77 [(.t 5),(.t 6),(.c (.func 78 []))],.aC 4 (.t 7)]) .ret))⟩
def Ja:ah:=(.seq (.seq (.ops [.aj 7 (.t 3),.aj 8 (.t 0),.len 9 (.t 8),.bin 10 .lss (.t 7) (.t 9)]) (.cond (.t 10) .skip (.exit 0))) (.seq (.block 1 (.seq (.ops [.aj 13 (.t 0),.aj 14 (.t 3),.bD 15 1 (.t 13) (.t 14),.load 16 none (.t 15),.len 17 (.t 16),.bin 18 .gtr (.t 17) (.c (.int .i64 24))]) (.cond (.t 18) (.seq (.ops [.aC 2 (.c (.bool false))]) .ret) .skip))) (.ops [.aj 11 (.t 3),.bin 12 .add (.t 11) (.c (.int .i64 1)),.aC 3 (.t 12)])))
def Jb:ah :=
(.clean [0,3] [2] (.block 0 (.loop [0,3] Ja)))
def Yu:je:=⟨1,19,[.tmp 2],(.seq (.ops [.aC 2 (.c (.bool false))]) (.seq (.seq (.ops [.aj 4 (.t 0),.len 5 (.t 4),.bin 6 .gtr (.t 5) (.c (.int .i64 9))]) (.cond (.t 6) (.seq (.ops [.aC 2 (.c (.bool false))]) .ret) .skip)) (.seq (.seq (.ops [.aC 3 (.c (.int .i64 0))])
   Jb) (.seq (.ops [.aC 2 (.c (.bool true))]) .ret))))⟩
def ab3:ah:=(.seq (.ops [.bin 14 .lss (.t 13) (.t 12)]) (.seq (.cond (.t 14) .skip (.exit 0)) (.seq (.block 1 (.seq (.ops [.aj 15 (.t 13),.aC 5 (.t 15)]) (.seq (.tJ [] [] none [0,1,2,3,4,5,6,7,8] [.aj 16 (.t 0),.aj 17 (.t 5),.bD 18 2 (.t 16) (.t 17),.load 19 (some 2) (.t 18),.aj 20 (.t 1),.aj 21 (.t 5),.bD 22 2 (.t 20) (.t 21),.load 23 (some 2) (.t 22),.NQ 24 true 2 (.t 19) (.t 23)]) (.cond (.t 24) (.seq (.ops [.aC 4 (.c (.bool false))]) .ret) .skip)))) (.ops [.bin 25 .add (.t 13) (.c (.int .i64 1)),.aj 13 (.t 25)]))))
def ab4:ah :=
(.clean [0,1,12,13] [4] (.block 0 (.loop [0,1,12,13] ab3)))
def aeE:je:=⟨2,26,[.tmp 4],(.seq (.ops [.aC 4 (.c (.bool false))]) (.seq (.seq (.ops [.aj 6 (.t 0),.len 7 (.t 6),.aj 8 (.t 1),.len 9 (.t 8),.bin 10 .neq (.t 7) (.t 9)]) (.cond (.t 10) (.seq (.ops [.aC 4 (.c (.bool false))]) .ret) .skip)) (.seq (.seq (.ops [.aj 11 (.t 0),.len 12 (.t 11),.aj 13 (.c (.int .i64 0))])
   ab4) (.seq (.ops [.aC 4 (.c (.bool true))]) .ret))))⟩
def Yv:je:=⟨2,8,[.tmp 4],(.seq (.ops [.aC 4 (.c (.bool false))]) (.seq (.ops [.aj 5 (.t 0),.aj 6 (.t 1),.call 7 77 [(.t 5),(.t 6),(.c (.func 79 []))],.aC 4 (.t 7)]) .ret))⟩
def Jc:ah:=(.seq (.ops [.bin 16 .lss (.t 15) (.t 14)]) (.seq (.cond (.t 16) .skip (.exit 0)) (.seq (.block 1 (.seq (.ops [.aj 17 (.t 15),.aC 6 (.t 17)]) (.seq (.drs [] [2,3,5,6,7,12,14,15] [.aV 19 (.t 2) 2,.load 20 none (.t 19),.aj 21 (.t 6),.bD 22 2 (.t 20) (.t 21),.load 23 (some 2) (.t 22),.aV 24 (.t 3) 2,.load 25 none (.t 24),.aj 26 (.t 6),.bD 27 2 (.t 25) (.t 26),.load 28 (some 2) (.t 27),.call 29 80 [(.t 23),(.t 28)],.aj 18 (.t 29),.ext 30 (.t 18) 0,.ext 31 (.t 18) 1,.alloc 7 [(.int .i64 0),(.list 1 [])],.store none 2 (.t 7) (.t 30),.aC 8 (.t 31)]
    [⟨[([0,1,2,3,4,5,6,7,8,9],10),([11,12,13],14)],(some ([],[],15,[])),[16],[0,1,2,3,4,5,6,7,8,9,10,11,12,13,14,15,16],false⟩,⟨[([0,1,2,3,4,5,6,7,8,9],14),([],10)],(some ([11,12],[13],15,[])),[16],[0,1,2,3,4,5,6,7,8,9,14,10,11,12,13,15,16],false⟩]) (.ops [.aj 32 (.t 5),.aj 33 (.t 6),.load 34 (some 2) (.t 7),.call 35 81 [(.t 34)],.bD 36 1 (.t 32) (.t 33),.store none 1 (.t 36) (.t 35)])))) (.ops [.bin 37 .add (.t 15) (.c (.int .i64 1)),.aj 15 (.t 37)]))))
def Jd:ah :=
(.clean [2,3,5,12,14,15] [4,5] (.block 0 (.loop [2,3,5,12,14,15] Jc)))
def Yw:je:=⟨2,39,[.tmp 4],(.seq (.ops [.box 2 (.t 0),.box 3 (.t 1),.aC 4 (.nil 1)]) (.seq (.ops [.aV 9 (.t 2) 2,.load 10 none (.t 9),.len 11 (.t 10),.make 12 (.list 0 []) (.t 11) (.t 11),.aC 5 (.t 12)]) (.seq (.seq (.ops [.aj 13 (.t 5),.len 14 (.t 13),.aj 15 (.c (.int .i64 0))])
   Jd) (.seq (.ops [.aj 38 (.t 5),.aC 4 (.t 38)]) .ret))))⟩
def Yx:je:=⟨2,12,[.tmp 4],(.seq (.ops [.aC 4 (.c (.bool false))]) (.seq (.ops [.aj 5 (.t 0),.aj 6 (.t 1),.bin 7 .geq (.t 5) (.t 6),.aj 8 (.t 7),.grd 8 true (.aj 9 (.t 0)),.grd 8 true (.bin 10 .leq (.t 9) (.c (.int .i64 1073741824))),.pick 11 (.t 8) (.t 10) (.c (.bool false)),.aC 4 (.t 11)]) .ret))⟩
def ql:ah:=(.seq (.ops [.bin 10 .lss (.t 9) (.t 8)]) (.seq (.cond (.t 10) .skip (.exit 0)) (.seq (.block 1 (.seq (.ops [.bD 11 3 (.t 7) (.t 9),.load 12 (some 3) (.t 11),.alloc 5 [(.int .i64 0),(.int .i64 0),(.int .i64 0)],.store none 3 (.t 5) (.t 12)]) (.seq (.seq (.ops [.aV 13 (.t 5) 1,.load 14 none (.t 13),.aV 15 (.t 3) 2,.load 16 none (.t 15),.bin 17 .add (.t 16) (.c (.int .i64 1)),.bin 18 .neq (.t 14) (.t 17),.aj 19 (.t 18),.grd 19 false (.aV 20 (.t 5) 2),.grd 19 false (.load 21 none (.t 20)),.grd 19 false (.aV 22 (.t 5) 1),.grd 19 false (.load 23 none (.t 22)),.grd 19 false (.bin 24 .lss (.t 21) (.t 23)),.pick 25 (.t 19) (.c (.bool true)) (.t 24),.aj 26 (.t 25),.grd 26 false (.aV 27 (.t 5) 2),.grd 26 false (.load 28 none (.t 27)),.grd 26 false (.bin 29 .gtr (.t 28) (.c (.int .i64 1073741824))),.pick 30 (.t 26) (.c (.bool true)) (.t 29),.aj 31 (.t 30),.grd 31 false (.aV 32 (.t 5) 0),.grd 31 false (.load 33 none (.t 32)),.grd 31 false (.call 34 48 [(.t 33),(.c (.int .i64 1))]),.grd 31 false (.un 35 .not (.t 34)),.pick 36 (.t 31) (.c (.bool true)) (.t 35),.aj 37 (.t 36),.grd 37 false (.aV 38 (.t 5) 0),.grd 37 false (.load 39 none (.t 38)),.grd 37 false (.aV 40 (.t 3) 0),.grd 37 false (.load 41 none (.t 40)),.grd 37 false (.bin 42 .leq (.t 39) (.t 41)),.pick 43 (.t 37) (.c (.bool true)) (.t 42)]) (.cond (.t 43) (.seq (.ops [.aC 2 (.c (.bool false))]) .ret) .skip)) (.ops [.load 44 (some 3) (.t 5),.store none 3 (.t 3) (.t 44)])))) (.ops [.bin 45 .add (.t 9) (.c (.int .i64 1)),.aj 9 (.t 45)]))))
def Je:ah :=
(.clean [0,3,7,8,9] [2] (.block 0 (.loop [0,3,7,8,9] ql)))
def Yy:je:=⟨1,46,[.tmp 2],(.seq (.ops [.aC 2 (.c (.bool false))]) (.seq (.ops [.build 6 [(.int .i64 0),(.int .i64 0),(.int .i64 0)] [],.alloc 3 [(.int .i64 0),(.int .i64 0),(.int .i64 0)],.store none 3 (.t 3) (.t 6)]) (.seq (.seq (.ops [.aj 7 (.t 0),.len 8 (.t 7),.aj 9 (.c (.int .i64 0))])
   Je) (.seq (.ops [.aC 2 (.c (.bool true))]) .ret))))⟩
def Yz:je:=⟨1,6,[.tmp 2],(.seq (.ops [.aC 2 (.c (.int .i64 0))]) (.seq (.ops [.aj 3 (.t 0),.call 4 83 [(.t 3)],.call 5 82 [(.t 4)],.aC 2 (.t 5)]) .ret))⟩
def EL:je:=⟨1,39,[.tmp 2],(.seq (.ops [.box 1 (.t 0),.aC 2 (.c (.int .i64 0))]) (.seq (.seq (.tJ [] [([0,1,2,3,4,5,6,7,8,9,10,11,12,13],14)] none [15,16] [.aV 4 (.t 1) 0,.load 5 none (.t 4),.bin 6 .lss (.t 5) (.c (.int .i64 0)),.aj 7 (.t 6),.grd 7 false (.aV 8 (.t 1) 0),.grd 7 false (.load 9 none (.t 8)),.grd 7 false (.bin 10 .gtr (.t 9) (.c (.int .i64 4096))),.pick 11 (.t 7) (.c (.bool true)) (.t 10),.aj 12 (.t 11),.grd 12 false (.aV 13 (.t 1) 1),.grd 12 false (.load 14 none (.t 13)),.grd 12 false (.len 15 (.t 14)),.grd 12 false (.aV 16 (.t 1) 0),.grd 12 false (.load 17 none (.t 16)),.grd 12 false (.call 18 84 [(.t 17)]),.grd 12 false (.bin 19 .neq (.t 15) (.t 18)),.pick 20 (.t 12) (.c (.bool true)) (.t 19)]) (.cond (.t 20) (.seq (.ops [.aC 2 (.c (.int .i64 3))]) .ret) .skip)) (.seq (.seq (.ops [.aV 21 (.t 1) 0,.load 22 none (.t 21),.bin 23 .rem (.t 22) (.c (.int .i64 64)),.aC 3 (.t 23)]) (.seq (.ops [.aj 24 (.t 3),.bin 25 .gtr (.t 24) (.c (.int .i64 0)),.aj 26 (.t 25),.grd 26 true (.aV 27 (.t 1) 1),.grd 26 true (.load 28 none (.t 27)),.grd 26 true (.aV 29 (.t 1) 1),.grd 26 true (.load 30 none (.t 29)),.grd 26 true (.len 31 (.t 30)),.grd 26 true (.bin 32 .sub (.t 31) (.c (.int .i64 1))),.grd 26 true (.bD 33 1 (.t 28) (.t 32)),.grd 26 true (.load 34 none (.t 33)),.grd 26 true (.aj 35 (.t 3)),.grd 26 true (.bin 36 .shr (.t 34) (.t 35)),.grd 26 true (.bin 37 .neq (.t 36) (.c (.int .u64 0))),.pick 38 (.t 26) (.t 37) (.c (.bool false))]) (.cond (.t 38) (.seq (.ops [.aC 2 (.c (.int .i64 3))]) .ret) .skip))) (.seq (.ops [.aC 2 (.c (.int .i64 0))]) .ret))))⟩
def AY:ah:=(.seq (.seq (.ops [.aj 24 (.t 3),.aV 25 (.t 1) 1,.load 26 none (.t 25),.len 27 (.t 26),.bin 28 .mul (.c (.int .i64 64)) (.t 27),.bin 29 .lss (.t 24) (.t 28)]) (.cond (.t 29) .skip (.exit 0))) (.seq (.block 1 (.seq (.ops [.load 32 (some 2) (.t 1),.aj 33 (.t 3),.call 34 87 [(.t 32),(.t 33)]]) (.cond (.t 34) (.seq (.ops [.aC 2 (.c (.int .i64 3))]) .ret) .skip))) (.ops [.aj 30 (.t 3),.bin 31 .add (.t 30) (.c (.int .i64 1)),.aC 3 (.t 31)])))
def Jf:ah :=
(.clean [1,3] [2] (.block 0 (.loop [1,3] AY)))
def Md:je:=⟨1,35,[.tmp 2],(.seq (.ops [.box 1 (.t 0),.aC 2 (.c (.int .i64 0))]) (.seq (.seq (.ops [.aV 4 (.t 1) 0,.load 5 none (.t 4),.bin 6 .lss (.t 5) (.c (.int .i64 0)),.aj 7 (.t 6),.grd 7 false (.aV 8 (.t 1) 0),.grd 7 false (.load 9 none (.t 8)),.grd 7 false (.bin 10 .gtr (.t 9) (.c (.int .i64 4096))),.pick 11 (.t 7) (.c (.bool true)) (.t 10),.aj 12 (.t 11),.grd 12 false (.aV 13 (.t 1) 1),.grd 12 false (.load 14 none (.t 13)),.grd 12 false (.len 15 (.t 14)),.grd 12 false (.aV 16 (.t 1) 0),.grd 12 false (.load 17 none (.t 16)),.grd 12 false (.bin 18 .add (.t 17) (.c (.int .i64 63))),.grd 12 false (.bin 19 .quo (.t 18) (.c (.int .i64 64))),.grd 12 false (.bin 20 .neq (.t 15) (.t 19)),.pick 21 (.t 12) (.c (.bool true)) (.t 20)]) (.cond (.t 21) (.seq (.ops [.aC 2 (.c (.int .i64 3))]) .ret) .skip)) (.seq (.seq (.ops [.aV 22 (.t 1) 0,.load 23 none (.t 22),.aC 3 (.t 23)])
   Jf) (.seq (.ops [.aC 2 (.c (.int .i64 0))]) .ret))))⟩
def AZ:ah:=(.seq (.ops [.bin 11 .lss (.t 10) (.t 9)]) (.seq (.cond (.t 11) .skip (.exit 0)) (.seq (.block 1 (.seq (.ops [.bD 12 4 (.t 8) (.t 10),.load 13 (some 4) (.t 12),.alloc 4 [(.int .i64 0),(.list 0 []),(.list 0 []),(.list 0 [])],.store none 4 (.t 4) (.t 13)]) (.seq (.ops [.load 14 (some 4) (.t 4),.call 15 15 [(.t 14)],.aC 5 (.t 15)]) (.seq (.ops [.aj 16 (.t 5),.bin 17 .neq (.t 16) (.c (.int .i64 0))]) (.cond (.t 17) (.seq (.ops [.aj 18 (.t 5),.aC 2 (.t 18)]) .ret) .skip))))) (.ops [.bin 19 .add (.t 10) (.c (.int .i64 1)),.aj 10 (.t 19)]))))
def Jg:ah :=
(.clean [0,8,9,10] [0,2] (.block 0 (.loop [0,8,9,10] AZ)))
def A8:ah:=(.seq (.ops [.bin 31 .lss (.t 30) (.t 29)]) (.seq (.cond (.t 31) .skip (.exit 2)) (.seq (.block 3 (.seq (.ops [.bD 32 4 (.t 28) (.t 30),.load 33 (some 4) (.t 32),.alloc 7 [(.int .i64 0),(.list 0 []),(.list 0 []),(.list 0 [])],.store none 4 (.t 7) (.t 33)]) (.seq (.tJ [] [([0,1,2,3,4,5],6)] none [7] [.aV 34 (.t 7) 3,.load 35 none (.t 34),.aj 36 (.t 0),.bD 37 4 (.t 36) (.c (.int .i64 0)),.aV 38 (.t 37) 3,.load 39 none (.t 38),.call 40 44 [(.t 35),(.t 39)],.un 41 .not (.t 40)]) (.cond (.t 41) (.seq (.ops [.aC 2 (.c (.int .i64 22))]) .ret) .skip)))) (.ops [.bin 42 .add (.t 30) (.c (.int .i64 1)),.aj 30 (.t 42)]))))
def Jh:ah :=
(.clean [0,28,29,30] [2] (.block 2 (.loop [0,28,29,30] A8)))
def YA:je:=⟨1,43,[.tmp 2],(.seq (.ops [.aC 2 (.c (.int .i64 0))]) (.seq (.seq (.ops [.aj 8 (.t 0),.len 9 (.t 8),.aj 10 (.c (.int .i64 0))])
  Jg) (.seq (.seq (.ops [.aj 20 (.t 0),.len 21 (.t 20),.bin 22 .lss (.t 21) (.c (.int .i64 1)),.aj 23 (.t 22),.grd 23 false (.aj 24 (.t 0)),.grd 23 false (.len 25 (.t 24)),.grd 23 false (.bin 26 .gtr (.t 25) (.c (.int .i64 4))),.pick 27 (.t 23) (.c (.bool true)) (.t 26)]) (.cond (.t 27) (.seq (.ops [.aC 2 (.c (.int .i64 6))]) .ret) .skip)) (.seq (.seq (.ops [.aj 28 (.t 0),.len 29 (.t 28),.aj 30 (.c (.int .i64 0))])
   Jh) (.seq (.ops [.aC 2 (.c (.int .i64 0))]) .ret)))))⟩
def ab5:ah:=(.seq (.ops [.bin 13 .lss (.t 12) (.t 11)]) (.seq (.cond (.t 13) .skip (.exit 0)) (.seq (.block 1 (.seq (.ops [.aj 14 (.t 12),.bD 15 4 (.t 10) (.t 12),.load 16 (some 4) (.t 15),.alloc 9 [(.int .i64 0),(.list 0 []),(.list 0 []),(.list 0 [])],.aC 8 (.t 14),.store none 4 (.t 9) (.t 16)]) (.seq (.tJ [] [([0,1],2),([3,4,5,6,7,8,9,10,11,12],13)] none [14,15,16] [.aj 17 (.t 1),.aj 18 (.t 8),.jV 19 (.t 17) [(.t 18)],.aj 20 (.t 19),.grd 20 true (.aj 21 (.t 7)),.grd 20 true (.bin 22 .lss (.t 21) (.c (.int .i64 0))),.grd 20 true (.aj 23 (.t 22)),.grd 23 false (.aj 24 (.t 2)),.grd 23 false (.load 25 (some 4) (.t 9)),.grd 23 false (.aj 26 (.t 0)),.grd 23 false (.aj 27 (.t 7)),.grd 23 false (.bD 28 4 (.t 26) (.t 27)),.grd 23 false (.load 29 (some 4) (.t 28)),.grd 23 false (.jV 30 (.t 24) [(.t 25),(.t 29)]),.grd 23 false (.bin 31 .gtr (.t 30) (.c (.int .i64 0))),.grd 20 true (.pick 32 (.t 23) (.c (.bool true)) (.t 31)),.pick 33 (.t 20) (.t 32) (.c (.bool false))]) (.cond (.t 33) (.ops [.aj 34 (.t 8),.aC 7 (.t 34)]) .skip)))) (.ops [.bin 35 .add (.t 12) (.c (.int .i64 1)),.aj 12 (.t 35)]))))
def ab6:ah :=
(.clean [0,1,2,7,10,11,12] [6,7] (.block 0 (.loop [0,1,2,7,10,11,12] ab5)))
def aeF:je:=⟨3,37,[.tmp 6],(.seq (.ops [.aC 6 (.c (.int .i64 0))]) (.seq (.ops [.aC 7 (.c (.int .i64 (-1)))]) (.seq (.seq (.ops [.aj 10 (.t 0),.len 11 (.t 10),.aj 12 (.c (.int .i64 0))])
   ab6) (.seq (.ops [.aj 36 (.t 7),.aC 6 (.t 36)]) .ret))))⟩
def aeG:je:=⟨2,9,[.tmp 3],(.seq (.ops [.aC 3 (.c (.bool false))]) (.seq (.ops [.load 4 none (.t 1),.aj 5 (.t 0),.bD 6 1 (.t 4) (.t 5),.load 7 none (.t 6),.un 8 .not (.t 7),.aC 3 (.t 8)]) .ret))⟩
def aeH:je:=⟨2,16,[.tmp 4],(.seq (.ops [.box 2 (.t 0),.box 3 (.t 1),.aC 4 (.c (.int .i64 0))]) (.seq (.drs [] [5,6] [.aV 7 (.t 2) 1,.load 8 none (.t 7),.call 9 60 [(.t 8)],.aV 10 (.t 3) 1,.load 11 none (.t 10),.call 12 60 [(.t 11)],.alloc 5 [(.int .i64 0),(.int .i64 0)],.alloc 6 [(.int .i64 0),(.int .i64 0)],.store none 2 (.t 5) (.t 9),.store none 2 (.t 6) (.t 12)]
  [⟨[([0,1,3,4],2),([],5),([],6),([],7)],(some ([],[],8,[([],9)])),[],[0,1,3,4,2,5,6,7,8,9],false⟩,⟨[([0,1,3,4],2),([],5),([],7),([],6)],(some ([],[],8,[([],9)])),[],[0,1,3,4,2,5,7,6,8,9],true⟩,⟨[([0,1,3,4],2),([],6),([],5),([],7)],(some ([],[],8,[([],9)])),[],[0,1,3,4,2,6,5,7,8,9],false⟩,⟨[([0,1,3,4],2),([],6),([],7),([],5)],(some ([],[],8,[([],9)])),[],[0,1,3,4,2,6,7,5,8,9],false⟩,⟨[([0,1,3,4],2),([],7),([],5),([],6)],(some ([],[],8,[([],9)])),[],[0,1,3,4,2,7,5,6,8,9],true⟩,⟨[([0,1,3,4],2),([],7),([],6),([],5)],(some ([],[],8,[([],9)])),[],[0,1,3,4,2,7,6,5,8,9],true⟩,⟨[([0,1,3,4],6),([],2),([],5),([],7)],(some ([],[],8,[([],9)])),[],[0,1,3,4,6,2,5,7,8,9],false⟩,⟨[([0,1,3,4],6),([],2),([],7),([],5)],(some ([],[],8,[([],9)])),[],[0,1,3,4,6,2,7,5,8,9],false⟩,⟨[([0,1,3,4],6),([],7),([],2),([],5)],(some ([],[],8,[([],9)])),[],[0,1,3,4,6,7,2,5,8,9],false⟩,⟨[([0,1,3,4],7),([],2),([],5),([],6)],(some ([],[],8,[([],9)])),[],[0,1,3,4,7,2,5,6,8,9],true⟩,⟨[([0,1,3,4],7),([],2),([],6),([],5)],(some ([],[],8,[([],9)])),[],[0,1,3,4,7,2,6,5,8,9],true⟩,⟨[([0,1,3,4],7),([],6),([],2),([],5)],(some ([],[],8,[([],9)])),[],[0,1,3,4,7,6,2,5,8,9],true⟩]) (.seq (.tJ [] [([0,1],2)] none [3] [.VY 13 2 (.t 5),.VY 14 2 (.t 6),.call 15 61 [(.t 13),(.t 14)],.aC 4 (.t 15)]) .ret)))⟩
def aeI:je:=⟨1,19,[.cell 2 (some 2)],(.seq (.ops [.alloc 2 [(.int .i64 0),(.int .i64 0)]]) (.seq (.seq (.ops [.aj 4 (.t 0),.len 5 (.t 4),.bin 6 .eql (.t 5) (.c (.int .i64 0))]) (.cond (.t 6) (.seq (.ops [.build 7 [(.int .i64 0),(.int .i64 0)] [],.store none 2 (.t 2) (.t 7)]) .ret) .skip)) (.seq (.ops [.aj 8 (.t 0),.aj 9 (.t 0),.len 10 (.t 9),.bin 11 .sub (.t 10) (.c (.int .i64 1)),.bD 12 3 (.t 8) (.t 11),.load 13 (some 3) (.t 12),.alloc 3 [(.int .i64 0),(.int .i64 0),(.int .i64 0)],.store none 3 (.t 3) (.t 13)]) (.seq (.ops [.aV 14 (.t 3) 0,.load 15 none (.t 14),.aV 16 (.t 3) 2,.load 17 none (.t 16),.build 18 [(.int .i64 0),(.int .i64 0)] [(0,1,(.t 15)),(1,1,(.t 17))],.store none 2 (.t 2) (.t 18)]) .ret))))⟩
def ab7:ah:=(.seq (.ops [.bin 12 .lss (.t 11) (.t 10)]) (.seq (.cond (.t 12) .skip (.exit 0)) (.seq (.block 1 (.seq (.ops [.aj 13 (.t 11),.bD 14 1 (.t 9) (.t 11),.load 15 none (.t 14),.aC 5 (.t 13),.aC 6 (.t 15)]) (.seq (.seq (.ops [.aj 16 (.t 5),.aj 17 (.t 1),.len 18 (.t 17),.bin 19 .geq (.t 16) (.t 18)]) (.cond (.t 19) (.seq (.ops [.aC 4 (.c (.int .i64 1))]) .ret) .skip)) (.seq (.ops [.aj 20 (.t 1),.aj 21 (.t 5),.bD 22 1 (.t 20) (.t 21),.load 23 none (.t 22),.aC 7 (.t 23)]) (.seq (.ops [.aj 24 (.t 6),.aj 25 (.t 7),.call 26 88 [(.t 24),(.t 25)],.aC 8 (.t 26)]) (.seq (.ops [.aj 27 (.t 8),.bin 28 .neq (.t 27) (.c (.int .i64 0))]) (.cond (.t 28) (.seq (.ops [.aj 29 (.t 8),.aC 4 (.t 29)]) .ret) .skip))))))) (.ops [.bin 30 .add (.t 11) (.c (.int .i64 1)),.aj 11 (.t 30)]))))
def ab8:ah :=
(.clean [0,1,9,10,11] [0,1,4] (.block 0 (.loop [0,1,9,10,11] ab7)))
def aeJ:je:=⟨2,36,[.tmp 4],(.seq (.ops [.aC 4 (.c (.int .i64 0))]) (.seq (.seq (.ops [.aj 9 (.t 0),.len 10 (.t 9),.aj 11 (.c (.int .i64 0))])
  ab8) (.seq (.seq (.ops [.aj 31 (.t 0),.len 32 (.t 31),.aj 33 (.t 1),.len 34 (.t 33),.bin 35 .lss (.t 32) (.t 34)]) (.cond (.t 35) (.seq (.ops [.aC 4 (.c (.int .i64 (-1)))]) .ret) .skip)) (.seq (.ops [.aC 4 (.c (.int .i64 0))]) .ret))))⟩
def ab9:ah:=(.seq (.seq (.ops [.aj 14 (.t 6),.aj 15 (.t 0),.len 16 (.t 15),.bin 17 .lss (.t 14) (.t 16)]) (.cond (.t 17) .skip (.exit 0))) (.seq (.block 1 (.seq (.tJ [] [([0,1,2,3,4,5],6)] none [7] [.aj 20 (.t 1),.aj 21 (.t 0),.aj 22 (.t 6),.bD 23 3 (.t 21) (.t 22),.load 24 (some 3) (.t 23),.load 25 (some 3) (.t 5),.jV 26 (.t 20) [(.t 24),(.t 25)],.bin 27 .lss (.t 26) (.c (.int .i64 0))]) (.cond (.t 27) (.ops [.aj 28 (.t 0),.aj 29 (.t 6),.bD 30 3 (.t 28) (.t 29),.load 31 (some 3) (.t 30),.store none 3 (.t 5) (.t 31)]) .skip))) (.ops [.aj 18 (.t 6),.bin 19 .add (.t 18) (.c (.int .i64 1)),.aC 6 (.t 19)])))
def acd:ah :=
(.clean [0,1,4,5,6] [4,5] (.block 0 (.loop [0,1,4,5,6] ab9)))
def aeK:je:=⟨2,33,[.cell 4 (some 3)],(.seq (.ops [.alloc 4 [(.int .i64 0),(.int .i64 0),(.int .i64 0)]]) (.seq (.seq (.ops [.aj 7 (.t 0),.len 8 (.t 7),.bin 9 .lss (.t 8) (.c (.int .i64 1))]) (.cond (.t 9) (.drs [] [] []
   []) .skip)) (.seq (.ops [.aj 11 (.t 0),.bD 12 3 (.t 11) (.c (.int .i64 0)),.load 13 (some 3) (.t 12),.alloc 5 [(.int .i64 0),(.int .i64 0),(.int .i64 0)],.store none 3 (.t 5) (.t 13)]) (.seq (.seq (.ops [.aC 6 (.c (.int .i64 1))])
   acd) (.seq (.ops [.load 32 (some 3) (.t 5),.store none 3 (.t 4) (.t 32)]) .ret)))))⟩
def aeL:je:=⟨1,5,[.tmp 2],(.seq (.ops [.aC 2 (.nil 3)]) (.seq (.ops [.aj 3 (.t 0),.call 4 90 [(.c (.kD 3)),(.t 3)],.aC 2 (.t 4)]) .ret))⟩
def aeM:je:=⟨2,6,[.tmp 4],(.seq (.ops [.box 2 (.t 0),.box 3 (.t 1),.aC 4 (.c .sW)]) (.seq (.ops [.NW 5 91 [(.t 2),(.t 3)],.aC 4 (.t 5)]) .ret))⟩
def aeN:je:=⟨2,22,[.tmp 4],(.seq (.ops [.box 2 (.t 0),.box 3 (.t 1),.aC 4 (.c (.int .i64 0))]) (.seq (.tJ [] [([0,1,2,3,5,6,7,8,10,11,12,13],4),([],9),([],14),([],15),([],16)] none [17] [.aV 5 (.t 2) 0,.load 6 none (.t 5),.aV 7 (.t 3) 0,.load 8 none (.t 7),.aV 10 (.t 2) 1,.load 11 none (.t 10),.aV 12 (.t 3) 1,.load 13 none (.t 12),.aV 15 (.t 2) 2,.load 16 none (.t 15),.aV 17 (.t 3) 2,.load 18 none (.t 17),.call 9 88 [(.t 6),(.t 8)],.call 14 88 [(.t 11),(.t 13)],.call 19 88 [(.t 16),(.t 18)],.jA 20 1 [(.t 9),(.t 14),(.t 19)],.call 21 93 [(.t 20)],.aC 4 (.t 21)]) .ret))⟩
def ace:ah:=(.seq (.seq (.ops [.aj 11 (.t 5),.aj 12 (.t 0),.len 13 (.t 12),.bin 14 .lss (.t 11) (.t 13)]) (.cond (.t 14) .skip (.exit 0))) (.seq (.block 1 (.seq (.tJ [] [] none [0,1,2,3,4,5,6,7,8] [.aj 17 (.t 0),.aj 18 (.t 5),.bD 19 8 (.t 17) (.t 18),.load 20 (some 8) (.t 19),.aj 21 (.t 1),.aj 22 (.t 5),.bD 23 8 (.t 21) (.t 22),.load 24 (some 8) (.t 23),.NQ 25 true 8 (.t 20) (.t 24)]) (.cond (.t 25) (.seq (.ops [.aC 4 (.c (.bool false))]) .ret) .skip))) (.ops [.aj 15 (.t 5),.bin 16 .add (.t 15) (.c (.int .i64 1)),.aC 5 (.t 16)])))
def acf:ah :=
(.clean [0,1,5] [4] (.block 0 (.loop [0,1,5] ace)))
def aeO:je:=⟨2,26,[.tmp 4],(.seq (.ops [.aC 4 (.c (.bool false))]) (.seq (.seq (.ops [.aj 6 (.t 0),.len 7 (.t 6),.aj 8 (.t 1),.len 9 (.t 8),.bin 10 .neq (.t 7) (.t 9)]) (.cond (.t 10) (.seq (.ops [.aC 4 (.c (.bool false))]) .ret) .skip)) (.seq (.seq (.ops [.aC 5 (.c (.int .i64 0))])
   acf) (.seq (.ops [.aC 4 (.c (.bool true))]) .ret))))⟩
def Ba:ah:=(.seq (.seq (.ops [.aj 14 (.t 8),.aj 15 (.t 1),.len 16 (.t 15),.bin 17 .lss (.t 14) (.t 16),.aj 18 (.t 17),.grd 18 true (.aj 19 (.t 7)),.grd 18 true (.bin 20 .eql (.t 19) (.c (.int .i64 0))),.pick 21 (.t 18) (.t 20) (.c (.bool false))]) (.cond (.t 21) .skip (.exit 0))) (.seq (.block 1 (.tJ [] [([0,1,2,3,4],5)] (some ([6,7],[8],9,[])) [10] [.load 25 (some 2) (.t 6),.aj 26 (.t 1),.aj 27 (.t 8),.bD 28 2 (.t 26) (.t 27),.load 29 (some 2) (.t 28),.call 30 95 [(.t 25),(.t 29)],.aj 24 (.t 30),.ext 31 (.t 24) 0,.ext 32 (.t 24) 1,.store none 2 (.t 6) (.t 31),.aC 7 (.t 32)])) (.ops [.aj 22 (.t 8),.bin 23 .add (.t 22) (.c (.int .i64 1)),.aC 8 (.t 23)])))
def Ji:ah :=
(.clean [1,4,6,7,8] [4,5,6,7] (.block 0 (.loop [1,4,6,7,8] Ba)))
def YB:je:=⟨2,35,[.cell 4 (some 2),.tmp 5],(.seq (.ops [.alloc 4 [(.int .i64 0),(.list 1 [])],.aC 5 (.c (.int .i64 0))]) (.seq (.ops [.aj 10 (.t 0),.call 11 94 [(.t 10)],.aj 9 (.t 11),.ext 12 (.t 9) 0,.ext 13 (.t 9) 1,.alloc 6 [(.int .i64 0),(.list 1 [])],.store none 2 (.t 6) (.t 12),.aC 7 (.t 13)]) (.seq (.seq (.ops [.aC 8 (.c (.int .i64 0))])
   Ji) (.seq (.ops [.load 33 (some 2) (.t 6),.aj 34 (.t 7),.store none 2 (.t 4) (.t 33),.aC 5 (.t 34)]) .ret))))⟩
def Bc:ah:=(.seq (.ops [.bin 13 .lss (.t 12) (.t 11)]) (.seq (.cond (.t 13) .skip (.exit 0)) (.seq (.block 1 (.seq (.ops [.bD 14 1 (.t 10) (.t 12),.load 15 none (.t 14),.aC 6 (.t 15)]) (.seq (.ops [.aj 16 (.t 6),.call 17 50 [(.t 16)],.aC 7 (.t 17)]) (.seq (.ops [.aj 18 (.t 7),.bin 19 .neq (.t 18) (.c (.int .i64 0))]) (.cond (.t 19) (.seq (.ops [.aj 20 (.t 7),.aC 4 (.t 20)]) .ret) .skip))))) (.ops [.bin 21 .add (.t 12) (.c (.int .i64 1)),.aj 12 (.t 21)]))))
def Jj:ah :=
(.clean [0,1,10,11,12] [0,1,4] (.block 0 (.loop [0,1,10,11,12] Bc)))
def YC:je:=⟨2,28,[.tmp 4],(.seq (.ops [.aC 4 (.c (.int .i64 0))]) (.seq (.seq (.ops [.aj 8 (.t 0),.aj 9 (.t 1),.jA 10 1 [(.t 8),(.t 9)],.len 11 (.t 10),.aj 12 (.c (.int .i64 0))])
  Jj) (.seq (.seq (.ops [.aj 22 (.t 0),.call 23 83 [(.t 22)],.aj 24 (.t 1),.call 25 83 [(.t 24)],.call 26 27 [(.t 23),(.t 25)],.un 27 .not (.t 26)]) (.cond (.t 27) (.seq (.ops [.aC 4 (.c (.int .i64 22))]) .ret) .skip)) (.seq (.ops [.aC 4 (.c (.int .i64 0))]) .ret))))⟩
def Bd:ah:=(.ops [.aC 7 (.t 11)])
def Bf:ah:=(.block 1 (.seq (.seq (.ops [.aj 12 (.t 7),.load 13 none (.t 6),.bin 14 .eql (.t 12) (.t 13)]) (.cond (.t 14) (.ops [.load 15 none (.t 5),.load 16 none (.t 5),.len 17 (.t 16),.bin 18 .sub (.t 17) (.c (.int .i64 1)),.bD 19 2 (.t 15) (.t 18),.aV 20 (.t 19) 1,.load 21 none (.t 20),.bin 22 .add (.t 21) (.c (.int .i64 1)),.bD 23 2 (.t 15) (.t 18),.aV 24 (.t 23) 1,.store none 1 (.t 24) (.t 22)]) (.ops [.load 25 none (.t 5),.aj 26 (.t 7),.build 27 [(.int .i64 0),(.int .i64 0)] [(0,1,(.t 26)),(1,1,(.c (.int .i64 1)))],.jA 28 2 [(.t 27)],.app 29 2 (.t 25) (.t 28),.store none 1 (.t 5) (.t 29)]))) (.ops [.aj 30 (.t 7),.bin 31 .add (.t 30) (.c (.int .i64 1)),.store none 1 (.t 6) (.t 31)])))
def YD:je:=⟨2,33,[.tmp 4],(.seq (.ops [.aC 4 (.nil 2)]) (.seq (.ops [.alloc 5 [(.list 2 [])]]) (.seq (.ops [.alloc 6 [(.int .i64 0)],.store none 1 (.t 6) (.c (.int .i64 (-1)))]) (.seq (.seq (.ops [.aj 8 (.t 0),.aj 9 (.t 1),.call 10 96 [(.t 8),(.t 9)]]) (.block 0 (.rng (.t 10) [11] Bd Bf))) (.seq (.ops [.load 32 none (.t 5),.aC 4 (.t 32)]) .ret)))))⟩
def Jk:ah:=(.seq (.ops [.bin 9 .lss (.t 8) (.t 7)]) (.seq (.cond (.t 9) .skip (.exit 0)) (.seq (.block 1 (.seq (.ops [.aj 10 (.t 8),.aC 5 (.t 10)]) (.seq (.ops [.aj 11 (.t 1),.aj 12 (.t 0),.aj 13 (.t 5),.bD 14 2 (.t 12) (.t 13),.load 15 (some 2) (.t 14),.jV 16 (.t 11) [(.t 15)]]) (.cond (.t 16) (.seq (.ops [.aj 17 (.t 5),.aC 4 (.t 17)]) .ret) .skip)))) (.ops [.bin 18 .add (.t 8) (.c (.int .i64 1)),.aj 8 (.t 18)]))))
def Jl:ah :=
(.clean [0,1,7,8] [4] (.block 0 (.loop [0,1,7,8] Jk)))
def YE:je:=⟨2,19,[.tmp 4],(.seq (.ops [.aC 4 (.c (.int .i64 0))]) (.seq (.seq (.ops [.aj 6 (.t 0),.len 7 (.t 6),.aj 8 (.c (.int .i64 0))])
  Jl) (.seq (.ops [.aC 4 (.c (.int .i64 (-1)))]) .ret)))⟩
def Jm:ah:=(.seq (.ops [.bin 18 .lss (.t 17) (.t 16)]) (.seq (.cond (.t 18) .skip (.exit 0)) (.seq (.block 1 (.seq (.ops [.aj 19 (.t 17),.bD 20 1 (.t 15) (.t 17),.load 21 none (.t 20),.aC 7 (.t 19),.aC 8 (.t 21)]) (.seq (.ops [.aj 22 (.t 1),.aj 23 (.t 7),.bD 24 1 (.t 22) (.t 23),.load 25 none (.t 24),.aC 9 (.t 25)]) (.seq (.ops [.aj 26 (.t 2),.aj 27 (.t 8),.aj 28 (.t 9),.jV 29 (.t 26) [(.t 27),(.t 28)],.un 30 .not (.t 29)]) (.cond (.t 30) (.seq (.ops [.aC 6 (.c (.bool false))]) .ret) .skip))))) (.ops [.bin 31 .add (.t 17) (.c (.int .i64 1)),.aj 17 (.t 31)]))))
def Jo:ah :=
(.clean [0,1,2,15,16,17] [6] (.block 0 (.loop [0,1,2,15,16,17] Jm)))
def YF:je:=⟨3,32,[.tmp 6],(.seq (.ops [.aC 6 (.c (.bool false))]) (.seq (.seq (.ops [.aj 10 (.t 0),.len 11 (.t 10),.aj 12 (.t 1),.len 13 (.t 12),.bin 14 .neq (.t 11) (.t 13)]) (.cond (.t 14) (.seq (.ops [.aC 6 (.c (.bool false))]) .ret) .skip)) (.seq (.seq (.ops [.aj 15 (.t 0),.len 16 (.t 15),.aj 17 (.c (.int .i64 0))])
   Jo) (.seq (.ops [.aC 6 (.c (.bool true))]) .ret))))⟩
def Jp:ah:=(.seq (.ops [.bin 14 .lss (.t 13) (.t 12)]) (.seq (.cond (.t 14) .skip (.exit 0)) (.seq (.block 1 (.seq (.ops [.aj 15 (.t 13),.aC 5 (.t 15)]) (.seq (.tJ [] [] none [0,1,2,3,4,5,6,7,8] [.aj 16 (.t 0),.aj 17 (.t 5),.bD 18 8 (.t 16) (.t 17),.load 19 (some 8) (.t 18),.aj 20 (.t 1),.aj 21 (.t 5),.bD 22 8 (.t 20) (.t 21),.load 23 (some 8) (.t 22),.NQ 24 true 8 (.t 19) (.t 23)]) (.cond (.t 24) (.seq (.ops [.aC 4 (.c (.bool false))]) .ret) .skip)))) (.ops [.bin 25 .add (.t 13) (.c (.int .i64 1)),.aj 13 (.t 25)]))))
def Jq:ah :=
(.clean [0,1,12,13] [4] (.block 0 (.loop [0,1,12,13] Jp)))
def YG:je:=⟨2,26,[.tmp 4],(.seq (.ops [.aC 4 (.c (.bool false))]) (.seq (.seq (.ops [.aj 6 (.t 0),.len 7 (.t 6),.aj 8 (.t 1),.len 9 (.t 8),.bin 10 .neq (.t 7) (.t 9)]) (.cond (.t 10) (.seq (.ops [.aC 4 (.c (.bool false))]) .ret) .skip)) (.seq (.seq (.ops [.aj 11 (.t 0),.len 12 (.t 11),.aj 13 (.c (.int .i64 0))])
   Jq) (.seq (.ops [.aC 4 (.c (.bool true))]) .ret))))⟩
def U0:je:=⟨2,10,[.tmp 4],(.seq (.ops [.aC 4 (.c (.bool false))]) (.seq (.ops [.aj 5 (.t 0),.len 6 (.t 5),.aj 7 (.t 1),.len 8 (.t 7),.bin 9 .eql (.t 6) (.t 8),.aC 4 (.t 9)]) .ret))⟩
def YH:je:=⟨2,11,[.cell 4 (some 2),.tmp 5],(.seq (.ops [.box 2 (.t 0),.box 3 (.t 1),.alloc 4 [(.int .i64 0),(.list 1 [])],.aC 5 (.c (.int .i64 0))]) (.seq (.ops [.load 6 (some 2) (.t 2),.load 7 (some 2) (.t 3),.call 8 99 [(.t 6),(.t 7),(.c (.func 100 []))],.ext 9 (.t 8) 0,.ext 10 (.t 8) 1,.store none 2 (.t 4) (.t 9),.aC 5 (.t 10)]) .ret))⟩
def Bg:ah:=(.ops [.aC 4 (.t 8)])
def Bh:ah:=(.block 1 (.seq (.seq (.ops [.load 9 none (.t 3),.len 10 (.t 9),.aC 5 (.t 10)]) (.seq (.tJ [] [] none [0,1,2,3,4,5,6,7,8,9,10,11,12,13,14,15,16,17,18] [.aj 11 (.t 5),.bin 12 .gtr (.t 11) (.c (.int .i64 0)),.aj 13 (.t 12),.grd 13 true (.load 14 none (.t 3)),.grd 13 true (.aj 15 (.t 5)),.grd 13 true (.bin 16 .sub (.t 15) (.c (.int .i64 1))),.grd 13 true (.bD 17 2 (.t 14) (.t 16)),.grd 13 true (.aV 18 (.t 17) 0),.grd 13 true (.load 19 none (.t 18)),.grd 13 true (.load 20 none (.t 3)),.grd 13 true (.aj 21 (.t 5)),.grd 13 true (.bin 22 .sub (.t 21) (.c (.int .i64 1))),.grd 13 true (.bD 23 2 (.t 20) (.t 22)),.grd 13 true (.aV 24 (.t 23) 1),.grd 13 true (.load 25 none (.t 24)),.grd 13 true (.bin 26 .add (.t 19) (.t 25)),.grd 13 true (.aj 27 (.t 4)),.grd 13 true (.bin 28 .eql (.t 26) (.t 27)),.pick 29 (.t 13) (.t 28) (.c (.bool false))]) (.cond (.t 29) (.seq (.ops [.load 30 none (.t 3),.aj 31 (.t 5),.bin 32 .sub (.t 31) (.c (.int .i64 1)),.bD 33 2 (.t 30) (.t 32),.aV 34 (.t 33) 1,.load 35 none (.t 34),.bin 36 .add (.t 35) (.c (.int .i64 1)),.bD 37 2 (.t 30) (.t 32),.aV 38 (.t 37) 1,.store none 1 (.t 38) (.t 36)]) (.exit 1)) .skip))) (.ops [.load 39 none (.t 3),.aj 40 (.t 4),.build 41 [(.int .i64 0),(.int .i64 0)] [(0,1,(.t 40)),(1,1,(.c (.int .i64 1)))],.jA 42 2 [(.t 41)],.app 43 2 (.t 39) (.t 42),.store none 1 (.t 3) (.t 43)])))
def YI:je:=⟨1,45,[.tmp 2],(.seq (.ops [.box 1 (.t 0),.aC 2 (.nil 2)]) (.seq (.ops [.alloc 3 [(.list 2 [])]]) (.seq (.seq (.ops [.load 6 (some 2) (.t 1),.call 7 101 [(.t 6),(.c (.int .i64 0))]]) (.block 0 (.rng (.t 7) [8] Bg Bh))) (.seq (.ops [.load 44 none (.t 3),.aC 2 (.t 44)]) .ret))))⟩
def YJ:je:=⟨1,13,[.tmp 2],(.seq (.ops [.aC 2 (.c (.int .i64 0))]) (.seq (.seq (.ops [.aj 3 (.t 0),.len 4 (.t 3),.bin 5 .lss (.t 4) (.c (.int .i64 1)),.aj 6 (.t 5),.grd 6 false (.aj 7 (.t 0)),.grd 6 false (.len 8 (.t 7)),.grd 6 false (.bin 9 .gtr (.t 8) (.c (.int .i64 8))),.pick 10 (.t 6) (.c (.bool true)) (.t 9)]) (.cond (.t 10) (.seq (.ops [.aC 2 (.c (.int .i64 6))]) .ret) .skip)) (.seq (.seq (.ops [.aj 11 (.t 0),.call 12 102 [(.t 11),(.c (.func 103 []))]]) (.cond (.t 12) (.seq (.ops [.aC 2 (.c (.int .i64 2))]) .ret) .skip)) (.seq (.ops [.aC 2 (.c (.int .i64 0))]) .ret))))⟩
def YK:je:=⟨1,5,[.tmp 2],(.seq (.ops [.aC 2 (.nil 1)]) (.seq (.ops [.aj 3 (.t 0),.call 4 104 [(.t 3),(.c (.func 105 []))],.aC 2 (.t 4)]) .ret))⟩
def YL:je:=⟨1,7,[.tmp 2],(.seq (.ops [.aC 2 (.c (.int .i64 0))]) (.seq (.ops [.aj 3 (.t 0),.bin 4 .add (.t 3) (.c (.int .i64 64)),.bin 5 .sub (.t 4) (.c (.int .i64 1)),.bin 6 .quo (.t 5) (.c (.int .i64 64)),.aC 2 (.t 6)]) .ret))⟩
def YM:je:=⟨2,17,[.tmp 4],(.seq (.ops [.box 2 (.t 0),.aC 4 (.c (.bool false))]) (.seq (.ops [.aV 5 (.t 2) 1,.load 6 none (.t 5),.aj 7 (.t 1),.bin 8 .quo (.t 7) (.c (.int .i64 64)),.bD 9 1 (.t 6) (.t 8),.load 10 none (.t 9),.aj 11 (.t 1),.bin 12 .rem (.t 11) (.c (.int .i64 64)),.conv 13 .u64 (.t 12),.bin 14 .shr (.t 10) (.t 13),.bin 15 .and (.t 14) (.c (.int .u64 1)),.bin 16 .eql (.t 15) (.c (.int .u64 1)),.aC 4 (.t 16)]) .ret))⟩
def aeP:je:=⟨2,20,[.tmp 4],(.seq (.ops [.aC 4 (.c (.int .i64 0))]) (.seq (.ops [.aj 7 (.t 0),.call 8 106 [(.t 7)],.aC 5 (.t 8)]) (.seq (.ops [.aj 9 (.t 1),.call 10 106 [(.t 9)],.aC 6 (.t 10)]) (.seq (.seq (.ops [.aj 11 (.t 5)]) (.cond (.t 11) (.seq (.seq (.ops [.aj 12 (.t 6)]) (.cond (.t 12) (.seq (.ops [.aC 4 (.c (.int .i64 0))]) .ret) .skip)) (.seq (.ops [.aC 4 (.c (.int .i64 (-1)))]) .ret)) .skip)) (.seq (.seq (.ops [.aj 13 (.t 6)]) (.cond (.t 13) (.seq (.ops [.aC 4 (.c (.int .i64 1))]) .ret) .skip)) (.seq (.seq (.ops [.aj 14 (.t 0),.aj 15 (.t 1),.bin 16 .lss (.t 14) (.t 15)]) (.cond (.t 16) (.seq (.ops [.aC 4 (.c (.int .i64 (-1)))]) .ret) .skip)) (.seq (.seq (.ops [.aj 17 (.t 0),.aj 18 (.t 1),.bin 19 .gtr (.t 17) (.t 18)]) (.cond (.t 19) (.seq (.ops [.aC 4 (.c (.int .i64 1))]) .ret) .skip)) (.seq (.ops [.aC 4 (.c (.int .i64 0))]) .ret))))))))⟩
def acg:ah:=(.ops [.alloc 5 [(.int .i64 0),(.int .i64 0),(.int .i64 0)],.store none 3 (.t 5) (.t 7)])
def ach:ah:=(.block 1 (.ops [.load 8 none (.t 2),.load 9 (some 3) (.t 5),.jA 10 3 [(.t 9)],.app 11 3 (.t 8) (.t 10),.store none 1 (.t 2) (.t 11)]))
def aeQ:je:=⟨2,13,[.tmp 4],(.seq (.ops [.box 2 (.t 0),.aC 4 (.nil 3)]) (.seq (.seq (.ops [.aj 6 (.t 1)]) (.block 0 (.rng (.t 6) [7] acg ach))) (.seq (.ops [.load 12 none (.t 2),.aC 4 (.t 12)]) .ret)))⟩
def aci:ah:=(.seq (.ops [.bin 14 .lss (.t 13) (.t 12)]) (.seq (.cond (.t 14) .skip (.exit 2)) (.seq (.block 3 (.seq (.ops [.aj 15 (.t 13),.aC 5 (.t 15)]) (.seq (.tJ [] [([0,1,2,3,4,5,6,7,8,9,10,11,12,13,14,15,16,17,18,19,20,22,23],21)] (some ([24],[],25,[])) [26,27] [.load 16 none (.t 2),.aj 17 (.t 4),.bD 18 1 (.t 16) (.t 17),.load 19 none (.t 18),.aj 20 (.t 19),.grd 20 true (.load 21 none (.t 2)),.grd 20 true (.aj 22 (.t 5)),.grd 20 true (.bD 23 1 (.t 21) (.t 22)),.grd 20 true (.load 24 none (.t 23)),.grd 20 true (.un 25 .not (.t 24)),.pick 26 (.t 20) (.t 25) (.c (.bool false)),.aj 27 (.t 26),.grd 27 true (.aj 28 (.t 0)),.grd 27 true (.load 29 none (.t 1)),.grd 27 true (.aj 30 (.t 4)),.grd 27 true (.bD 31 4 (.t 29) (.t 30)),.grd 27 true (.load 32 (some 4) (.t 31)),.grd 27 true (.load 33 none (.t 1)),.grd 27 true (.aj 34 (.t 5)),.grd 27 true (.bD 35 4 (.t 33) (.t 34)),.grd 27 true (.load 36 (some 4) (.t 35)),.grd 27 true (.aj 38 (.t 5)),.grd 27 true (.aj 39 (.t 4)),.grd 27 true (.call 37 92 [(.t 32),(.t 36)]),.grd 27 true (.build 40 [(.int .i64 0),(.int .i64 0),(.int .i64 0)] [(0,1,(.t 37)),(1,1,(.t 38)),(2,1,(.t 39))]),.grd 27 true (.yield 41 (.t 28) [(.t 40)]),.grd 27 true (.un 42 .not (.t 41)),.pick 43 (.t 27) (.t 42) (.c (.bool false))]) (.cond (.t 43) .ret .skip)))) (.ops [.bin 44 .add (.t 13) (.c (.int .i64 1)),.aj 13 (.t 44)]))))
def acj:ah :=
(.clean [0,1,2,4,7,8,12,13] [0,1,2,7,8] (.block 2 (.loop [0,1,2,4,7,8,12,13] aci)))
def acn:ah:=(.seq (.ops [.bin 9 .lss (.t 8) (.t 7)]) (.seq (.cond (.t 9) .skip (.exit 0)) (.seq (.block 1 (.seq (.ops [.aj 10 (.t 8),.aC 4 (.t 10)]) (.seq (.ops [.load 11 none (.t 1),.len 12 (.t 11),.aj 13 (.c (.int .i64 0))])
    acj))) (.ops [.bin 45 .add (.t 8) (.c (.int .i64 1)),.aj 8 (.t 45)]))))
def aco:ah :=
(.clean [0,1,2,7,8] [] (.block 0 (.loop [0,1,2,7,8] acn)))
def aeR:je:=⟨3,46,[],(.seq (.ops [.load 6 none (.t 1),.len 7 (.t 6),.aj 8 (.c (.int .i64 0))])
 aco)⟩
def acp:ah:=(.seq (.ops [.bin 21 .lss (.t 20) (.t 19)]) (.seq (.cond (.t 21) .skip (.exit 2)) (.seq (.block 3 (.seq (.ops [.bD 22 2 (.t 18) (.t 20),.load 23 (some 2) (.t 22),.alloc 9 [(.int .i64 0),(.int .i64 0)],.store none 2 (.t 9) (.t 23)]) (.ops [.aj 24 (.t 5),.aV 25 (.t 9) 1,.load 26 none (.t 25),.bin 27 .add (.t 24) (.t 26),.aC 5 (.t 27)]))) (.ops [.bin 28 .add (.t 20) (.c (.int .i64 1)),.aj 20 (.t 28)]))))
def acr:ah :=
(.clean [5,7,12,13,14,17,18,19,20] [4,5,12,13,14] (.block 2 (.loop [5,7,12,13,14,17,18,19,20] acp)))
def acs:ah:=(.seq (.ops [.bin 15 .lss (.t 14) (.t 13)]) (.seq (.cond (.t 15) .skip (.exit 0)) (.seq (.block 1 (.seq (.ops [.bD 16 1 (.t 12) (.t 14),.load 17 none (.t 16),.aC 7 (.t 17)]) (.seq (.ops [.aj 18 (.t 7),.len 19 (.t 18),.aj 20 (.c (.int .i64 0))])
    acr))) (.ops [.bin 29 .add (.t 14) (.c (.int .i64 1)),.aj 14 (.t 29)]))))
def acu:ah :=
(.clean [5,12,13,14] [4,5] (.block 0 (.loop [5,12,13,14] acs)))
def aeS:je:=⟨2,31,[.tmp 4],(.seq (.ops [.box 2 (.t 0),.box 3 (.t 1),.aC 4 (.c (.int .i64 0))]) (.seq (.ops [.aC 5 (.c (.int .i64 0))]) (.seq (.seq (.ops [.load 10 (some 4) (.t 2),.load 11 (some 4) (.t 3),.call 12 45 [(.t 10),(.t 11)],.len 13 (.t 12),.aj 14 (.c (.int .i64 0))])
   acu) (.seq (.ops [.aj 30 (.t 5),.aC 4 (.t 30)]) .ret))))⟩
def acv:ah:=(.seq (.ops [.bin 9 .lss (.t 8) (.t 7)]) (.seq (.cond (.t 9) .skip (.exit 0)) (.seq (.block 1 (.seq (.ops [.bD 10 1 (.t 6) (.t 8),.load 11 none (.t 10),.aC 5 (.t 11)]) (.seq (.ops [.aj 12 (.t 5),.aj 13 (.t 3),.bin 14 .neq (.t 12) (.t 13)]) (.cond (.t 14) (.seq (.ops [.aj 15 (.t 5),.aC 2 (.t 15)]) .ret) .skip)))) (.ops [.bin 16 .add (.t 8) (.c (.int .i64 1)),.aj 8 (.t 16)]))))
def acw:ah :=
(.clean [0,3,6,7,8] [2,3] (.block 0 (.loop [0,3,6,7,8] acv)))
def aeT:je:=⟨1,18,[.tmp 2],(.seq (.ops [.aC 2 (.c (.int .i64 0))]) (.seq (.ops [.aC 3 (.c (.int .i64 0))]) (.seq (.seq (.ops [.aj 6 (.t 0),.len 7 (.t 6),.aj 8 (.c (.int .i64 0))])
   acw) (.seq (.ops [.aj 17 (.t 3),.aC 2 (.t 17)]) .ret))))⟩
def Qe:je:=⟨1,17,[.cell 2 (some 2),.tmp 3],(.seq (.ops [.alloc 2 [(.int .i64 0),(.list 1 [])],.aC 3 (.c (.int .i64 0))]) (.seq (.seq (.ops [.aj 4 (.t 0),.bin 5 .lss (.t 4) (.c (.int .i64 0)),.aj 6 (.t 5),.grd 6 false (.aj 7 (.t 0)),.grd 6 false (.bin 8 .gtr (.t 7) (.c (.int .i64 4096))),.pick 9 (.t 6) (.c (.bool true)) (.t 8)]) (.cond (.t 9) (.seq (.ops [.build 10 [(.int .i64 0),(.list 1 [])] [],.store none 2 (.t 2) (.t 10),.aC 3 (.c (.int .i64 2))]) .ret) .skip)) (.seq (.ops [.aj 11 (.t 0),.aj 12 (.t 0),.bin 13 .add (.t 12) (.c (.int .i64 63)),.bin 14 .quo (.t 13) (.c (.int .i64 64)),.make 15 (.int .u64 0) (.t 14) (.t 14),.build 16 [(.int .i64 0),(.list 1 [])] [(0,1,(.t 11)),(1,1,(.t 15))],.store none 2 (.t 2) (.t 16),.aC 3 (.c (.int .i64 0))]) .ret)))⟩
def YN:je:=⟨2,11,[.cell 4 (some 2),.tmp 5],(.seq (.ops [.box 2 (.t 0),.box 3 (.t 1),.alloc 4 [(.int .i64 0),(.list 1 [])],.aC 5 (.c (.int .i64 0))]) (.seq (.ops [.load 6 (some 2) (.t 2),.load 7 (some 2) (.t 3),.call 8 107 [(.t 6),(.t 7),(.c (.bool true))],.ext 9 (.t 8) 0,.ext 10 (.t 8) 1,.store none 2 (.t 4) (.t 9),.aC 5 (.t 10)]) .ret))⟩
def YO:je:=⟨2,6,[.tmp 4],(.seq (.ops [.box 2 (.t 0),.box 3 (.t 1),.aC 4 (.c .sW)]) (.seq (.ops [.NW 5 108 [(.t 2),(.t 3)],.aC 4 (.t 5)]) .ret))⟩
def Jr:ah:=(.seq (.ops [.bin 37 .lss (.t 36) (.t 35)]) (.seq (.cond (.t 37) .skip (.exit 0)) (.seq (.block 1 (.seq (.ops [.aj 38 (.t 36),.aC 11 (.t 38)]) (.tJ [] [([0,1,2,3,4,5,6,7,8,9,10,11,12],13)] (some ([14],[],15,[])) [] [.aj 39 (.t 10),.aj 40 (.t 11),.aj 41 (.t 2),.aV 42 (.t 3) 1,.load 43 none (.t 42),.aj 44 (.t 11),.bD 45 1 (.t 43) (.t 44),.load 46 none (.t 45),.aV 47 (.t 4) 1,.load 48 none (.t 47),.aj 49 (.t 11),.bD 50 1 (.t 48) (.t 49),.load 51 none (.t 50),.jV 52 (.t 41) [(.t 46),(.t 51)],.bD 53 1 (.t 39) (.t 40),.store none 1 (.t 53) (.t 52)]))) (.ops [.bin 54 .add (.t 36) (.c (.int .i64 1)),.aj 36 (.t 54)]))))
def Js:ah :=
(.clean [2,3,4,6,10,33,35,36] [3,6,7,10] (.block 0 (.loop [2,3,4,6,10,33,35,36] Jr)))
def Me:je:=⟨3,59,[.cell 6 (some 2),.tmp 7],(.seq (.ops [.box 3 (.t 0),.box 4 (.t 1),.alloc 6 [(.int .i64 0),(.list 1 [])],.aC 7 (.c (.int .i64 0))]) (.seq (.seq (.ops [.load 12 (some 2) (.t 3),.call 13 51 [(.t 12)],.aC 8 (.t 13)]) (.seq (.ops [.aj 14 (.t 8),.bin 15 .neq (.t 14) (.c (.int .i64 0))]) (.cond (.t 15) (.seq (.ops [.build 16 [(.int .i64 0),(.list 1 [])] [],.aj 17 (.t 8),.store none 2 (.t 6) (.t 16),.aC 7 (.t 17)]) .ret) .skip))) (.seq (.seq (.ops [.load 18 (some 2) (.t 4),.call 19 51 [(.t 18)],.aC 9 (.t 19)]) (.seq (.ops [.aj 20 (.t 9),.bin 21 .neq (.t 20) (.c (.int .i64 0))]) (.cond (.t 21) (.seq (.ops [.build 22 [(.int .i64 0),(.list 1 [])] [],.aj 23 (.t 9),.store none 2 (.t 6) (.t 22),.aC 7 (.t 23)]) .ret) .skip))) (.seq (.seq (.ops [.aV 24 (.t 3) 0,.load 25 none (.t 24),.aV 26 (.t 4) 0,.load 27 none (.t 26),.bin 28 .neq (.t 25) (.t 27)]) (.cond (.t 28) (.seq (.ops [.build 29 [(.int .i64 0),(.list 1 [])] [],.store none 2 (.t 6) (.t 29),.aC 7 (.c (.int .i64 22))]) .ret) .skip)) (.seq (.ops [.aV 30 (.t 3) 1,.load 31 none (.t 30),.len 32 (.t 31),.make 33 (.int .u64 0) (.t 32) (.t 32),.aC 10 (.t 33)]) (.seq (.seq (.ops [.aj 34 (.t 10),.len 35 (.t 34),.aj 36 (.c (.int .i64 0))])
    Js) (.seq (.ops [.aV 55 (.t 3) 0,.load 56 none (.t 55),.aj 57 (.t 10),.build 58 [(.int .i64 0),(.list 1 [])] [(0,1,(.t 56)),(1,1,(.t 57))],.store none 2 (.t 6) (.t 58),.aC 7 (.c (.int .i64 0))]) .ret)))))))⟩
def MB:je:=⟨2,8,[.tmp 4],(.seq (.ops [.aC 4 (.c (.int .u64 0))]) (.seq (.ops [.aj 5 (.t 0),.aj 6 (.t 1),.bin 7 .or (.t 5) (.t 6),.aC 4 (.t 7)]) .ret))⟩
def MC:je:=⟨2,6,[.tmp 4],(.seq (.ops [.box 2 (.t 0),.box 3 (.t 1),.aC 4 (.c .sW)]) (.seq (.ops [.NW 5 109 [(.t 2),(.t 3)],.aC 4 (.t 5)]) .ret))⟩
def MF:je:=⟨2,9,[.tmp 4],(.seq (.ops [.aC 4 (.c (.bool false))]) (.seq (.ops [.aj 5 (.t 0),.aj 6 (.t 1),.call 7 112 [(.t 5),(.t 6)],.bin 8 .geq (.t 7) (.c (.int .i64 0)),.aC 4 (.t 8)]) .ret))⟩
def MG:je:=⟨1,9,[.tmp 2],(.seq (.ops [.aC 2 (.c (.bool false))]) (.seq (.ops [.aj 3 (.t 0),.bin 4 .lss (.t 3) (.c (.int .i64 1)),.aj 5 (.t 4),.grd 5 false (.aj 6 (.t 0)),.grd 5 false (.bin 7 .gtr (.t 6) (.c (.int .i64 4096))),.pick 8 (.t 5) (.c (.bool true)) (.t 7),.aC 2 (.t 8)]) .ret))⟩
def CW:ah:=(.seq (.ops [.bin 14 .lss (.t 13) (.t 12)]) (.seq (.cond (.t 14) .skip (.exit 0)) (.seq (.block 1 (.seq (.ops [.bD 15 1 (.t 11) (.t 13),.load 16 none (.t 15),.aC 7 (.t 16)]) (.ops [.aj 17 (.t 5),.aj 18 (.t 1),.aj 19 (.t 7),.jV 20 (.t 18) [(.t 19)],.jA 21 1 [(.t 20)],.app 22 1 (.t 17) (.t 21),.aC 5 (.t 22)]))) (.ops [.bin 23 .add (.t 13) (.c (.int .i64 1)),.aj 13 (.t 23)]))))
def CX:ah :=
(.clean [0,1,5,10,11,12,13,22] [4,5] (.block 0 (.loop [0,1,5,10,11,12,13,22] CW)))
def MH:je:=⟨2,25,[.tmp 4],(.seq (.ops [.aC 4 (.nil 1)]) (.seq (.ops [.aj 8 (.t 0),.len 9 (.t 8),.make 10 (.int .i64 0) (.c (.int .i64 0)) (.t 9),.aC 5 (.t 10)]) (.seq (.seq (.ops [.aj 11 (.t 0),.len 12 (.t 11),.aj 13 (.c (.int .i64 0))])
   CX) (.seq (.ops [.aj 24 (.t 5),.aC 4 (.t 24)]) .ret))))⟩
def MI:je:=⟨1,5,[.tmp 2],(.seq (.ops [.aC 2 (.c (.int .i64 0))]) (.seq (.ops [.aj 3 (.t 0),.len 4 (.t 3),.aC 2 (.t 4)]) .ret))⟩
def YP:je:=⟨1,6,[.tmp 2],(.seq (.ops [.aC 2 (.c (.bool false))]) (.seq (.ops [.aj 3 (.t 0),.aj 4 (.t 0),.bin 5 .neq (.t 3) (.t 4),.aC 2 (.t 5)]) .ret))⟩
def yj:ah:=(.seq (.seq (.ops [.aj 24 (.t 9),.aV 25 (.t 4) 0,.load 26 none (.t 25),.aV 27 (.t 4) 1,.load 28 none (.t 27),.bin 29 .add (.t 26) (.t 28),.bin 30 .lss (.t 24) (.t 29)]) (.cond (.t 30) .skip (.exit 0))) (.seq (.block 1 (.seq (.ops [.aj 33 (.t 2)]) (.cond (.t 33) (.tJ [] [] (some ([0,1,2,3,4,5,6,7,8,9,10,11,12,13,14,15],[],16,[])) [] [.aV 34 (.t 8) 1,.load 35 none (.t 34),.aj 36 (.t 9),.bin 37 .quo (.t 36) (.c (.int .i64 64)),.aV 38 (.t 8) 1,.load 39 none (.t 38),.aj 40 (.t 9),.bin 41 .quo (.t 40) (.c (.int .i64 64)),.bD 42 1 (.t 39) (.t 41),.load 43 none (.t 42),.aj 44 (.t 9),.bin 45 .rem (.t 44) (.c (.int .i64 64)),.conv 46 .u64 (.t 45),.bin 47 .shl (.c (.int .u64 1)) (.t 46),.bin 48 .or (.t 43) (.t 47),.bD 49 1 (.t 35) (.t 37),.store none 1 (.t 49) (.t 48)]) (.tJ [] [] (some ([0,1,2,3,4,5,6,7,8,9,10,11,12,13,14,15],[],16,[])) [] [.aV 50 (.t 8) 1,.load 51 none (.t 50),.aj 52 (.t 9),.bin 53 .quo (.t 52) (.c (.int .i64 64)),.aV 54 (.t 8) 1,.load 55 none (.t 54),.aj 56 (.t 9),.bin 57 .quo (.t 56) (.c (.int .i64 64)),.bD 58 1 (.t 55) (.t 57),.load 59 none (.t 58),.aj 60 (.t 9),.bin 61 .rem (.t 60) (.c (.int .i64 64)),.conv 62 .u64 (.t 61),.bin 63 .shl (.c (.int .u64 1)) (.t 62),.bin 64 .andNot (.t 59) (.t 63),.bD 65 1 (.t 51) (.t 53),.store none 1 (.t 65) (.t 64)])))) (.ops [.aj 31 (.t 9),.bin 32 .add (.t 31) (.c (.int .i64 1)),.aC 9 (.t 32)])))
def CY:ah :=
(.clean [2,4,6,8,9] [6,7,8] (.block 0 (.loop [2,4,6,8,9] yj)))
def CZ:je:=⟨3,67,[.cell 6 (some 2),.tmp 7],(.seq (.ops [.box 3 (.t 0),.box 4 (.t 1),.alloc 6 [(.int .i64 0),(.list 1 [])],.aC 7 (.c (.int .i64 0))]) (.seq (.seq (.ops [.load 10 (some 2) (.t 3),.call 11 53 [(.t 10)],.bin 12 .neq (.t 11) (.c (.int .i64 0))]) (.cond (.t 12) (.seq (.ops [.build 13 [(.int .i64 0),(.list 1 [])] [],.store none 2 (.t 6) (.t 13),.aC 7 (.c (.int .i64 3))]) .ret) .skip)) (.seq (.seq (.ops [.load 14 (some 2) (.t 4),.aV 15 (.t 3) 0,.load 16 none (.t 15),.call 17 113 [(.t 14),(.t 16)],.un 18 .not (.t 17)]) (.cond (.t 18) (.seq (.ops [.build 19 [(.int .i64 0),(.list 1 [])] [],.store none 2 (.t 6) (.t 19),.aC 7 (.c (.int .i64 2))]) .ret) .skip)) (.seq (.ops [.load 20 (some 2) (.t 3),.call 21 114 [(.t 20)],.alloc 8 [(.int .i64 0),(.list 1 [])],.VZ 2 (.t 8) (.t 21)]) (.seq (.seq (.ops [.aV 22 (.t 4) 0,.load 23 none (.t 22),.aC 9 (.t 23)])
    CY) (.seq (.ops [.load 66 (some 2) (.t 8),.store none 2 (.t 6) (.t 66),.aC 7 (.c (.int .i64 0))]) .ret))))))⟩
def yt:ah:=(.seq (.ops [.bin 8 .lss (.t 7) (.t 6)]) (.seq (.cond (.t 8) .skip (.exit 0)) (.seq (.block 1 (.seq (.ops [.aj 9 (.t 7),.aC 4 (.t 9)]) (.seq (.tJ [] [] (some ([0,1,2,3,4,5,6,7,8,9,10,11],[],12,[])) [13,14] [.load 10 none (.t 1),.aj 11 (.t 4),.bD 12 8 (.t 10) (.t 11),.load 13 (some 8) (.t 12),.load 14 none (.t 2),.aj 15 (.t 4),.bD 16 8 (.t 14) (.t 15),.load 17 (some 8) (.t 16),.NQ 18 true 8 (.t 13) (.t 17),.aj 19 (.t 18),.grd 19 true (.aj 20 (.t 0)),.grd 19 true (.aj 21 (.t 4)),.grd 19 true (.yield 22 (.t 20) [(.t 21)]),.grd 19 true (.un 23 .not (.t 22)),.pick 24 (.t 19) (.t 23) (.c (.bool false))]) (.cond (.t 24) .ret .skip)))) (.ops [.bin 25 .add (.t 7) (.c (.int .i64 1)),.aj 7 (.t 25)]))))
def C9:ah :=
(.clean [0,1,2,6,7] [] (.block 0 (.loop [0,1,2,6,7] yt)))
def MJ:je:=⟨3,26,[],(.seq (.ops [.load 5 none (.t 1),.len 6 (.t 5),.aj 7 (.c (.int .i64 0))])
 C9)⟩
def Dc:ah:=(.seq (.seq (.ops [.aj 24 (.t 5),.bin 25 .neq (.t 24) (.c (.int .u64 0))]) (.cond (.t 25) .skip (.exit 2))) (.block 3 (.seq (.seq (.ops [.aj 26 (.t 0),.aj 27 (.t 4),.bin 28 .mul (.t 27) (.c (.int .i64 64)),.aj 29 (.t 5),.call 30 111 [(.t 29)],.bin 31 .add (.t 28) (.t 30),.yield 32 (.t 26) [(.t 31)],.un 33 .not (.t 32)]) (.cond (.t 33) .ret .skip)) (.ops [.aj 34 (.t 5),.aj 35 (.t 5),.bin 36 .sub (.t 35) (.c (.int .u64 1)),.bin 37 .and (.t 34) (.t 36),.aC 5 (.t 37)]))))
def Df:ah :=
(.clean [0,1,2,4,5,10,11,12] [0,1,2,10,11,12] (.block 2 (.loop [0,1,2,4,5,10,11,12] Dc)))
def Dh:ah:=(.seq (.ops [.bin 13 .lss (.t 12) (.t 11)]) (.seq (.cond (.t 13) .skip (.exit 0)) (.seq (.block 1 (.seq (.ops [.aj 14 (.t 12),.bD 15 1 (.t 10) (.t 12),.load 16 none (.t 15),.aC 4 (.t 14),.aC 5 (.t 16)]) (.seq (.ops [.aj 17 (.t 5),.aj 18 (.t 4),.load 19 none (.t 2),.aV 20 (.t 1) 0,.load 21 none (.t 20),.call 22 110 [(.t 18),(.t 19),(.t 21)],.bin 23 .and (.t 17) (.t 22),.aC 5 (.t 23)])
    Df))) (.ops [.bin 38 .add (.t 12) (.c (.int .i64 1)),.aj 12 (.t 38)]))))
def Di:ah :=
(.clean [0,1,2,10,11,12] [] (.block 0 (.loop [0,1,2,10,11,12] Dh)))
def MK:je:=⟨3,39,[],(.seq (.seq (.ops [.load 6 (some 2) (.t 1),.call 7 51 [(.t 6)],.bin 8 .neq (.t 7) (.c (.int .i64 0))]) (.cond (.t 8) .ret .skip)) (.seq (.ops [.aV 9 (.t 1) 1,.load 10 none (.t 9),.len 11 (.t 10),.aj 12 (.c (.int .i64 0))])
  Di))⟩
def Gf:je:=⟨3,27,[.tmp 6],(.seq (.ops [.aC 6 (.c (.int .u64 0))]) (.seq (.ops [.aj 7 (.t 1),.aj 8 (.t 0),.bin 9 .mul (.t 8) (.c (.int .i64 64)),.bin 10 .sub (.t 7) (.t 9),.mn 11 true (.t 10) (.c (.int .i64 0)),.aj 12 (.t 2),.aj 13 (.t 0),.bin 14 .mul (.t 13) (.c (.int .i64 64)),.bin 15 .sub (.t 12) (.t 14),.mn 16 false (.t 15) (.c (.int .i64 64)),.aC 1 (.t 11),.aC 2 (.t 16)]) (.seq (.seq (.ops [.aj 17 (.t 1),.aj 18 (.t 2),.bin 19 .geq (.t 17) (.t 18)]) (.cond (.t 19) (.seq (.ops [.aC 6 (.c (.int .u64 0))]) .ret) .skip)) (.seq (.ops [.aj 20 (.t 2),.aj 21 (.t 1),.bin 22 .sub (.t 20) (.t 21),.bin 23 .sub (.c (.int .i64 64)) (.t 22),.bin 24 .shr (.c (.int .u64 18446744073709551615)) (.t 23),.aj 25 (.t 1),.bin 26 .shl (.t 24) (.t 25),.aC 6 (.t 26)]) .ret))))⟩
def Dj:ah:=(.seq (.ops [.bin 9 .lss (.t 8) (.t 7)]) (.seq (.cond (.t 9) .skip (.exit 0)) (.seq (.block 1 (.seq (.ops [.aj 10 (.t 8),.aC 5 (.t 10)]) (.seq (.ops [.aj 11 (.t 1),.aj 12 (.t 0),.aj 13 (.t 5),.bD 14 1 (.t 12) (.t 13),.load 15 none (.t 14),.jV 16 (.t 11) [(.t 15)]]) (.cond (.t 16) (.seq (.ops [.aj 17 (.t 5),.aC 4 (.t 17)]) .ret) .skip)))) (.ops [.bin 18 .add (.t 8) (.c (.int .i64 1)),.aj 8 (.t 18)]))))
def Dk:ah :=
(.clean [0,1,7,8] [4] (.block 0 (.loop [0,1,7,8] Dj)))
def ML:je:=⟨2,19,[.tmp 4],(.seq (.ops [.aC 4 (.c (.int .i64 0))]) (.seq (.seq (.ops [.aj 6 (.t 0),.len 7 (.t 6),.aj 8 (.c (.int .i64 0))])
  Dk) (.seq (.ops [.aC 4 (.c (.int .i64 (-1)))]) .ret)))⟩
def zW:je:=⟨2,28,[.tmp 4],(.seq (.ops [.box 2 (.t 0),.aC 4 (.c (.bool false))]) (.seq (.ops [.aV 5 (.t 2) 0,.load 6 none (.t 5),.bin 7 .geq (.t 6) (.c (.int .i64 0)),.aj 8 (.t 7),.grd 8 true (.aV 9 (.t 2) 1),.grd 8 true (.load 10 none (.t 9)),.grd 8 true (.bin 11 .geq (.t 10) (.c (.int .i64 0))),.pick 12 (.t 8) (.t 11) (.c (.bool false)),.aj 13 (.t 12),.grd 13 true (.aV 14 (.t 2) 0),.grd 13 true (.load 15 none (.t 14)),.grd 13 true (.aj 16 (.t 1)),.grd 13 true (.bin 17 .leq (.t 15) (.t 16)),.pick 18 (.t 13) (.t 17) (.c (.bool false)),.aj 19 (.t 18),.grd 19 true (.aV 20 (.t 2) 1),.grd 19 true (.load 21 none (.t 20)),.grd 19 true (.aj 22 (.t 1)),.grd 19 true (.aV 23 (.t 2) 0),.grd 19 true (.load 24 none (.t 23)),.grd 19 true (.bin 25 .sub (.t 22) (.t 24)),.grd 19 true (.bin 26 .leq (.t 21) (.t 25)),.pick 27 (.t 19) (.t 26) (.c (.bool false)),.aC 4 (.t 27)]) .ret))⟩
def MN:je:=⟨1,10,[.own 2 2],(.seq (.ops [.box 1 (.t 0),.alloc 2 [(.int .i64 0),(.list 1 [])]]) (.seq (.tJ [(.t 1)] [([3,4,0,1],2)] (some ([],[],5,[([6],7)])) [] [.aV 6 (.t 1) 1,.load 7 none (.t 6),.aV 3 (.t 1) 0,.NV 4 none (.t 3),.jA 5 1 [],.app 8 1 (.t 5) (.t 7),.Af 9 [(.int .i64 0),(.list 1 [])] [(0,1,(.t 4))] 1 8,.VZ 2 (.t 2) (.t 9)]) .ret))⟩
def tab:List (Nat × Wj):=[(10,.code UY),(12,.code aez),(13,.code Yo),(15,.code IQ),(18,.code aeA),(20,.code aeB),(22,.code Yp),(24,.code aeC),(26,.code aeD),(27,.code Yq),(32,.code EK),(36,.code UZ),(37,.code Yr),(38,.code Qd),(39,.ext sJ),(40,.code Yt),(41,.code Yu),(42,.ext Iy),(43,.code aeE),(44,.code Yv),(45,.code Yw),(48,.code Yx),(49,.code Yy),(50,.code Yz),(51,.code EL),(53,.code Md),(56,.code YA),(57,.code aeF),(58,.code aeG),(59,.code aeH),(60,.code aeI),(61,.code aeJ),(64,.ext Mc),(66,.code aeK),(67,.code aeL),(68,.code aeM),(69,.code aeN),(70,.code aeO),(71,.code YB),(72,.code YC),(73,.code YD),(74,.code YE),(77,.code YF),(78,.code YG),(79,.code U0),(80,.code YH),(81,.code YI),(82,.code YJ),(83,.code YK),(84,.code YL),(87,.code YM),(88,.code aeP),(90,.code aeQ),(91,.code aeR),(92,.code aeS),(93,.code aeT),(94,.code Qe),(95,.code YN),(96,.code YO),(99,.code Me),(100,.code MB),(101,.code MC),(102,.code MF),(103,.code MG),(104,.code MH),(105,.code MI),(106,.code YP),(107,.code CZ),(108,.code MJ),(109,.code MK),(110,.code Gf),(111,.ext tzX),(112,.code ML),(113,.code zW),(114,.code MN)]
def env:Env:=fun f=>tab.lookup f
theorem adB:env 10=some (.code UY):=rfl
theorem agU:env 13=some (.code Yo):=rfl
theorem MO:env 15=some (.code IQ):=rfl
theorem agV:env 22=some (.code Yp):=rfl
theorem agW:env 27=some (.code Yq):=rfl
theorem Gg:env 32=some (.code EK):=rfl
theorem adC:env 36=some (.code UZ):=rfl
theorem agX:env 37=some (.code Yr):=rfl
theorem YQ:env 38=some (.code Qd):=rfl
theorem agY:env 39=some (.ext sJ):=rfl
theorem agZ:env 40=some (.code Yt):=rfl
theorem ag0:env 41=some (.code Yu):=rfl
theorem ag1:env 44=some (.code Yv):=rfl
theorem ag2:env 45=some (.code Yw):=rfl
theorem ag3:env 48=some (.code Yx):=rfl
theorem ag4:env 49=some (.code Yy):=rfl
theorem ag5:env 50=some (.code Yz):=rfl
theorem Gh:env 51=some (.code EL):=rfl
theorem Ri:env 53=some (.code Md):=rfl
theorem ag6:env 56=some (.code YA):=rfl
theorem ag7:env 64=some (.ext Mc):=rfl
theorem ag8:env 71=some (.code YB):=rfl
theorem ag9:env 72=some (.code YC):=rfl
theorem aha:env 73=some (.code YD):=rfl
theorem ahb:env 74=some (.code YE):=rfl
theorem ahc:env 77=some (.code YF):=rfl
theorem ahd:env 78=some (.code YG):=rfl
theorem adD:env 79=some (.code U0):=rfl
theorem ahe:env 80=some (.code YH):=rfl
theorem ahf:env 81=some (.code YI):=rfl
theorem ahg:env 82=some (.code YJ):=rfl
theorem ahh:env 83=some (.code YK):=rfl
theorem ahi:env 84=some (.code YL):=rfl
theorem ahj:env 87=some (.code YM):=rfl
theorem YR:env 94=some (.code Qe):=rfl
theorem ahk:env 95=some (.code YN):=rfl
theorem ahl:env 96=some (.code YO):=rfl
theorem Rj:env 99=some (.code Me):=rfl
theorem aeU:env 100=some (.code MB):=rfl
theorem aeV:env 101=some (.code MC):=rfl
theorem aeW:env 102=some (.code MF):=rfl
theorem aeX:env 103=some (.code MG):=rfl
theorem aeY:env 104=some (.code MH):=rfl
theorem aeZ:env 105=some (.code MI):=rfl
theorem Qg:env 107=some (.code CZ):=rfl
theorem ae0:env 108=some (.code MJ):=rfl
theorem ae1:env 109=some (.code MK):=rfl
theorem YS:env 110=some (.code Gf):=rfl
theorem ae2:env 111=some (.ext tzX):=rfl
theorem ae3:env 112=some (.code ML):=rfl
theorem Jt:env 113=some (.code zW):=rfl
theorem ae4:env 114=some (.code MN):=rfl
end Go.Proofs.YtaaokejjmdbfaaaDoor

namespace Go.Proofs.YtaaokejjmdbfaaaDoor
open V
def kJ:=(And.intro (And.intro (And.intro (And.intro (And.intro (And.intro (And.intro (And.intro @LD (And.intro @XB @XC)) (And.intro (And.intro @aa9 @LG) (And.intro @LH @XA))) (And.intro (And.intro (And.intro @Il @XG) (And.intro @aa5 @O5)) (And.intro (And.intro @O6 @Lp) (And.intro @Lr @aa6)))) (And.intro (And.intro (And.intro (And.intro @Ik @Lu) (And.intro @TU @TV)) (And.intro (And.intro @bI @List.foldl_nil.{0,0}) (And.intro @List.foldl_cons.{0,0} @aa2))) (And.intro (And.intro (And.intro @aa3 @aa7) (And.intro @Xw @FQ)) (And.intro (And.intro @Xy @aa8) (And.intro @LC @TY))))) (And.intro (And.intro (And.intro (And.intro @Xz (And.intro @Ap @Io)) (And.intro (And.intro @EJ @LM) (And.intro @XH @Ua))) (And.intro (And.intro (And.intro @O8 @abb) (And.intro @O4 @zT)) (And.intro (And.intro @LP @Pj) (And.intro @LQ @Pm)))) (And.intro (And.intro (And.intro (And.intro @fE.eq_1 @fE.eq_2) (And.intro @fE.eq_3 @resultList.eq_1)) (And.intro (And.intro @resultList.eq_2 @mZ.eq_1) (And.intro @mZ.eq_2 @mZ.eq_3))) (And.intro (And.intro (And.intro @zBV.eq_1 @zBV.eq_2) (And.intro @splice.eq_1 @PV.tK.eq_1)) (And.intro (And.intro @PV.tK.eq_2 @PV.tK.eq_3) (And.intro @PV.tK.eq_4 @St.iD.eq_1)))))) (And.intro (And.intro (And.intro (And.intro (And.intro @St.aW.eq_1 (And.intro @St.fD.eq_1 @St.fD.eq_2)) (And.intro (And.intro @PV.single.eq_1 @PV.single.eq_2) (And.intro @XJ @Ud))) (And.intro (And.intro (And.intro @abm @XK) (And.intro @XL @Uf)) (And.intro (And.intro @XM @Ug) (And.intro @abo @XP)))) (And.intro (And.intro (And.intro (And.intro @abp @XQ) (And.intro @XR @abq)) (And.intro (And.intro @abr @abt) (And.intro @abu @bI))) (And.intro (And.intro (And.intro @bI @bI) (And.intro @bI @bI)) (And.intro (And.intro @abv @bI) (And.intro @abC @abA))))) (And.intro (And.intro (And.intro (And.intro @aby (And.intro @abw @bI)) (And.intro (And.intro @XT @bI) (And.intro @aeu @XV))) (And.intro (And.intro (And.intro @XW @XY) (And.intro @XZ @X0)) (And.intro (And.intro @bI @bI) (And.intro @bI @abG)))) (And.intro (And.intro (And.intro (And.intro @bI @abH) (And.intro @Uh @aev)) (And.intro (And.intro @abI @Ui) (And.intro @abJ @Uj))) (And.intro (And.intro (And.intro @X3 @X4) (And.intro @abK @bI)) (And.intro (And.intro @bI @bI) (And.intro @Uk @abL))))))) (And.intro (And.intro (And.intro (And.intro (And.intro (And.intro @abM (And.intro @abN @abO)) (And.intro (And.intro @bI @bI) (And.intro @bI @bI))) (And.intro (And.intro (And.intro @bI @abD) (And.intro @bI @abE)) (And.intro (And.intro @abB @abz) (And.intro @abx @bI)))) (And.intro (And.intro (And.intro (And.intro @XU @bI) (And.intro @aew @X5)) (And.intro (And.intro @X6 @X7) (And.intro @X8 @X9))) (And.intro (And.intro (And.intro @bI @bI) (And.intro @bI @abP)) (And.intro (And.intro @bI @abQ) (And.intro @Ul @aex))))) (And.intro (And.intro (And.intro (And.intro @abR (And.intro @Um @abS)) (And.intro (And.intro @Un @Ya) (And.intro @Yb @abT))) (And.intro (And.intro (And.intro @bI @bI) (And.intro @bI @Uo)) (And.intro (And.intro @plain.eq_1 @plain.eq_2) (And.intro @plain.eq_3 @plain.eq_4)))) (And.intro (And.intro (And.intro (And.intro @plain.eq_5 @plain.eq_6) (And.intro @plain.eq_7 @plain.eq_8)) (And.intro (And.intro @plain.eq_9 @plain.eq_10) (And.intro @plain.eq_11 @plain.eq_12))) (And.intro (And.intro (And.intro @plain.eq_13 @plain.eq_14) (And.intro @plain.eq_15 @plain.eq_16)) (And.intro (And.intro @plain.eq_17 @plain.eq_18) (And.intro @plain.eq_19 @plain.eq_20)))))) (And.intro (And.intro (And.intro (And.intro (And.intro @plain.eq_21 (And.intro @plain.eq_22 @plain.eq_23)) (And.intro (And.intro @plain.eq_24 @plain.eq_25) (And.intro @plain.eq_26 @plain.eq_27))) (And.intro (And.intro (And.intro @plain.eq_28 @plain.eq_29) (And.intro @plain.eq_30 @plain.eq_31)) (And.intro (And.intro @plain.eq_32 @plain.eq_33) (And.intro @act.eq_1 @act.eq_2)))) (And.intro (And.intro (And.intro (And.intro @act.eq_3 @act.eq_4) (And.intro @act.eq_5 @act.eq_6)) (And.intro (And.intro @act.eq_7 @act.eq_8) (And.intro @act.eq_9 @act.eq_10))) (And.intro (And.intro (And.intro @act.eq_11 @act.eq_12) (And.intro @act.eq_13 @act.eq_14)) (And.intro (And.intro @act.eq_15 @act.eq_16) (And.intro @act.eq_17 @act.eq_18))))) (And.intro (And.intro (And.intro (And.intro (And.intro @act.eq_19 @bZ.eq_1) (And.intro @bZ.eq_2 @bZ.eq_3)) (And.intro (And.intro @bZ.eq_4 @bZ.eq_5) (And.intro @bZ.eq_6 @bZ.eq_7))) (And.intro (And.intro (And.intro @bZ.eq_8 @bZ.eq_9) (And.intro @bZ.eq_10 @bZ.eq_11)) (And.intro (And.intro @bZ.eq_12 @bZ.eq_13) (And.intro @bZ.eq_14 @bZ.eq_15)))) (And.intro (And.intro (And.intro (And.intro @bZ.eq_16 @bZ.eq_17) (And.intro @bZ.eq_18 @bZ.eq_19)) (And.intro (And.intro @bZ.eq_20 @bZ.eq_21) (And.intro @bZ.eq_22 @bZ.eq_23))) (And.intro (And.intro (And.intro @bZ.eq_24 @bZ.eq_25) (And.intro @bZ.eq_26 @bZ.eq_27)) (And.intro (And.intro @bZ.eq_28 @bZ.eq_29) (And.intro @bZ.eq_30 @bZ.eq_31)))))))) (And.intro (And.intro (And.intro (And.intro (And.intro (And.intro (And.intro @bZ.eq_32 (And.intro @bZ.eq_33 @bZ.eq_34)) (And.intro (And.intro @bZ.eq_35 @bZ.eq_36) (And.intro @bZ.eq_37 @bZ.eq_38))) (And.intro (And.intro (And.intro @bZ.eq_39 @bZ.eq_40) (And.intro @bZ.eq_41 @bZ.eq_42)) (And.intro (And.intro @bZ.eq_43 @bZ.eq_44) (And.intro @bZ.eq_45 @bZ.eq_46)))) (And.intro (And.intro (And.intro (And.intro @bZ.eq_47 @bZ.eq_48) (And.intro @bZ.eq_49 @Bool.false_eq_true)) (And.intro (And.intro @if_true.{1} @if_false.{1}) (And.intro @Pn @LU))) (And.intro (And.intro (And.intro @St.get.eq_1 @St.get.eq_2) (And.intro @St.get.eq_3 @St.put.eq_1)) (And.intro (And.intro @St.dH.eq_1 @St.putRow.eq_1) (And.intro @St.consume.eq_1 @St.consume.eq_2))))) (And.intro (And.intro (And.intro (And.intro @St.consume.eq_3 (And.intro @St.freeze.eq_1 @St.row.eq_1)) (And.intro (And.intro @St.row.eq_2 @St.row.eq_3) (And.intro @St.elems.eq_1 @St.grab.eq_1))) (And.intro (And.intro (And.intro @St.grab.eq_2 @St.grab.eq_3) (And.intro @pO.eq_1 @pO.eq_2)) (And.intro (And.intro @pO.eq_3 @pO.eq_4) (And.intro @SG.eq_1 @SG.eq_2)))) (And.intro (And.intro (And.intro (And.intro @jC.eq_1 @jC.eq_2) (And.intro @jC.eq_3 @jC.eq_4)) (And.intro (And.intro @St.takeRow.eq_1 @St.takeRow.eq_2) (And.intro @St.takeRow.eq_3 @St.setRow.eq_1))) (And.intro (And.intro (And.intro @St.setRow.eq_2 @St.setRow.eq_3) (And.intro @St.place.eq_1 @St.place.eq_2)) (And.intro (And.intro @St.vX.eq_1 @St.vX.eq_2) (And.intro @St.setCell.eq_1 @St.jB.eq_1)))))) (And.intro (And.intro (And.intro (And.intro (And.intro @zC.eq_1 (And.intro @zC.eq_2 @zC.eq_3)) (And.intro (And.intro @zC.eq_4 @Bv.eq_1) (And.intro @Bv.eq_2 @Bv.eq_3))) (And.intro (And.intro (And.intro @Bv.eq_4 @fP.eq_1) (And.intro @fP.eq_2 @fP.eq_3)) (And.intro (And.intro @fP.eq_4 @fP.eq_5) (And.intro @fP.eq_6 @fP.eq_7)))) (And.intro (And.intro (And.intro (And.intro @fP.eq_8 @fP.eq_9) (And.intro @fP.eq_10 @fP.eq_11)) (And.intro (And.intro @fP.eq_12 @fP.eq_13) (And.intro @fP.eq_14 @fP.eq_15))) (And.intro (And.intro (And.intro @fP.eq_16 @fP.eq_17) (And.intro @SE.eq_1 @SE.eq_2)) (And.intro (And.intro @SE.eq_3 @SE.eq_4) (And.intro @BV.val.eq_1 @BV.val.eq_2))))) (And.intro (And.intro (And.intro (And.intro @BV.av.eq_1 (And.intro @BV.av.eq_2 @UM)) (And.intro (And.intro @P7 @UN) (And.intro @P8 @cells_func))) (And.intro (And.intro (And.intro @UO @L9) (And.intro @FX @FY)) (And.intro (And.intro @Yc @Ur) (And.intro @Us @PE)))) (And.intro (And.intro (And.intro (And.intro @Yd @Uu) (And.intro @Ut @Uw)) (And.intro (And.intro @PG @PI) (And.intro @PK @PL))) (And.intro (And.intro (And.intro @Ye @Ux) (And.intro @Uy @PN)) (And.intro (And.intro @Yf @UA) (And.intro @Uz @UC))))))) (And.intro (And.intro (And.intro (And.intro (And.intro (And.intro @PS (And.intro @PO @PW)) (And.intro (And.intro @PU @Yg) (And.intro @UD @UE))) (And.intro (And.intro (And.intro @PX @Yh) (And.intro @UG @UF)) (And.intro (And.intro @UH @PZ) (And.intro @PY @P6)))) (And.intro (And.intro (And.intro (And.intro @P5 @bound.eq_1) (And.intro @bound.eq_2 @bound.eq_3)) (And.intro (And.intro @dU.eq_1 @dU.eq_2) (And.intro @fQ.eq_1 @fQ.eq_2))) (And.intro (And.intro (And.intro @wF.eq_1 @wF.eq_2) (And.intro @capOf.eq_1 @FU)) (And.intro (And.intro @aes @aH) (And.intro @aQ @aF))))) (And.intro (And.intro (And.intro (And.intro @aO (And.intro @List.append_nil.{0} @aP)) (And.intro (And.intro @aG @Nat.zero_add) (And.intro @Nat.add_zero @LX))) (And.intro (And.intro (And.intro @LW @LV) (And.intro @zU @decide_true)) (And.intro (And.intro @decide_false @Bool.not_true) (And.intro @Bool.not_false @Bool.true_eq_false)))) (And.intro (And.intro (And.intro (And.intro @beq_self_eq_true.{0} @Bool.true_and) (And.intro @Bool.and_true @Bool.false_and)) (And.intro (And.intro @Bool.and_false @Bool.true_or) (And.intro @Bool.false_or @Bool.or_false))) (And.intro (And.intro (And.intro @Bool.or_true @agQ) (And.intro @agR @FP)) (And.intro (And.intro @TS @List.length_map.{0,0}) (And.intro @LY @XI)))))) (And.intro (And.intro (And.intro (And.intro (And.intro @LZ (And.intro @Po @abk)) (And.intro (And.intro @Pq @Pv) (And.intro @abl @Px))) (And.intro (And.intro (And.intro @dcall.eq_1 @zh.eq_1) (And.intro @abn.eq_1 @L8.eq_1)) (And.intro (And.intro @FW.eq_1 @Ir.eq_1) (And.intro @rD.eq_1 @mP.eq_1)))) (And.intro (And.intro (And.intro (And.intro @mP.eq_2 @mP.eq_3) (And.intro @O9 @Pg)) (And.intro (And.intro @Ph @abd) (And.intro @abe @abf))) (And.intro (And.intro (And.intro @abg @abh) (And.intro @abj @LJ)) (And.intro (And.intro @XE @Aq) (And.intro @CJ @List.mapM_cons.{0,0,0}))))) (And.intro (And.intro (And.intro (And.intro (And.intro @Py @St.jr.eq_1) (And.intro @St.jr.eq_2 @St.snap.eq_1)) (And.intro (And.intro @St.snap.eq_2 @St.snap.eq_3) (And.intro @St.snap.eq_4 @St.snap.eq_5))) (And.intro (And.intro (And.intro @St.snap.eq_6 @Pz) (And.intro @Ub @PD)) (And.intro (And.intro @Uc @Yi) (And.intro @UJ @Yj)))) (And.intro (And.intro (And.intro (And.intro @UK @UL) (And.intro @St.layAll.eq_1 @St.layAll.eq_2)) (And.intro (And.intro @St.lay.eq_1 @St.lay.eq_2) (And.intro @St.lay.eq_3 @Iq))) (And.intro (And.intro (And.intro @L6 @St.bQ.eq_1) (And.intro @St.bf.eq_1 @St.bf.eq_2)) (And.intro (And.intro @St.bf.eq_3 @St.bf.eq_4) (And.intro @St.bf.eq_5 @St.bf.eq_6)))))))))
def YT:=(And.intro (And.intro (And.intro (And.intro @List.isEmpty_nil.{0} (And.intro @aaF @N8)) (And.intro @ES (And.intro @SH @SI))) (And.intro (And.intro @N7 (And.intro @Int.le_refl @Iw)) (And.intro @Nat.le_refl (And.intro @St.aZ.eq_1 @BV.frozen.eq_1)))) (And.intro (And.intro (And.intro @BV.frozen.eq_2 (And.intro @List.take_length.{0} @List.take_append_drop.{0})) (And.intro @aA (And.intro @Int.toNat_zero @true_and))) (And.intro (And.intro @and_true (And.intro @and_self @eq_self.{1})) (And.intro @zU (And.intro @List.drop_nil.{0} @List.take_nil.{0})))))
def dK:=(And.intro (And.intro @Nat.zero_le (And.intro @List.take_zero.{0} @List.take_nil.{0})) (And.intro (And.intro @List.take_succ_cons.{0} @List.length_cons.{0}) (And.intro @List.length_nil.{0} @Nat.le_refl)))
def bJ:=And.intro @YT @kJ
end Go.Proofs.YtaaokejjmdbfaaaDoor

namespace Go.Proofs.YtaaokejjmdbfaaaDoor.V
theorem yu (x:dD):part (lT x) 0 (some 8)=some (.agg (lT x)):=by
 simp only [part,gB,Nat.zero_add,List.drop_zero]
 rw [if_pos (Nat.le_refl _),List.take_of_length_le (by rw [gB];exact Nat.le_refl _)]
theorem Dl:∀ a b:List UInt8,a.length=b.length→iE (a.map fun b=>.int .u8 (b.toNat:Int)) (b.map fun b=>.int .u8 (b.toNat:Int))=some (decide (a=b))
 |[],[],_=>rfl
 |x :: a,y :: b,h=>by
  simp only [List.length_cons,Nat.add_right_cancel_iff] at h
  simp only [List.map_cons,iE,if_pos,Dl a b h,Option.map_some,List.cons.injEq]
  congr 1
  have:((x.toNat:Int)==(y.toNat:Int))=decide (x=y):=by
   by_cases e:x=y
   ·subst e;simp
   ·have:¬ x.toNat=y.toNat:=fun h=>e (UInt8.toNat_inj.1 h)
    simp [e];omega
  rw [this,Bool.decide_and]
 |[],_ :: _,h=>by simp at h
 |_ :: _,[],h=>by simp at h
theorem qm (a b:dD):iE (lT a) (lT b)=some (decide (a=b)):=by
 unfold lT
 rw [Dl _ _ (by simp)]
 congr 1
 apply decide_eq_decide.2
 exact ⟨fun h=>Vector.toList_inj.1 h,fun h=>by rw [h]⟩
end Go.Proofs.YtaaokejjmdbfaaaDoor.V

namespace Go.Proofs.YtaaokejjmdbfaaaDoor.V
def U1 {α:Type} (p:α→Bool) (l:List α):Int:=if l.any p then (l.findIdx p:Int) else -1
theorem zX {α:Type} (p:α→Bool) (l:List α):decide (U1 p l ≥ 0)=l.any p:=by
 unfold U1
 cases l.any p
 ·rfl
 ·simp only [if_true];exact decide_eq_true (by omega)
def eqF {α β:Type} (eq:α→β→Bool) (l:List α) (m:List β):Bool:=decide (l.length=m.length)&&(l.zip m).all fun q=>eq q.1 q.2
--+
theorem acy {α:Type} {enc:α→PV} {l:List α} {p:α→Bool} {gf:Nat} {caps:List PV} (hp:∀ x∈l,cal env gf (enc x :: caps)=some [(.bool (p x),false)]) (hs:∀ x,part (enc x).cells 0 none=some (enc x)) (hl:l.length≤lim)
  {st:St} (h:st.head [0,1,7,8] st.boxes.length=some ⟨[.pv (.list 1 (l.map enc)),.pv (.func gf caps),.any,.any,.any,.any,.any,.pv (.int .i64 l.length),.pv (.int .i64 (0:Nat)),.any,.any,.any,.any,.any,.any,.any,.any,.any,.any],[],[],none⟩) :
  den env Dk st=if l.any p then some (.ret,⟨[.any,.any,.any,.any,.pv (.int .i64 (l.findIdx p)),.any,.any,.any,.any,.any,.any,.any,.any,.any,.any,.any,.any,.any,.any],[],[],none⟩) else some (.normal,⟨[.any,.any,.any,.any,.any,.any,.any,.any,.any,.any,.any,.any,.any,.any,.any,.any,.any,.any,.any],[],[],none⟩):=by
 unfold Dk
 rw [cO l.length (fun i=>⟨[.pv (.list 1 (l.map enc)),.pv (.func gf caps),.any,.any,.any,.any,.any,.pv (.int .i64 l.length),.pv (.int .i64 i),.any,.any,.any,.any,.any,.any,.any,.any,.any,.any],[],[],none⟩)
  (fun i=>if (l.drop i).any p then some (.ret,⟨[.any,.any,.any,.any,.pv (.int .i64 ((i+(l.drop i).findIdx p:Nat):Int)),.any,.any,.any,.any,.any,.any,.any,.any,.any,.any,.any,.any,.any,.any],[],[],none⟩) else some (.normal,⟨[.any,.any,.any,.any,.any,.any,.any,.any,.any,.any,.any,.any,.any,.any,.any,.any,.any,.any,.any],[],[],none⟩)) h (fun _=>rfl) (fun _=>rfl) ?_ ?_]
 ·simp only [List.drop_zero,Nat.zero_add]
 ·intro i rb hi ih
  have hi1:=cZ hi hl
  have F1:((i:Int)<(l.length:Int))=True:=eq_true (by omega)
  simp only [Dj,F1,List.length_map,ak hi,List.getElem?_map,List.getElem?_eq_getElem hi,hp _ (List.getElem_mem hi),hs,kJ,reduceCtorEq,Nat.reduceEqDiff,Nat.reduceAdd,Nat.reduceLT,Nat.reduceLeDiff,Nat.beq]
  (try simp only [fZ,iC,gq]);refine eY (fun hb=>?_) (fun hb=>?_)<;>try simp only [hb,bJ,reduceCtorEq,Nat.reduceEqDiff,Nat.reduceAdd,Nat.reduceLT,Nat.reduceLeDiff,Nat.beq]
  ·rw [List.drop_eq_getElem_cons hi]
   simp only [List.any_cons,hb,Bool.true_or,if_true,List.findIdx_cons,cond_true,Nat.add_zero]
   rfl
  ·rw [ih _ (by simp only [hi1];rfl),List.drop_eq_getElem_cons hi]
   simp only [List.any_cons,hb,Bool.false_or,List.findIdx_cons,cond_false,Nat.add_assoc,Nat.add_comm 1]
 ·intro rb
  simp only [Dj,Int.lt_irrefl,kJ,reduceCtorEq,Nat.reduceEqDiff,Nat.reduceAdd,Nat.reduceLT,Nat.reduceLeDiff,Nat.beq]
  simp only [List.drop_length,List.any_nil,Bool.false_eq_true,if_false]
  rfl
theorem ae5 {α:Type} {enc:α→PV} {l:List α} {p:α→Bool} {gf:Nat} {caps:List PV} (hp:∀ x∈l,cal env gf (enc x :: caps)=some [(.bool (p x),false)]) (hs:∀ x,part (enc x).cells 0 none=some (enc x)) (hl:l.length≤lim) :
  cal env 112 [.list 1 (l.map enc),.func gf caps]=some [(.int .i64 (U1 p l),false)]:=by
 rw [au ae3 rfl];simp only [ML];simp only [start,aH,aQ,aF,aO,aA,aB,aG,aP,Nat.reduceAdd,Nat.reduceSub]
 simp only [List.length_map,kJ,reduceCtorEq,Nat.reduceEqDiff,Nat.reduceAdd,Nat.reduceLT,Nat.reduceLeDiff,Nat.beq]
 rw [acy hp hs hl]
 rotate_left
 ·rfl
 ·simp only [U1]
  split<;>simp only [kJ,reduceCtorEq,Nat.reduceEqDiff,Nat.reduceAdd,Nat.reduceLT,Nat.reduceLeDiff,Nat.beq]
--+
theorem ae6 {α:Type} {enc:α→PV} {l:List α} {p:α→Bool} {gf:Nat} {caps:List PV} (hp:∀ x∈l,cal env gf (enc x :: caps)=some [(.bool (p x),false)]) (hs:∀ x,part (enc x).cells 0 none=some (enc x)) (hl:l.length≤lim) :
  cal env 102 [.list 1 (l.map enc),.func gf caps]=some [(.bool (l.any p),false)]:=by
 rw [au aeW rfl];simp only [MF];simp only [start,aH,aQ,aF,aO,aA,aB,aG,aP,Nat.reduceAdd,Nat.reduceSub]
 simp only [ae5 hp hs hl,zX,kJ,reduceCtorEq,Nat.reduceEqDiff,Nat.reduceAdd,Nat.reduceLT,Nat.reduceLeDiff,Nat.beq]
--+
theorem ae7 {l m:List Int} (hlm:l.length=m.length) (hl:l.length≤lim)
  {st:St} (h:st.head [0,1,12,13] st.boxes.length=some ⟨[.pv (.list 1 (l.map eI)),.pv (.list 1 (m.map eI)),.any,.any,.any,.any,.any,.any,.any,.any,.any,.any,.pv (.int .i64 l.length),.pv (.int .i64 (0:Nat)),.any,.any,.any,.any,.any,.any,.any,.any,.any,.any,.any,.any],[],[],none⟩) :
  den env IZ st=if l=m then some (.normal,⟨[.any,.any,.any,.any,.any,.any,.any,.any,.any,.any,.any,.any,.any,.any,.any,.any,.any,.any,.any,.any,.any,.any,.any,.any,.any,.any],[],[],none⟩) else some (.ret,⟨[.any,.any,.any,.any,.pv (.bool false),.any,.any,.any,.any,.any,.any,.any,.any,.any,.any,.any,.any,.any,.any,.any,.any,.any,.any,.any,.any,.any],[],[],none⟩):=by
 unfold IZ
 rw [cO l.length (fun i=>⟨[.pv (.list 1 (l.map eI)),.pv (.list 1 (m.map eI)),.any,.any,.any,.any,.any,.any,.any,.any,.any,.any,.pv (.int .i64 l.length),.pv (.int .i64 i),.any,.any,.any,.any,.any,.any,.any,.any,.any,.any,.any,.any],[],[],none⟩)
  (fun i=>if l.drop i=m.drop i then some (.normal,⟨[.any,.any,.any,.any,.any,.any,.any,.any,.any,.any,.any,.any,.any,.any,.any,.any,.any,.any,.any,.any,.any,.any,.any,.any,.any,.any],[],[],none⟩) else some (.ret,⟨[.any,.any,.any,.any,.pv (.bool false),.any,.any,.any,.any,.any,.any,.any,.any,.any,.any,.any,.any,.any,.any,.any,.any,.any,.any,.any,.any,.any],[],[],none⟩)) h (fun _=>rfl) (fun _=>rfl) ?_ ?_]
 ·simp only [List.drop_zero]
 ·intro i rb hi ih
  have hi1:=cZ hi hl
  have hj:i<m.length:=by omega
  have F1:((i:Int)<(l.length:Int))=True:=eq_true (by omega)
  simp only [IY,F1,List.length_map,ak hi,ak hj,List.getElem?_map,List.getElem?_eq_getElem hi,List.getElem?_eq_getElem hj,eI,iT,fH,yu,gB,qm,iE,kJ,reduceCtorEq,Nat.reduceEqDiff,Nat.reduceAdd,Nat.reduceLT,Nat.reduceLeDiff,Nat.beq]
  (try simp only [fZ,iC,gq]);refine eY (fun hb=>?_) (fun hb=>?_)<;>try simp only [hb,bJ,reduceCtorEq,Nat.reduceEqDiff,Nat.reduceAdd,Nat.reduceLT,Nat.reduceLeDiff,Nat.beq]
  ·rw [ih _ (by simp only [hi1];rfl),List.drop_eq_getElem_cons hi,List.drop_eq_getElem_cons hj]
   have e:l[i]=m[i]:=by
    revert hb
    generalize l[i]=x
    generalize m[i]=y
    first|(intro hb;simpa using hb)|(cases x;cases y;intro hb;simpa using hb)
   simp only [e,List.cons.injEq,true_and]
  ·rw [List.drop_eq_getElem_cons hi,List.drop_eq_getElem_cons hj,if_neg (fun e=>?_)]
   ·rfl
   ·have e:=(List.cons.inj e).1
    rw [e] at hb
    simp at hb
 ·intro rb
  simp only [IY,Int.lt_irrefl,kJ,reduceCtorEq,Nat.reduceEqDiff,Nat.reduceAdd,Nat.reduceLT,Nat.reduceLeDiff,Nat.beq]
  rw [List.drop_length,hlm,List.drop_length,if_pos rfl]
  rfl
theorem ahm {l m:List Int} (hl:l.length≤lim) :
  cal env 27 [.list 1 (l.map eI),.list 1 (m.map eI)]=some [(.bool (decide (l=m)),false)]:=by
 rw [au agW rfl];simp only [Yq];simp only [start,aH,aQ,aF,aO,aA,aB,aG,aP,Nat.reduceAdd,Nat.reduceSub]
 simp only [List.length_map,kJ,reduceCtorEq,Nat.reduceEqDiff,Nat.reduceAdd,Nat.reduceLT,Nat.reduceLeDiff,Nat.beq]
 (try simp only [fZ,iC,gq]);refine eY (fun hb=>?_) (fun hb=>?_)<;>try simp only [hb,bJ,reduceCtorEq,Nat.reduceEqDiff,Nat.reduceAdd,Nat.reduceLT,Nat.reduceLeDiff,Nat.beq]
 ·have hlm:l.length=m.length:=by simp at hb;omega
  rw [ae7 hlm hl]
  rotate_left
  ·rfl
  ·by_cases e:l=m
   ·simp only [e,kJ,reduceCtorEq,Nat.reduceEqDiff,Nat.reduceAdd,Nat.reduceLT,Nat.reduceLeDiff,Nat.beq]
   ·simp only [e,kJ,reduceCtorEq,Nat.reduceEqDiff,Nat.reduceAdd,Nat.reduceLT,Nat.reduceLeDiff,Nat.beq]
 ·have:l≠m:=fun e=>by subst e;simp at hb
  simp only [this,kJ,reduceCtorEq,Nat.reduceEqDiff,Nat.reduceAdd,Nat.reduceLT,Nat.reduceLeDiff,Nat.beq]
--+
theorem ae8 {l m:List dD} (hlm:l.length=m.length) (hl:l.length≤lim)
  {st:St} (h:st.head [0,1,12,13] st.boxes.length=some ⟨[.pv (.list 8 (l.map iT)),.pv (.list 8 (m.map iT)),.any,.any,.any,.any,.any,.any,.any,.any,.any,.any,.pv (.int .i64 l.length),.pv (.int .i64 (0:Nat)),.any,.any,.any,.any,.any,.any,.any,.any,.any,.any,.any,.any],[],[],none⟩) :
  den env Jq st=if l=m then some (.normal,⟨[.any,.any,.any,.any,.any,.any,.any,.any,.any,.any,.any,.any,.any,.any,.any,.any,.any,.any,.any,.any,.any,.any,.any,.any,.any,.any],[],[],none⟩) else some (.ret,⟨[.any,.any,.any,.any,.pv (.bool false),.any,.any,.any,.any,.any,.any,.any,.any,.any,.any,.any,.any,.any,.any,.any,.any,.any,.any,.any,.any,.any],[],[],none⟩):=by
 unfold Jq
 rw [cO l.length (fun i=>⟨[.pv (.list 8 (l.map iT)),.pv (.list 8 (m.map iT)),.any,.any,.any,.any,.any,.any,.any,.any,.any,.any,.pv (.int .i64 l.length),.pv (.int .i64 i),.any,.any,.any,.any,.any,.any,.any,.any,.any,.any,.any,.any],[],[],none⟩)
  (fun i=>if l.drop i=m.drop i then some (.normal,⟨[.any,.any,.any,.any,.any,.any,.any,.any,.any,.any,.any,.any,.any,.any,.any,.any,.any,.any,.any,.any,.any,.any,.any,.any,.any,.any],[],[],none⟩) else some (.ret,⟨[.any,.any,.any,.any,.pv (.bool false),.any,.any,.any,.any,.any,.any,.any,.any,.any,.any,.any,.any,.any,.any,.any,.any,.any,.any,.any,.any,.any],[],[],none⟩)) h (fun _=>rfl) (fun _=>rfl) ?_ ?_]
 ·simp only [List.drop_zero]
 ·intro i rb hi ih
  have hi1:=cZ hi hl
  have hj:i<m.length:=by omega
  have F1:((i:Int)<(l.length:Int))=True:=eq_true (by omega)
  simp only [Jp,F1,List.length_map,ak hi,ak hj,List.getElem?_map,List.getElem?_eq_getElem hi,List.getElem?_eq_getElem hj,eI,iT,fH,yu,gB,qm,iE,kJ,reduceCtorEq,Nat.reduceEqDiff,Nat.reduceAdd,Nat.reduceLT,Nat.reduceLeDiff,Nat.beq]
  (try simp only [fZ,iC,gq]);refine eY (fun hb=>?_) (fun hb=>?_)<;>try simp only [hb,bJ,reduceCtorEq,Nat.reduceEqDiff,Nat.reduceAdd,Nat.reduceLT,Nat.reduceLeDiff,Nat.beq]
  ·rw [ih _ (by simp only [hi1];rfl),List.drop_eq_getElem_cons hi,List.drop_eq_getElem_cons hj]
   have e:l[i]=m[i]:=by
    revert hb
    generalize l[i]=x
    generalize m[i]=y
    first|(intro hb;simpa using hb)|(cases x;cases y;intro hb;simpa using hb)
   simp only [e,List.cons.injEq,true_and]
  ·rw [List.drop_eq_getElem_cons hi,List.drop_eq_getElem_cons hj,if_neg (fun e=>?_)]
   ·rfl
   ·have e:=(List.cons.inj e).1
    rw [e] at hb
    simp at hb
 ·intro rb
  simp only [Jp,Int.lt_irrefl,kJ,reduceCtorEq,Nat.reduceEqDiff,Nat.reduceAdd,Nat.reduceLT,Nat.reduceLeDiff,Nat.beq]
  rw [List.drop_length,hlm,List.drop_length,if_pos rfl]
  rfl
theorem ahn {l m:List dD} (hl:l.length≤lim) :
  cal env 78 [.list 8 (l.map iT),.list 8 (m.map iT)]=some [(.bool (decide (l=m)),false)]:=by
 rw [au ahd rfl];simp only [YG];simp only [start,aH,aQ,aF,aO,aA,aB,aG,aP,Nat.reduceAdd,Nat.reduceSub]
 simp only [List.length_map,kJ,reduceCtorEq,Nat.reduceEqDiff,Nat.reduceAdd,Nat.reduceLT,Nat.reduceLeDiff,Nat.beq]
 (try simp only [fZ,iC,gq]);refine eY (fun hb=>?_) (fun hb=>?_)<;>try simp only [hb,bJ,reduceCtorEq,Nat.reduceEqDiff,Nat.reduceAdd,Nat.reduceLT,Nat.reduceLeDiff,Nat.beq]
 ·have hlm:l.length=m.length:=by simp at hb;omega
  rw [ae8 hlm hl]
  rotate_left
  ·rfl
  ·by_cases e:l=m
   ·simp only [e,kJ,reduceCtorEq,Nat.reduceEqDiff,Nat.reduceAdd,Nat.reduceLT,Nat.reduceLeDiff,Nat.beq]
   ·simp only [e,kJ,reduceCtorEq,Nat.reduceEqDiff,Nat.reduceAdd,Nat.reduceLT,Nat.reduceLeDiff,Nat.beq]
 ·have:l≠m:=fun e=>by subst e;simp at hb
  simp only [this,kJ,reduceCtorEq,Nat.reduceEqDiff,Nat.reduceAdd,Nat.reduceLT,Nat.reduceLeDiff,Nat.beq]
--+
theorem ae9 {α β:Type} {enc:α→PV} {enc2:β→PV} {eq:α→β→Bool} {l:List α} {m:List β} {gf:Nat} {caps:List PV} (hp:∀ x∈l,∀ y∈m,cal env gf (enc x :: enc2 y :: caps)=some [(.bool (eq x y),false)]) (hs:∀ x,part (enc x).cells 0 none=some (enc x)) (hs2:∀ x,part (enc2 x).cells 0 none=some (enc2 x)) (hlm:l.length=m.length) (hl:l.length≤lim)
  {st:St} (h:st.head [0,1,2,15,16,17] st.boxes.length=some ⟨[.pv (.list 1 (l.map enc)),.pv (.list 1 (m.map enc2)),.pv (.func gf caps),.any,.any,.any,.any,.any,.any,.any,.any,.any,.any,.any,.any,.pv (.list 1 (l.map enc)),.pv (.int .i64 l.length),.pv (.int .i64 (0:Nat)),.any,.any,.any,.any,.any,.any,.any,.any,.any,.any,.any,.any,.any,.any],[],[],none⟩) :
  den env Jo st=if (l.zip m).all (fun q=>eq q.1 q.2) then some (.normal,⟨[.any,.any,.any,.any,.any,.any,.any,.any,.any,.any,.any,.any,.any,.any,.any,.any,.any,.any,.any,.any,.any,.any,.any,.any,.any,.any,.any,.any,.any,.any,.any,.any],[],[],none⟩) else some (.ret,⟨[.any,.any,.any,.any,.any,.any,.pv (.bool false),.any,.any,.any,.any,.any,.any,.any,.any,.any,.any,.any,.any,.any,.any,.any,.any,.any,.any,.any,.any,.any,.any,.any,.any,.any],[],[],none⟩):=by
 unfold Jo
 rw [cO l.length (fun i=>⟨[.pv (.list 1 (l.map enc)),.pv (.list 1 (m.map enc2)),.pv (.func gf caps),.any,.any,.any,.any,.any,.any,.any,.any,.any,.any,.any,.any,.pv (.list 1 (l.map enc)),.pv (.int .i64 l.length),.pv (.int .i64 i),.any,.any,.any,.any,.any,.any,.any,.any,.any,.any,.any,.any,.any,.any],[],[],none⟩)
  (fun i=>if ((l.drop i).zip (m.drop i)).all (fun q=>eq q.1 q.2) then some (.normal,⟨[.any,.any,.any,.any,.any,.any,.any,.any,.any,.any,.any,.any,.any,.any,.any,.any,.any,.any,.any,.any,.any,.any,.any,.any,.any,.any,.any,.any,.any,.any,.any,.any],[],[],none⟩) else some (.ret,⟨[.any,.any,.any,.any,.any,.any,.pv (.bool false),.any,.any,.any,.any,.any,.any,.any,.any,.any,.any,.any,.any,.any,.any,.any,.any,.any,.any,.any,.any,.any,.any,.any,.any,.any],[],[],none⟩)) h (fun _=>rfl) (fun _=>rfl) ?_ ?_]
 ·simp only [List.drop_zero]
 ·intro i rb hi ih
  have hi1:=cZ hi hl
  have hj:i<m.length:=by omega
  have F1:((i:Int)<(l.length:Int))=True:=eq_true (by omega)
  simp only [Jm,F1,List.length_map,ak hi,ak hj,List.getElem?_map,List.getElem?_eq_getElem hi,List.getElem?_eq_getElem hj,hs,hs2,hp _ (List.getElem_mem hi) _ (List.getElem_mem hj),kJ,reduceCtorEq,Nat.reduceEqDiff,Nat.reduceAdd,Nat.reduceLT,Nat.reduceLeDiff,Nat.beq]
  (try simp only [fZ,iC,gq]);refine eY (fun hb=>?_) (fun hb=>?_)<;>try simp only [hb,bJ,reduceCtorEq,Nat.reduceEqDiff,Nat.reduceAdd,Nat.reduceLT,Nat.reduceLeDiff,Nat.beq]
  ·rw [ih _ (by simp only [hi1];rfl),List.drop_eq_getElem_cons hi,List.drop_eq_getElem_cons hj]
   simp only [List.zip_cons_cons,List.all_cons,hb,Bool.true_and]
  ·rw [List.drop_eq_getElem_cons hi,List.drop_eq_getElem_cons hj]
   simp only [List.zip_cons_cons,List.all_cons,hb,Bool.false_and,Bool.false_eq_true,if_false]
   rfl
 ·intro rb
  simp only [Jm,Int.lt_irrefl,kJ,reduceCtorEq,Nat.reduceEqDiff,Nat.reduceAdd,Nat.reduceLT,Nat.reduceLeDiff,Nat.beq]
  rw [List.drop_length]
  rfl
theorem adE {α β:Type} {enc:α→PV} {enc2:β→PV} {eq:α→β→Bool} {l:List α} {m:List β} {gf:Nat} {caps:List PV} (hp:∀ x∈l,∀ y∈m,cal env gf (enc x :: enc2 y :: caps)=some [(.bool (eq x y),false)]) (hs:∀ x,part (enc x).cells 0 none=some (enc x)) (hs2:∀ x,part (enc2 x).cells 0 none=some (enc2 x)) (hl:l.length≤lim) :
  cal env 77 [.list 1 (l.map enc),.list 1 (m.map enc2),.func gf caps]=some [(.bool (eqF eq l m),false)]:=by
 rw [au ahc rfl];simp only [YF];simp only [start,aH,aQ,aF,aO,aA,aB,aG,aP,Nat.reduceAdd,Nat.reduceSub]
 simp only [List.length_map,kJ,reduceCtorEq,Nat.reduceEqDiff,Nat.reduceAdd,Nat.reduceLT,Nat.reduceLeDiff,Nat.beq]
 (try simp only [fZ,iC,gq]);refine eY (fun hb=>?_) (fun hb=>?_)<;>try simp only [hb,bJ,reduceCtorEq,Nat.reduceEqDiff,Nat.reduceAdd,Nat.reduceLT,Nat.reduceLeDiff,Nat.beq]
 ·have hlm:l.length=m.length:=by simp at hb;omega
  rw [ae9 hp hs hs2 hlm hl]
  rotate_left
  ·rfl
  ·simp only [eqF,decide_eq_true hlm,Bool.true_and]
   cases (l.zip m).all (fun q=>eq q.1 q.2)<;>simp only [kJ,reduceCtorEq,Nat.reduceEqDiff,Nat.reduceAdd,Nat.reduceLT,Nat.reduceLeDiff,Nat.beq]
 ·have:¬ l.length=m.length:=fun e=>by rw [e] at hb;simp at hb
  simp only [eqF,decide_eq_false this,kJ,reduceCtorEq,Nat.reduceEqDiff,Nat.reduceAdd,Nat.reduceLT,Nat.reduceLeDiff,Nat.beq]
end Go.Proofs.YtaaokejjmdbfaaaDoor.V

namespace Go.Proofs.YtaaokejjmdbfaaaDoor.V
def jJ (l:List Int):Int:=if l.length<1∨8<l.length then 6 else if l.any (fun n=>decide (n<1) || decide (n > 4096)) then 2 else 0
def aS (im:jk):List Int:=im.map fun v=>(v.length:Int)
def bU (im:jk):Int:=jJ (aS im)
theorem wo {α β:Type} (f:α→β) {l:List α} {i:Nat} (h:i<l.length):(l.take i).map f++[f l[i]]=(l.take (i+1)).map f:=by
 rw [List.take_succ,List.getElem?_eq_getElem h,List.map_append];rfl
theorem acz {α:Type} {enc:α→PV} {l:List α} {g:α→Int} {gf:Nat} {caps:List PV} (hp:∀ x∈l,cal env gf (enc x :: caps)=some [(eI (g x),false)]) (hs:∀ x,part (enc x).cells 0 none=some (enc x)) (hs3:∀ x,(enc x).cells.length=1) (hl:l.length≤lim)
  {st:St} (h:st.head [0,1,5,10,11,12,13,22] st.boxes.length=some ⟨[.pv (.list 1 (l.map enc)),.pv (.func gf caps),.any,.any,.any,.row 1 [],.any,.any,.any,.any,.any,.pv (.list 1 (l.map enc)),.pv (.int .i64 l.length),.pv (.int .i64 (0:Nat)),.any,.any,.any,.any,.any,.any,.any,.any,.any,.any,.any],[],[],none⟩) :
  den env CX st=some (.normal,⟨[.any,.any,.any,.any,.any,.row 1 (l.map fun x=>eI (g x)),.any,.any,.any,.any,.any,.any,.any,.any,.any,.any,.any,.any,.any,.any,.any,.any,.any,.any,.any],[],[],none⟩):=by
 unfold CX
 rw [cO l.length (fun i=>⟨[.pv (.list 1 (l.map enc)),.pv (.func gf caps),.any,.any,.any,.row 1 ((l.take i).map fun x=>eI (g x)),.any,.any,.any,.any,.any,.pv (.list 1 (l.map enc)),.pv (.int .i64 l.length),.pv (.int .i64 i),.any,.any,.any,.any,.any,.any,.any,.any,.any,.any,.any],[],[],none⟩)
  (fun i=>some (.normal,⟨[.any,.any,.any,.any,.any,.row 1 (l.map fun x=>eI (g x)),.any,.any,.any,.any,.any,.any,.any,.any,.any,.any,.any,.any,.any,.any,.any,.any,.any,.any,.any],[],[],none⟩)) h (fun _=>rfl) (fun _=>rfl) ?_ ?_]
 ·intro i rb hi ih
  have hi1:=cZ hi hl
  have F1:((i:Int)<(l.length:Int))=True:=eq_true (by omega)
  have F2:((l.take i).length+1≤lim)=True:=eq_true (by rw [List.length_take];omega)
  have hpi:cal env gf (enc l[i] :: caps)=some [((PV.int .i64 (g l[i])),false)]:=hp _ (List.getElem_mem hi)
  try simp only [fH] at hpi
  simp only [CW,F1,F2,ak hi,List.getElem?_map,List.getElem?_eq_getElem hi,hpi,hs,hs3,bJ,reduceCtorEq,Nat.reduceEqDiff,Nat.reduceAdd,Nat.reduceLT,Nat.reduceLeDiff,Nat.beq]
  rw [ih _ (by simp only [hi1];rw [← wo _ hi];rfl)]
 ·intro rb
  simp only [CW,Int.lt_irrefl,kJ,reduceCtorEq,Nat.reduceEqDiff,Nat.reduceAdd,Nat.reduceLT,Nat.reduceLeDiff,Nat.beq]
  rw [List.take_length]
  rfl
theorem afa {α:Type} {enc:α→PV} {l:List α} {g:α→Int} {gf:Nat} {caps:List PV} (hp:∀ x∈l,cal env gf (enc x :: caps)=some [(eI (g x),false)]) (hs:∀ x,part (enc x).cells 0 none=some (enc x)) (hs3:∀ x,(enc x).cells.length=1) (hl:l.length≤lim) :
  cal env 104 [.list 1 (l.map enc),.func gf caps]=some [(.list 1 (l.map fun x=>eI (g x)),true)]:=by
 rw [au aeY rfl];simp only [MH];simp only [start,aH,aQ,aF,aO,aA,aB,aG,aP,Nat.reduceAdd,Nat.reduceSub]
 have F1:((l.length:Int)≤(lim:Int))=True:=eq_true (by omega)
 have F2:((0:Int)≤(l.length:Int))=True:=eq_true (by omega)
 simp only [F1,F2,Int.le_refl,bJ,reduceCtorEq,Nat.reduceEqDiff,Nat.reduceAdd,Nat.reduceLT,Nat.reduceLeDiff,Nat.beq]
 rw [acz hp hs hs3 hl]
 rotate_left
 ·rfl
 ·simp only [bJ,reduceCtorEq,Nat.reduceEqDiff,Nat.reduceAdd,Nat.reduceLT,Nat.reduceLeDiff,Nat.beq]
theorem afb {x:Int}:cal env 103 [eI x]=some [(.bool (decide (x<1) || decide (x > 4096)),false)]:=by
 unfold eI
 rw [au aeX rfl];simp only [MG];simp only [start,aH,aQ,aF,aO,aA,aB,aG,aP,Nat.reduceAdd,Nat.reduceSub]
 simp only [bJ,reduceCtorEq,Nat.reduceEqDiff,Nat.reduceAdd,Nat.reduceLT,Nat.reduceLeDiff,Nat.beq]
 (try simp only [fZ,iC,gq]);refine eY (fun hb=>?_) (fun hb=>?_)<;>try simp only [hb,bJ,reduceCtorEq,Nat.reduceEqDiff,Nat.reduceAdd,Nat.reduceLT,Nat.reduceLeDiff,Nat.beq]
theorem aho {l:List Int} (hl:l.length≤lim):cal env 82 [.list 1 (l.map eI)]=some [(.int .i64 (jJ l),false)]:=by
 have e1:=ae6 (l:=l) (enc:=eI) (fun x _=>afb (x:=x)) (fun x=>rfl) hl
 rw [au ahg rfl];simp only [YJ];simp only [start,aH,aQ,aF,aO,aA,aB,aG,aP,Nat.reduceAdd,Nat.reduceSub]
 simp only [e1,bJ,reduceCtorEq,Nat.reduceEqDiff,Nat.reduceAdd,Nat.reduceLT,Nat.reduceLeDiff,Nat.beq]
 repeat' ((try simp only [fZ,iC,gq]);refine eY (fun hb=>?_) (fun hb=>?_)<;>try simp only [hb,e1,bJ,reduceCtorEq,Nat.reduceEqDiff,Nat.reduceAdd,Nat.reduceLT,Nat.reduceLeDiff,Nat.beq])
 all_goals grind [jJ]
theorem afc {v:List dD}:cal env 105 [bg v]=some [(eI v.length,false)]:=by
 unfold bg eI
 rw [au aeZ rfl];simp only [MI];simp only [start,aH,aQ,aF,aO,aA,aB,aG,aP,Nat.reduceAdd,Nat.reduceSub]
 simp only [bJ,reduceCtorEq,Nat.reduceEqDiff,Nat.reduceAdd,Nat.reduceLT,Nat.reduceLeDiff,Nat.beq]
theorem YU {im:jk} (hl:im.length≤lim):cal env 83 [.list 1 (im.map bg)]=some [(.list 1 ((aS im).map eI),true)]:=by
 have e1:=afa (enc:=bg) (l:=im) (fun x _=>afc (v:=x)) (fun x=>rfl) (fun x=>rfl) hl
 rw [au ahh rfl];simp only [YK];simp only [start,aH,aQ,aF,aO,aA,aB,aG,aP,Nat.reduceAdd,Nat.reduceSub]
 simp only [e1,bJ,reduceCtorEq,Nat.reduceEqDiff,Nat.reduceAdd,Nat.reduceLT,Nat.reduceLeDiff,Nat.beq]
 simp [aS]
theorem YV {im:jk} (hl:im.length≤lim):cal env 50 [.list 1 (im.map bg)]=some [(.int .i64 (bU im),false)]:=by
 have h2:(aS im).length≤lim:=by simpa [aS] using hl
 have e1:=YU hl
 have e2:=aho h2
 rw [au ag5 rfl];simp only [Yz];simp only [start,aH,aQ,aF,aO,aA,aB,aG,aP,Nat.reduceAdd,Nat.reduceSub]
 simp only [e1,e2,bJ,reduceCtorEq,Nat.reduceEqDiff,Nat.reduceAdd,Nat.reduceLT,Nat.reduceLeDiff,Nat.beq]
 rfl
theorem YW {α:Type} [DecidableEq α]:∀ (l m:List α),eqF (fun x y=>decide (x=y)) l m=decide (l=m)
 |[],[]=>by simp [eqF]
 |[],_ :: _=>by simp [eqF]
 |_ :: _,[]=>by simp [eqF]
 |x :: l,y :: m=>by
  have:=YW l m
  simp only [eqF,List.length_cons,List.zip_cons_cons,List.all_cons,List.cons.injEq,Bool.decide_and] at *
  rw [← this]
  by_cases h:l.length=m.length<;>simp [h]
theorem ahp {a b:jk} (ha:a.length≤lim) (hr:∀ v∈a,v.length≤lim):cal env 40 [.list 1 (a.map bg),.list 1 (b.map bg)]=some [(.bool (decide (a=b)),false)]:=by
 have e1:=adE (enc:=bg) (enc2:=bg) (l:=a) (m:=b) (eq:=fun x y=>decide (x=y)) (fun x hx y _=>ahn (hr x hx)) (fun x=>rfl) (fun x=>rfl) ha
 rw [YW] at e1
 rw [au agZ rfl];simp only [Yt];simp only [start,aH,aQ,aF,aO,aA,aB,aG,aP,Nat.reduceAdd,Nat.reduceSub]
 simp only [e1,bJ,reduceCtorEq,Nat.reduceEqDiff,Nat.reduceAdd,Nat.reduceLT,Nat.reduceLeDiff,Nat.beq]
end Go.Proofs.YtaaokejjmdbfaaaDoor.V

namespace Go.Proofs.YtaaokejjmdbfaaaDoor
noncomputable def iter (env:Env) (f:Nat) (caps:List PV) (stop:Option Nat):Option (List (List PV)):=jy (den env) env f caps stop
def Qh (n:Nat) (caps:List PV) (stop:Option Nat):St:=⟨.qO :: (caps.map .pv++List.replicate (n - (caps.length+1)) .any),[],[],some stop⟩
def afd:Ex × St→Option (List (List PV))
 |(.exit _,_)=>none
 |(.nP _ _,_)=>none
 |(_,st)=>some st.ys
section
variable {env:Env}
theorem MP (st:St):afd (.normal,st)=some st.ys:=(rfl)
theorem YX (st:St):afd (.ret,st)=some st.ys:=(rfl)
theorem Gi {f:Nat} {fn:je} {caps:List PV} {stop:Option Nat} (h:env f=some (.code fn)) (hl:caps.length+1=fn.nargs) (hr:fn.results.isEmpty=true):iter env f caps stop=(den env fn.body (Qh fn.ntmps caps stop)).bind afd:=by
 unfold iter jy
 rw [h]
 simp only [if_pos (And.intro hl hr)]
 show (den env fn.body _).bind _=_
 congr 1
 funext ⟨e,st⟩
 cases e<;>rfl
noncomputable def Dn (env:Env) (slots:List AV) (ps:List Nat) (assign body:ah) (nb:Nat) (x:List PV) (st:St):Option (Ex × St) :=
 (fF slots ps x).bind fun sl=>(den env assign { st with slots:=sl }).bind fun p=>match p with
  |(.normal,st)=>(den env body st).bind fun p=>match p with
   |(.normal,st)=>if nb≤st.boxes.length then some (.normal,{ st with boxes:=st.boxes.take nb }) else none
   |(.nP _ _,_)=>none
   |p=>some p
  |_=>none
theorem MQ {slots:List AV} {ps:List Nat} {assign body:ah} {nb k:Nat} {x:List PV} {xs:List (List PV)} {st:St} :
  rounds (den env) slots ps assign body nb k (x :: xs) st=(Dn env slots ps assign body nb x st).bind fun p=>match p with
   |(.normal,st)=>rounds (den env) slots ps assign body nb (k+1) xs st
   |(e,st)=>some (some (e,k+1),st):=by
 conv=>lhs;unfold rounds
 unfold Dn
 show (fF slots ps x).bind _=_
 cases fF slots ps x with
 |none=>rfl
 |some sl =>
  simp only [Option.bind_some]
  show (den env assign _).bind _=_
  cases den env assign { st with slots:=sl } with
  |none=>rfl
  |some p =>
   obtain ⟨e,s⟩:=p
   simp only [Option.bind_some]
   cases e with
   |normal =>
    simp only
    show (den env body _).bind _=_
    cases den env body s with
    |none=>rfl
    |some p =>
     obtain ⟨e,s⟩:=p
     simp only [Option.bind_some]
     cases e with
     |normal =>
      simp only
      split<;>rfl
     |exit i=>rfl
     |ret=>rfl
     |nP t n=>rfl
   |exit i=>rfl
   |ret=>rfl
   |nP t n=>rfl
theorem acA {g:bH} {ps:List Nat} {assign body:ah} {st st1:St} {f:Nat} {caps:List PV} {xs:List (List PV)} (hg:st.dH g=some (.func f caps)) (hi:iter env f caps none=some xs)
  (hr:rounds (den env) (st.slots.map AV.froze) ps assign body st.boxes.length 0 xs { st with slots:=st.slots.map AV.froze }=some (none,st1)):den env (.rng g ps assign body) st=some (.normal,{ st1 with slots:=st.slots.map AV.froze }):=by
 rw [lJ]
 show ranged (den env) env g ps assign body st=_
 unfold ranged
 rw [hg]
 unfold iter at hi
 simp only [FU,Option.bind_some,hi,hr]
theorem Rk (B:Nat→List Box) {g:bH} {ps:List Nat} {assign body:ah} {st:St} {f:Nat} {caps:List PV} {xs:List (List PV)} (hg:st.dH g=some (.func f caps)) (hi:iter env f caps none=some xs) (hB:st.boxes=B 0)
  (h:∀ j x,xs[j]?=some x→∀ sl0,∃ sl1,Dn env (st.slots.map AV.froze) ps assign body st.boxes.length x ⟨sl0,B j,st.ys,st.stop⟩=some (.normal,⟨sl1,B (j+1),st.ys,st.stop⟩)) :
  den env (.rng g ps assign body) st=some (.normal,⟨st.slots.map AV.froze,B xs.length,st.ys,st.stop⟩):=by
 have key:∀ (l:List (List PV)) (j:Nat),xs.drop j=l→∀ (k:Nat) (sl0:List AV),∃ sl1,rounds (den env) (st.slots.map AV.froze) ps assign body st.boxes.length k l ⟨sl0,B j,st.ys,st.stop⟩=some (none,⟨sl1,B (j+l.length),st.ys,st.stop⟩):=by
  intro l
  induction l with
  |nil=>intro j _ k sl0;exact ⟨sl0,rfl⟩
  |cons x l ih =>
   intro j hj k sl0
   have hx:xs[j]?=some x:=by rw [← List.head?_drop,hj];rfl
   have hd:xs.drop (j+1)=l:=by rw [← List.drop_drop,hj];rfl
   obtain ⟨sl1,q⟩:=h j x hx sl0
   obtain ⟨sl2,q2⟩:=ih (j+1) hd (k+1) sl1
   refine ⟨sl2,?_⟩
   rw [MQ,q]
   simp only [Option.bind_some,q2,List.length_cons]
   rw [show j+1+l.length=j+(l.length+1) by omega]
 obtain ⟨sl1,q⟩:=key xs 0 (by simp) 0 (st.slots.map AV.froze)
 rw [← hB,Nat.zero_add] at q
 have r:=acA hg hi q
 exact r
theorem U2 {keep post:List Nat} {id nb:Nat} {b:ah} (n:Nat) (P:Nat→Prop) (S:Nat→St) (R:Nat→Option (Ex × St)) {st:St} (h:st.head keep st.boxes.length=some (S 0)) (hP:P 0) (hS:∀ i,(S i).boxes.length=nb) (hh:∀ i,(S i).head keep nb=some (S i))
  (step:∀ i rb,i<n→P i→(P (i+1)→∀ s,s.head keep nb=some (S (i+1))→iw env id post nb (den env rb s)=R (i+1))→iw env id post nb ((den env b (S i)).bind (next env rb))=R i)
  (last:∀ rb,P n→iw env id post nb ((den env b (S n)).bind (next env rb))=R n) :
  den env (.clean keep post (.block id (.loop keep b))) st=R 0:=by
 refine vI S R (fun i=>i≤n∧P i) (fun i=>n - i) 0 h ⟨Nat.zero_le _,hP⟩ hS hh fun i rb hi ih=>?_
 by_cases hn:i=n
 ·subst hn;exact last rb hi.2
 ·exact step i rb (by omega) hi.2 fun hp s hs=>ih (i+1) (by omega) ⟨by omega,hp⟩ s hs
noncomputable def Rl (env:Env) (body:ah) (nb:Nat):Ex × St→Option (Ex × St)
 |(.normal,st)=>(den env body st).bind fun p=>match p with
  |(.normal,st)=>if nb≤st.boxes.length then some (.normal,{ st with boxes:=st.boxes.take nb }) else none
  |(.nP _ _,_)=>none
  |p=>some p
 |_=>none
def rend (nb:Nat):Ex × St→Option (Ex × St)
 |(.normal,st)=>if nb≤st.boxes.length then some (.normal,{ st with boxes:=st.boxes.take nb }) else none
 |(.nP _ _,_)=>none
 |p=>some p
theorem U3 (slots:List AV) (ps:List Nat) (assign body:ah) (nb:Nat) (x:List PV) (st:St):Dn env slots ps assign body nb x st=(fF slots ps x).bind fun sl=>(den env assign { st with slots:=sl }).bind (Rl env body nb):=by
 unfold Dn
 rfl
theorem Dp (body:ah) (nb:Nat) (st:St):Rl env body nb (.normal,st)=(den env body st).bind (rend nb):=by
 rfl
theorem MR (nb:Nat) (st:St):rend nb (.normal,st)=if nb≤st.boxes.length then some (.normal,{ st with boxes:=st.boxes.take nb }) else none:=(rfl)
theorem U4 (nb i:Nat) (st:St):rend nb (.exit i,st)=some (.exit i,st):=(rfl)
theorem YZ (nb:Nat) (st:St):rend nb (.ret,st)=some (.ret,st):=(rfl)
theorem Y0 (slots:List AV):fF slots [] []=some slots:=(rfl)
theorem U5 (slots:List AV) (p:Nat) (ps:List Nat) (v:PV) (vs:List PV):fF slots (p :: ps) (v :: vs)=fF (slots.set p (.pv v)) ps vs:=(rfl)
theorem Y1 (v:PV):AV.froze (.pv v)=.pv v:=(rfl)
theorem U6 (sz:Nat) (es:List PV):AV.froze (.row sz es)=.pv (.list sz es):=(rfl)
theorem U7:AV.froze .any=.any:=(rfl)
theorem U8 (k:Bool) (l:List AV):AV.froze (.jQ k l)=.any:=(rfl)
theorem U9 (r:Root) (i j:Nat):AV.froze (.ref r i j)=.any:=(rfl)
theorem Va (r:Root) (i j:Nat):AV.froze (.nH r i j)=.any:=(rfl)
theorem Qi (i j:Nat):AV.froze (.aK i j)=.aK i j:=(rfl)
theorem Y2 (f:Nat) (l:List AV):AV.froze (.fn f l)=.fn f l:=(rfl)
theorem Vb:AV.froze .qO=.qO:=(rfl)
end
def EM:=And.intro @U3 (And.intro @Dp (And.intro @MR (And.intro @U4 (And.intro @YZ (And.intro @Y0 (And.intro @U5 (And.intro @Y1 (And.intro @U6 (And.intro @U7 (And.intro @U8 (And.intro @U9 (And.intro @Va (And.intro @Qi (And.intro @Y2 (And.intro @Vb (And.intro @MP @YX))))))))))))))))
end Go.Proofs.YtaaokejjmdbfaaaDoor

namespace Go.Proofs.YtaaokejjmdbfaaaDoor
def look:List (Nat × AV)→Nat→AV
 |[],_=>.any
 |(j,v) :: l,i=>dP (Nat.beq i j) v (look l i)
def sl (n:Nat) (l:List (Nat × AV)):List AV:=(List.range n).map (look l)
def mapA (f:AV→AV):List (Nat × AV)→List (Nat × AV)
 |[]=>[]
 |(j,v) :: l=>(j,f v) :: mapA f l
def keepA (l:List (Nat × AV)):List Nat→List (Nat × AV)
 |[]=>[]
 |k :: ks=>(k,look l k) :: keepA l ks
def zY:Nat→List PV→List (Nat × AV)
 |_,[]=>[]
 |k,v :: l=>(k,.pv v) :: zY (k+1) l
def MS (nb:Nat):List (Nat × AV)→Bool
 |[]=>true
 |(_,v) :: l=>AV.low nb v&&MS nb l
def Qj (n:Nat):List Nat→Bool
 |[]=>true
 |k :: ks=>decide (k<n)&&Qj n ks
theorem Y3 (i:Nat) (v:AV) (l:List (Nat × AV)):look ((i,v) :: l) i=v:=by
 show dP (Nat.beq i i) v _=v
 rw [Nat.beq_refl];rfl
theorem look_nil (i:Nat):look [] i=.any:=(rfl)
theorem afe {n i:Nat} {l:List (Nat × AV)} (h':i<n):(sl n l).getD i .any=look l i:=by
 simp [sl,List.getD_eq_getElem?_getD,h']
theorem acB {n i:Nat} {l:List (Nat × AV)} (h':i<n):(sl n l)[i]?=some (look l i):=by
 simp [sl,h']
theorem mJ (l:List (Nat × AV)) (i j:Nat) (v:AV):look ((j,v) :: l) i=if i=j then v else look l i:=by
 show dP (Nat.beq i j) v _=_
 by_cases h:i=j
 ·subst h;rw [Nat.beq_refl,if_pos rfl];rfl
 ·rw [if_neg h]
  have:Nat.beq i j=false:=by
   cases e:Nat.beq i j with
   |false=>rfl
   |true=>exact absurd (Nat.eq_of_beq_eq_true e) h
  rw [this];rfl
theorem aff (n i:Nat) (v:AV) (l:List (Nat × AV)):(sl n l).set i v=sl n ((i,v) :: l):=by
 apply List.ext_getElem (by simp [sl])
 intro k h1 h2
 have hk:k<n:=by simpa [sl] using h2
 simp only [sl,List.getElem_set,List.getElem_map,List.getElem_range,mJ]
 by_cases h:i=k
 ·subst h;simp
 ·rw [if_neg h,if_neg (fun e=>h e.symm)]
theorem Vd {i j:Nat} {v:AV} {l:List (Nat × AV)} (h:(i==j)=false):look ((j,v) :: l) i=look l i:=by
 rw [mJ,if_neg (by simpa using h)]
theorem Gj (f:AV→AV) (hf:f .any=.any):∀ (l:List (Nat × AV)) (i:Nat),look (mapA f l) i=f (look l i)
 |[],i=>hf.symm
 |(j,v) :: l,i=>by
  show look ((j,f v) :: mapA f l) i=_
  rw [mJ,mJ,Gj f hf l i]
  split<;>rfl
theorem Ju {f:AV→AV} (hf:f .any=.any) (n:Nat) (l:List (Nat × AV)):(sl n l).map f=sl n (mapA f l):=by
 unfold sl
 rw [List.map_map]
 apply List.map_congr_left
 intro i _
 exact (Gj f hf l i).symm
theorem acC (n d:Nat) (l:List (Nat × AV)):(sl n l).map (AV.kill d)=sl n (mapA (AV.kill d) l):=Ju rfl n l
theorem Y4 (n d:Nat) (l:List (Nat × AV)):(sl n l).map (AV.dG d)=sl n (mapA (AV.dG d) l):=Ju rfl n l
theorem Y5 (n d y:Nat) (l:List (Nat × AV)):(sl n l).map (AV.iq d y)=sl n (mapA (AV.iq d y) l):=Ju rfl n l
theorem Y6 (n:Nat) (l:List (Nat × AV)):(sl n l).map AV.froze=sl n (mapA AV.froze l):=Ju rfl n l
theorem Y7 (f:AV→AV):mapA f []=[]:=(rfl)
theorem Ve (f:AV→AV) (j:Nat) (v:AV) (l:List (Nat × AV)):mapA f ((j,v) :: l)=(j,f v) :: mapA f l:=(rfl)
theorem Vf (l:List (Nat × AV)):keepA l []=[]:=(rfl)
theorem wS (l:List (Nat × AV)) (k:Nat) (ks:List Nat):keepA l (k :: ks)=(k,look l k) :: keepA l ks:=(rfl)
theorem Y8 (nb:Nat):MS nb []=true:=(rfl)
theorem Gl (nb k:Nat) (v:AV) (l:List (Nat × AV)):MS nb ((k,v) :: l)=(AV.low nb v&&MS nb l):=(rfl)
theorem Y9 (n:Nat):Qj n []=true:=(rfl)
theorem Gm (n k:Nat) (l:List Nat):Qj n (k :: l)=(decide (k<n)&&Qj n l):=(rfl)
theorem Vg (k:Nat):zY k []=[]:=(rfl)
theorem Dq (k:Nat) (v:PV) (l:List PV):zY k (v :: l)=(k,.pv v) :: zY (k+1) l:=(rfl)
theorem wU (l:List (Nat × AV)):∀ (ks:List Nat) (i:Nat),look (keepA l ks) i=if ks.contains i then look l i else .any
 |[],i=>rfl
 |k :: ks,i=>by
  rw [wS,mJ,wU l ks i,List.contains_cons]
  by_cases h:i=k
  ·subst h;simp
  ·have:(i==k)=false:=by simpa using h
   rw [if_neg h,this,Bool.false_or]
theorem MV (nb n:Nat) (l:List (Nat × AV)):∀ ks:List Nat,Qj n ks=true→(MS nb (keepA l ks)=true ↔ ∀ k∈ks,(look l k).low nb=true)
 |[],_=>by simp [keepA,MS]
 |k :: ks,h=>by
  rw [Gm,Bool.and_eq_true] at h
  rw [wS,Gl,Bool.and_eq_true,MV nb n l ks h.2]
  simp
theorem Rn {n nb:Nat} {l:List (Nat × AV)} {keep:List Nat} {bx:List Box} {ys:List (List PV)} {sp:Option (Option Nat)} (h:Qj n keep=true) (hb:nb≤bx.length) (hl:MS nb (keepA l keep)=true) :
  St.head ⟨sl n l,bx,ys,sp⟩ keep nb=some ⟨sl n (keepA l keep),bx.take nb,ys,sp⟩:=by
 have e:((sl n l).zipIdx.map fun (v,i)=>if keep.contains i then v else AV.any)=sl n (keepA l keep):=by
  apply List.ext_getElem (by simp [sl])
  intro i h1 h2
  simp only [sl,List.getElem_map,List.getElem_zipIdx,List.getElem_range,wU,Nat.zero_add]
 unfold St.head
 simp only
 rw [e,if_pos]
 rw [Bool.and_eq_true,decide_eq_true_eq]
 refine ⟨?_,hb⟩
 rw [List.all_eq_true]
 intro v hv
 unfold sl at hv
 obtain ⟨i,hi,rfl⟩:=List.mem_map.1 hv
 rw [wU]
 split
 ·rename_i hc
  exact (MV nb n l keep h).1 hl i (by simpa using hc)
 ·rfl
theorem Za {n nb:Nat} {e:Ex} {l:List (Nat × AV)} {keep:List Nat} {bx:List Box} {ys:List (List PV)} {sp:Option (Option Nat)} (h:Qj n keep=true) (hb:nb≤bx.length) (hl:MS nb (keepA l keep)=true) :
  lK keep nb (e,⟨sl n l,bx,ys,sp⟩)=some (e,⟨sl n (keepA l keep),bx.take nb,ys,sp⟩):=by
 unfold lK
 simp only
 rw [Rn h hb hl]
 rfl
theorem Dt:∀ (l:List PV) (k i:Nat),look (zY k l) i=if k≤i then ((l[i - k]?).map AV.pv).getD .any else .any:=by
 intro l
 induction l with
 |nil=>intro k i;simp [zY,look]
 |cons v l ih =>
  intro k i
  rw [Dq,mJ,ih]
  by_cases h1:i=k
  ·subst h1;simp
  ·rw [if_neg h1]
   by_cases h2:k≤i
   ·rw [if_pos (by omega),if_pos h2,show i - k=(i - (k+1))+1 by omega,List.getElem?_cons_succ]
   ·rw [if_neg (by omega),if_neg h2]
theorem Vh {n:Nat} {x:kE} {args:List PV} (hn:args.length+1≤n):XD n x args=⟨sl n ((0,x.av) :: zY 1 args),x.boxes,[],none⟩:=by
 unfold XD
 congr 1
 apply List.ext_getElem (by simp [sl];omega)
 intro i h1 h2
 simp only [sl,List.getElem_map,List.getElem_range,mJ,Dt]
 cases i with
 |zero=>simp
 |succ i =>
  rw [List.getElem_cons_succ,if_neg (by omega),if_pos (by omega),show i+1 - 1=i by omega]
  by_cases hi:i<args.length
  ·rw [List.getElem_append_left (by simpa using hi)]
   simp [hi]
  ·rw [List.getElem_append_right (by simp;omega)]
   simp [hi]
theorem Zb {n:Nat} {args:List PV} (hn:args.length≤n):start n args=⟨sl n (zY 0 args),[],[],none⟩:=by
 have key:=Dt
 unfold start
 congr 1
 apply List.ext_getElem (by simp [sl];omega)
 intro i h1 h2
 simp only [sl,List.getElem_map,List.getElem_range,key,Nat.zero_le,if_true,Nat.sub_zero]
 by_cases hi:i<args.length
 ·rw [List.getElem_append_left (by simpa using hi)]
  simp [hi]
 ·rw [List.getElem_append_right (by simp;omega)]
  simp [hi]
theorem afg (nb:Nat) (v:PV):AV.low nb (.pv v)=true:=(rfl)
theorem acD (nb:Nat):AV.low nb .any=true:=(rfl)
theorem acE (nb:Nat):AV.low nb .qO=true:=(rfl)
theorem acF (nb sz:Nat) (es:List PV):AV.low nb (.row sz es)=true:=(rfl)
theorem Zc (nb o j:Nat):AV.low nb (.aK o j)=decide (o<nb):=(rfl)
theorem Zd (nb t off len:Nat):AV.low nb (.ref (.slot t) off len)=true:=(rfl)
theorem Ze (nb o j off len:Nat):AV.low nb (.ref (.cell o j) off len)=decide (o<nb):=(rfl)
theorem Zf (nb t i j:Nat):AV.low nb (.nH (.slot t) i j)=true:=(rfl)
theorem Zg (nb o q i j:Nat):AV.low nb (.nH (.cell o q) i j)=decide (o<nb):=(rfl)
theorem afh (nb f:Nat) (caps:List AV):AV.low nb (.fn f caps)=caps.all fun c=>match c with
  |.pv _=>true
  |.aK o _=>o<nb
  |_=>false:=(rfl)
def bC:=And.intro @Y3 (And.intro @Vd (And.intro @look_nil (And.intro @afe (And.intro @acB (And.intro @aff (And.intro @acC (And.intro (And.intro @Y4 @Y5) (And.intro @Y6 (And.intro @Y7 (And.intro @Ve (And.intro @Vf (And.intro @wS (And.intro @Y8 (And.intro @Gl (And.intro @Y9 (And.intro @Gm (And.intro @Vg (And.intro @Dq (And.intro @Rn (And.intro @Za (And.intro @Zb (And.intro @Vh (And.intro @afg (And.intro @acD (And.intro @acE (And.intro @acF (And.intro @Zc (And.intro @Zd (And.intro @Ze (And.intro @Zf (And.intro @Zg (@afh))))))))))))))))))))))))))))))))
def aX:=And.intro @bC (And.intro @dK (And.intro @YT @kJ))
end Go.Proofs.YtaaokejjmdbfaaaDoor

namespace Go.Proofs.YtaaokejjmdbfaaaDoor.V
--+
theorem afi {α:Type} {enc:α→PV} {l:List α} {p:α→Bool} {gf:Nat} {caps:List PV} (hp:∀ x∈l,cal env gf (enc x :: caps)=some [(.bool (p x),false)]) (hs:∀ x,part (enc x).cells 0 (some 2)=some (enc x)) (hl:l.length≤lim)
  {st:St} (h:st.head [0,1,7,8] st.boxes.length=some ⟨[.pv (.list 2 (l.map enc)),.pv (.func gf caps),.any,.any,.any,.any,.any,.pv (.int .i64 l.length),.pv (.int .i64 (0:Nat)),.any,.any,.any,.any,.any,.any,.any,.any,.any,.any],[],[],none⟩) :
  den env Jl st=if l.any p then some (.ret,⟨[.any,.any,.any,.any,.pv (.int .i64 (l.findIdx p)),.any,.any,.any,.any,.any,.any,.any,.any,.any,.any,.any,.any,.any,.any],[],[],none⟩) else some (.normal,⟨[.any,.any,.any,.any,.any,.any,.any,.any,.any,.any,.any,.any,.any,.any,.any,.any,.any,.any,.any],[],[],none⟩):=by
 unfold Jl
 rw [cO l.length (fun i=>⟨[.pv (.list 2 (l.map enc)),.pv (.func gf caps),.any,.any,.any,.any,.any,.pv (.int .i64 l.length),.pv (.int .i64 i),.any,.any,.any,.any,.any,.any,.any,.any,.any,.any],[],[],none⟩)
  (fun i=>if (l.drop i).any p then some (.ret,⟨[.any,.any,.any,.any,.pv (.int .i64 ((i+(l.drop i).findIdx p:Nat):Int)),.any,.any,.any,.any,.any,.any,.any,.any,.any,.any,.any,.any,.any,.any],[],[],none⟩) else some (.normal,⟨[.any,.any,.any,.any,.any,.any,.any,.any,.any,.any,.any,.any,.any,.any,.any,.any,.any,.any,.any],[],[],none⟩)) h (fun _=>rfl) (fun _=>rfl) ?_ ?_]
 ·simp only [List.drop_zero,Nat.zero_add]
 ·intro i rb hi ih
  have hi1:=cZ hi hl
  have F1:((i:Int)<(l.length:Int))=True:=eq_true (by omega)
  simp only [Jk,F1,List.length_map,ak hi,List.getElem?_map,List.getElem?_eq_getElem hi,hp _ (List.getElem_mem hi),hs,kJ,reduceCtorEq,Nat.reduceEqDiff,Nat.reduceAdd,Nat.reduceLT,Nat.reduceLeDiff,Nat.beq]
  (try simp only [fZ,iC,gq]);refine eY (fun hb=>?_) (fun hb=>?_)<;>try simp only [hb,bJ,reduceCtorEq,Nat.reduceEqDiff,Nat.reduceAdd,Nat.reduceLT,Nat.reduceLeDiff,Nat.beq]
  ·rw [List.drop_eq_getElem_cons hi]
   simp only [List.any_cons,hb,Bool.true_or,if_true,List.findIdx_cons,cond_true,Nat.add_zero]
   rfl
  ·rw [ih _ (by simp only [hi1];rfl),List.drop_eq_getElem_cons hi]
   simp only [List.any_cons,hb,Bool.false_or,List.findIdx_cons,cond_false,Nat.add_assoc,Nat.add_comm 1]
 ·intro rb
  simp only [Jk,Int.lt_irrefl,kJ,reduceCtorEq,Nat.reduceEqDiff,Nat.reduceAdd,Nat.reduceLT,Nat.reduceLeDiff,Nat.beq]
  simp only [List.drop_length,List.any_nil,Bool.false_eq_true,if_false]
  rfl
theorem ahq {α:Type} {enc:α→PV} {l:List α} {p:α→Bool} {gf:Nat} {caps:List PV} (hp:∀ x∈l,cal env gf (enc x :: caps)=some [(.bool (p x),false)]) (hs:∀ x,part (enc x).cells 0 (some 2)=some (enc x)) (hl:l.length≤lim) :
  cal env 74 [.list 2 (l.map enc),.func gf caps]=some [(.int .i64 (U1 p l),false)]:=by
 rw [au ahb rfl];simp only [YE];simp only [start,aH,aQ,aF,aO,aA,aB,aG,aP,Nat.reduceAdd,Nat.reduceSub]
 simp only [List.length_map,kJ,reduceCtorEq,Nat.reduceEqDiff,Nat.reduceAdd,Nat.reduceLT,Nat.reduceLeDiff,Nat.beq]
 rw [afi hp hs hl]
 rotate_left
 ·rfl
 ·simp only [U1]
  split<;>simp only [kJ,reduceCtorEq,Nat.reduceEqDiff,Nat.reduceAdd,Nat.reduceLT,Nat.reduceLeDiff,Nat.beq]
--+
theorem ahr {α:Type} {enc:α→PV} {l:List α} {p:α→Bool} {gf:Nat} {caps:List PV} (hp:∀ x∈l,cal env gf (enc x :: caps)=some [(.bool (p x),false)]) (hs:∀ x,part (enc x).cells 0 (some 2)=some (enc x)) (hl:l.length≤lim) :
  cal env 37 [.list 2 (l.map enc),.func gf caps]=some [(.bool (l.any p),false)]:=by
 rw [au agX rfl];simp only [Yr];simp only [start,aH,aQ,aF,aO,aA,aB,aG,aP,Nat.reduceAdd,Nat.reduceSub]
 simp only [ahq hp hs hl,zX,kJ,reduceCtorEq,Nat.reduceEqDiff,Nat.reduceAdd,Nat.reduceLT,Nat.reduceLeDiff,Nat.beq]
end Go.Proofs.YtaaokejjmdbfaaaDoor.V

namespace Go.Proofs.YtaaokejjmdbfaaaDoor
def V5 (x:Run) (i:Nat):Prop:=x.1.2≤(i:Int)∧(i:Int)<x.1.2+(x.2.length:Int)
def jY (out:List Run):Nat:=(out.map fun x=>x.2.length).sum
def ofA (A:List dD) (x:Run):Prop:=0≤x.1.2∧x.1.2.toNat+x.2.length≤A.length∧∀ j,j<x.2.length→x.2[j]?=A[x.1.2.toNat+j]?
theorem Qk (pre:List Run) (x:Run):sV (pre++[x])=x:=by
 unfold sV
 simp
theorem Zh (out:List Run):out=[]∨∃ pre x,out=pre++[x]:=by
 rcases List.eq_nil_or_concat out with h|⟨pre,x,h⟩
 ·exact .inl h
 ·exact .inr ⟨pre,x,by simpa using h⟩
theorem zk (v:Int) (i:Nat) (s:dD) (pre:List Run) (x:Run):vV v i s (pre++[x])=if x.1.1=v∧x.1.2+(x.2.length:Int)=(i:Int) then pre++[(x.1,x.2++[s])] else pre++[x]++[((v,(i:Int)),[s])]:=by
 unfold vV
 rw [Qk]
 by_cases c:x.1.1=v∧x.1.2+(x.2.length:Int)=(i:Int)
 ·rw [if_pos c,if_pos ⟨by simp,c.1,c.2⟩]
  simp
 ·rw [if_neg c,if_neg (fun h=>c h.2)]
theorem MW (v:Int) (i:Nat) (s:dD):vV v i s []=[((v,(i:Int)),[s])]:=rfl
theorem jZ (a b:List Run):jY (a++b)=jY a+jY b:=by simp [jY]
theorem Zi (v:Int) (i:Nat) (s:dD) (out:List Run):jY (vV v i s out)=jY out+1:=by
 rcases Zh out with rfl|⟨pre,x,rfl⟩
 ·rfl
 ·rw [zk]
  split
  ·rw [jZ,jZ];simp [jY];omega
  ·rw [jZ];simp [jY]
theorem acG {v:Int} {i:Nat} {s:dD} {out:List Run} (j:Nat):(∃ x∈vV v i s out,V5 x j) ↔ (∃ x∈out,V5 x j)∨j=i:=by
 rcases Zh out with rfl|⟨pre,x,rfl⟩
 ·rw [MW]
  constructor
  ·rintro ⟨x,hx,h⟩
   rw [List.mem_singleton.1 hx] at h
   unfold V5 at h
   simp only [List.length_cons,List.length_nil] at h
   exact .inr (by omega)
  ·rintro (⟨x,hx,_⟩|rfl)
   ·cases hx
   ·exact ⟨_,List.mem_singleton.2 rfl,by unfold V5;simp only [List.length_cons,List.length_nil];omega⟩
 ·rw [zk]
  split
  ·rename_i c
   constructor
   ·rintro ⟨y,hy,h⟩
    rcases List.mem_append.1 hy with hy|hy
    ·exact .inl ⟨y,List.mem_append_left _ hy,h⟩
    ·rw [List.mem_singleton.1 hy] at h
     unfold V5 at h
     simp only [List.length_append,List.length_cons,List.length_nil] at h
     by_cases e:j=i
     ·exact .inr e
     ·exact .inl ⟨x,by simp,by unfold V5;omega⟩
   ·rintro (⟨y,hy,h⟩|rfl)
    ·rcases List.mem_append.1 hy with hy|hy
     ·exact ⟨y,List.mem_append_left _ hy,h⟩
     ·rw [List.mem_singleton.1 hy] at h
      refine ⟨_,List.mem_append_right _ (List.mem_singleton.2 rfl),?_⟩
      unfold V5 at h ⊢
      simp only [List.length_append,List.length_cons,List.length_nil]
      omega
    ·refine ⟨_,List.mem_append_right _ (List.mem_singleton.2 rfl),?_⟩
     unfold V5
     simp only [List.length_append,List.length_cons,List.length_nil]
     omega
  ·constructor
   ·rintro ⟨y,hy,h⟩
    rcases List.mem_append.1 hy with hy|hy
    ·exact .inl ⟨y,hy,h⟩
    ·rw [List.mem_singleton.1 hy] at h
     unfold V5 at h
     simp only [List.length_cons,List.length_nil] at h
     exact .inr (by omega)
   ·rintro (⟨y,hy,h⟩|rfl)
    ·exact ⟨y,List.mem_append_left _ hy,h⟩
    ·exact ⟨_,List.mem_append_right _ (List.mem_singleton.2 rfl),by unfold V5;simp only [List.length_cons,List.length_nil];omega⟩
theorem acH {A:List dD} {v:Int} {i:Nat} {s:dD} {out:List Run} (hs:A[i]?=some s) (h:∀ x∈out,ofA A x):∀ x∈vV v i s out,ofA A x:=by
 have hi:=(List.getElem?_eq_some_iff.1 hs).1
 have h1:ofA A ((v,(i:Int)),[s]):=by
  refine ⟨by simp,by simp;omega,fun j hj=>?_⟩
  have:j=0:=by simp at hj;omega
  subst this
  simp [hs]
 rcases Zh out with rfl|⟨pre,x,rfl⟩
 ·rw [MW]
  intro y hy
  rw [List.mem_singleton.1 hy];exact h1
 ·rw [zk]
  split
  ·rename_i c
   intro y hy
   rcases List.mem_append.1 hy with hy|hy
   ·exact h y (List.mem_append_left _ hy)
   ·rw [List.mem_singleton.1 hy]
    obtain ⟨a1,a2,a3⟩:=h x (by simp)
    have e:x.1.2.toNat+x.2.length=i:=by have:=c.2;omega
    refine ⟨a1,by simp only [List.length_append,List.length_cons,List.length_nil];omega,fun j hj=>?_⟩
    simp only [List.length_append,List.length_cons,List.length_nil] at hj
    by_cases hj2:j<x.2.length
    ·rw [List.getElem?_append_left hj2];exact a3 j hj2
    ·have e2:j=x.2.length:=by omega
     subst e2
     show (x.2++[s])[x.2.length]?=A[x.1.2.toNat+x.2.length]?
     rw [e,hs];simp
  ·intro y hy
   rcases List.mem_append.1 hy with hy|hy
   ·exact h y hy
   ·rw [List.mem_singleton.1 hy];exact h1
def Ql (A B:List dD) (s k:Nat):Nat:=((List.range k).filter fun j=>decide (A[s+j]?≠B[s+j]?)).length
theorem oW {v:Int} {A B:List dD} {s:Nat}:∀ k,s+k≤A.length→(∀ x∈vJ v A B s k,ofA A x)∧(∀ j,(∃ x∈vJ v A B s k,V5 x j) ↔ s≤j∧j<s+k∧A[j]?≠B[j]?)∧jY (vJ v A B s k)=Ql A B s k
 |0,_=>⟨fun x hx=>by simp [vJ] at hx,fun j=>⟨fun ⟨x,hx,_⟩=>by simp [vJ] at hx,fun h=>by omega⟩,rfl⟩
 |k+1,h=>by
  obtain ⟨h1,h2,h3⟩:=oW (v:=v) (A:=A) (B:=B) (s:=s) k (by omega)
  have hd:Ql A B s (k+1)=Ql A B s k+if A[s+k]?≠B[s+k]? then 1 else 0:=by
   unfold Ql
   rw [List.range_succ,List.filter_append,List.length_append]
   by_cases c:A[s+k]?≠B[s+k]?
   ·rw [if_pos c,List.filter_cons_of_pos (by simpa using c)];rfl
   ·rw [if_neg c,List.filter_cons_of_neg (by simpa using c)];rfl
  unfold vJ stR
  by_cases c:A[s+k]?=B[s+k]?
  ·rw [if_pos c]
   rw [if_neg (by simpa using c)] at hd
   refine ⟨h1,fun j=>(h2 j).trans ⟨fun h=>⟨h.1,by omega,h.2.2⟩,fun h=>⟨h.1,?_,h.2.2⟩⟩,h3.trans hd.symm⟩
   by_cases e:j=s+k
   ·subst e;exact absurd c h.2.2
   ·omega
  ·rw [if_neg c]
   rw [if_pos c] at hd
   have hs:A[s+k]?=some (A.getD (s+k) V.adZ):=by
    rw [List.getD_eq_getElem?_getD,List.getElem?_eq_getElem (by omega)];rfl
   refine ⟨acH hs h1,fun j=>(acG j).trans ⟨?_,fun h=>?_⟩,(Zi _ _ _ _).trans (by rw [h3,hd])⟩
   ·rintro (h|rfl)
    ·have:=(h2 j).1 h
     exact ⟨this.1,by omega,this.2.2⟩
    ·exact ⟨by omega,by omega,c⟩
   ·by_cases e:j=s+k
    ·exact .inr e
    ·exact .inl ((h2 j).2 ⟨h.1,by omega,h.2.2⟩)
end Go.Proofs.YtaaokejjmdbfaaaDoor

namespace Go.Proofs.YtaaokejjmdbfaaaDoor.V
def MX (im:jk):Bool:=decide (im.length≤9)&&im.all fun v=>decide (v.length≤24)
theorem afj {im:jk} (hl:im.length≤lim) {st:St} (h:st.head [0,3] st.boxes.length=some ⟨[.pv (.list 1 (im.map bg)),.any,.any,.pv (.int .i64 (0:Nat)),.any,.any,.any,.any,.any,.any,.any,.any,.any,.any,.any,.any,.any,.any,.any],[],[],none⟩) :
  den env Jb st=if im.all (fun v=>decide (v.length≤24)) then some (.normal,⟨[.any,.any,.any,.any,.any,.any,.any,.any,.any,.any,.any,.any,.any,.any,.any,.any,.any,.any,.any],[],[],none⟩) else some (.ret,⟨[.any,.any,.pv (.bool false),.any,.any,.any,.any,.any,.any,.any,.any,.any,.any,.any,.any,.any,.any,.any,.any],[],[],none⟩):=by
 unfold Jb
 rw [ cO (env:=env) (im.length) (fun i=>⟨[.pv (.list 1 (im.map bg)),.any,.any,.pv (.int .i64 i),.any,.any,.any,.any,.any,.any,.any,.any,.any,.any,.any,.any,.any,.any,.any],[],[],none⟩) (fun i=>if (im.drop i).all (fun v=>decide (v.length≤24)) then some (.normal,⟨[.any,.any,.any,.any,.any,.any,.any,.any,.any,.any,.any,.any,.any,.any,.any,.any,.any,.any,.any],[],[],none⟩) else some (.ret,⟨[.any,.any,.pv (.bool false),.any,.any,.any,.any,.any,.any,.any,.any,.any,.any,.any,.any,.any,.any,.any,.any],[],[],none⟩)) h (fun _=>rfl) (fun _=>rfl) ?_ ?_]
 ·first|rfl|simp only [List.drop_zero,List.take_zero,List.map_nil,Nat.zero_add,List.nil_append,List.foldl_nil]
 ·intro i rb hi ih
  have hi1:=cZ hi hl
  have F1:((i:Int)<(im.length:Int))=True:=eq_true (by omega)
  simp only [Ja,F1,bg,ak hi,List.getElem?_map,List.getElem?_eq_getElem hi,bJ,reduceCtorEq,Nat.reduceEqDiff,Nat.reduceAdd,Nat.reduceLT,Nat.reduceLeDiff,Nat.beq]
  rw [List.drop_eq_getElem_cons hi,List.all_cons]
  (try simp only [fZ,iC,gq]);refine eY (fun hb=>?_) (fun hb=>?_)<;>try simp only [hb,bJ,reduceCtorEq,Nat.reduceEqDiff,Nat.reduceAdd,Nat.reduceLT,Nat.reduceLeDiff,Nat.beq]
  ·rw [decide_eq_false (by simp at hb;omega)];rfl
  ·rw [ih _ (by simp only [hi1];rfl),decide_eq_true (show im[i].length≤24 by simp at hb;omega),Bool.true_and]
 ·intro rb
  simp only [Ja,Int.lt_irrefl,bJ,reduceCtorEq,Nat.reduceEqDiff,Nat.reduceAdd,Nat.reduceLT,Nat.reduceLeDiff,Nat.beq]
  rw [List.drop_length]
  rfl
theorem aht {im:jk}:cal env 41 [.list 1 (im.map bg)]=some [(.bool (MX im),false)]:=by
 rw [au ag0 rfl];simp only [Yu];simp only [start,aH,aQ,aF,aO,aA,aB,aG,aP,Nat.reduceAdd,Nat.reduceSub]
 simp only [bJ,reduceCtorEq,Nat.reduceEqDiff,Nat.reduceAdd,Nat.reduceLT,Nat.reduceLeDiff,Nat.beq]
 (try simp only [fZ,iC,gq]);refine eY (fun hb=>?_) (fun hb=>?_)<;>try simp only [hb,bJ,reduceCtorEq,Nat.reduceEqDiff,Nat.reduceAdd,Nat.reduceLT,Nat.reduceLeDiff,Nat.beq]
 ·simp at hb
  rw [MX,decide_eq_false (by omega)];rfl
 ·have hl:im.length≤9:=by simp at hb;omega
  rw [afj (im:=im) (by unfold lim;omega)]
  rotate_left
  ·rfl
  ·rw [MX,decide_eq_true hl,Bool.true_and]
   cases im.all (fun v=>decide (v.length≤24))<;>simp only [kJ,reduceCtorEq,Nat.reduceEqDiff,Nat.reduceAdd,Nat.reduceLT,Nat.reduceLeDiff,Nat.beq]
end Go.Proofs.YtaaokejjmdbfaaaDoor.V

namespace Go.Proofs.YtaaokejjmdbfaaaDoor.V
def dif (a b:List dD) (i:Nat):Bool:=decide (a[i]?≠b[i]?)
def Du (a b:List dD) (n:Nat):List Nat:=(List.range n).filter (dif a b)
def Ar (a b:List dD):List Nat:=Du a b a.length
def wu (out:List ji) (i:Nat):List ji:=match out.getLast? with
 |some x=>if x.start+x.count=(i:Int) then out.dropLast++[⟨x.start,x.count+1⟩] else out++[⟨i,1⟩]
 |none=>[⟨i,1⟩]
def exts (l:List Nat):List ji:=l.foldl wu []
def Jv (a b:List dD):List ji:=exts (Ar a b)
theorem Gn (a b:List dD) (n:Nat):Du a b (n+1)=if dif a b n then Du a b n++[n] else Du a b n:=by
 simp only [Du,List.range_succ,List.filter_append,List.filter_cons,List.filter_nil]
 cases dif a b n<;>simp
theorem eP (pre:List ji) (x:ji) (i:Nat):wu (pre++[x]) i=if x.start+x.count=(i:Int) then pre++[⟨x.start,x.count+1⟩] else pre++[x]++[⟨i,1⟩]:=by
 simp [wu]
theorem oD (l:List Nat) (i:Nat):exts (l++[i])=wu (exts l) i:=by simp [exts]
theorem gu {α:Type} (l:List α):l=[]∨∃ p x,l=p++[x]:=by
 rcases List.eq_nil_or_concat l with h|⟨p,x,h⟩
 ·exact .inl h
 ·exact .inr ⟨p,x,by rw [h];simp⟩
theorem Gp:∀ (n:Nat) (l:List Nat),l.length=n→∀ i:Nat,∃ pre x,exts (l++[i])=pre++[x]∧x.start+x.count=(i:Int)+1∧0≤x.start∧1≤x.count∧pre.length≤l.length:=by
 intro n
 induction n with
 |zero =>
  intro l hl i
  have:=List.eq_nil_of_length_eq_zero hl
  subst this
  exact ⟨[],⟨i,1⟩,rfl,rfl,by simp,by simp,by simp⟩
 |succ n ih =>
  intro l hl i
  rcases gu l with rfl|⟨p,j,rfl⟩
  ·simp at hl
  ·obtain ⟨pre,x,e,h1,h2,h3,h4⟩:=ih p (by simpa using hl) j
   rw [oD,e,eP]
   split
   ·rename_i hx
    exact ⟨pre,_,rfl,by simp;omega,h2,by simp;omega,by simp;omega⟩
   ·exact ⟨pre++[x],_,rfl,by simp,by simp,by simp,by simp;omega⟩
theorem acI {a b:List dD} {n i:Nat} (h:i∈Du a b n):i<n:=by
 simp [Du] at h;exact h.1
theorem Gq {n:Nat} (h:n≤lim):IntKind.i64.wrap (((n+1:Nat):Int) - 1)=(n:Int):=by
 rw [bn (by unfold lim at h;omega)];omega
theorem ahu {a b:List dD}:cal env 96 [.list 8 (a.map iT),.list 8 (b.map iT)]=some [(.func 108 [.dY [.list 8 (a.map iT)] 0,.dY [.list 8 (b.map iT)] 0],false)]:=by
 rw [au ahl rfl];simp only [YO];simp only [start,aH,aQ,aF,aO,aA,aB,aG,aP,Nat.reduceAdd,Nat.reduceSub]
 simp only [bJ,reduceCtorEq,Nat.reduceEqDiff,Nat.reduceAdd,Nat.reduceLT,Nat.reduceLeDiff,Nat.beq]
def yI (l:List Nat):List (List PV):=l.map fun (i:Nat)=>[PV.int .i64 (i:Int)]
theorem acJ (l:List Nat) (i:Nat):yI (l++[i])=yI l++[[.int .i64 (i:Int)]]:=by simp [yI]
theorem acK {a b:List dD} (hl:a.length≤lim) (hab:a.length=b.length):iter env 108 [.dY [.list 8 (a.map iT)] 0,.dY [.list 8 (b.map iT)] 0] none=some (yI (Ar a b)):=by
 have loop:∀ {st:St} (h:st.head [0,1,2,6,7] st.boxes.length=some ⟨[.qO,.pv (.dY [.list 8 (a.map iT)] 0),.pv (.dY [.list 8 (b.map iT)] 0),.any,.any,.any,.pv (.int .i64 a.length),.pv (.int .i64 (0:Nat)),.any,.any,.any,.any,.any,.any,.any,.any,.any,.any,.any,.any,.any,.any,.any,.any,.any,.any],[],yI (Du a b 0),some none⟩),
   den env C9 st=some (.normal,⟨[.any,.any,.any,.any,.any,.any,.any,.any,.any,.any,.any,.any,.any,.any,.any,.any,.any,.any,.any,.any,.any,.any,.any,.any,.any,.any],[],yI (Du a b a.length),some none⟩):=by
  intro st h
  unfold C9
  refine cO (env:=env) a.length (fun i=>⟨[.qO,.pv (.dY [.list 8 (a.map iT)] 0),.pv (.dY [.list 8 (b.map iT)] 0),.any,.any,.any,.pv (.int .i64 a.length),.pv (.int .i64 i),.any,.any,.any,.any,.any,.any,.any,.any,.any,.any,.any,.any,.any,.any,.any,.any,.any,.any],[],yI (Du a b i),some none⟩) (fun _=>some (.normal,⟨[.any,.any,.any,.any,.any,.any,.any,.any,.any,.any,.any,.any,.any,.any,.any,.any,.any,.any,.any,.any,.any,.any,.any,.any,.any,.any],[],yI (Du a b a.length),some none⟩)) h (fun _=>rfl) (fun _=>rfl) ?_ ?_
  ·intro i rb hi ih
   have hi1:=cZ hi hl
   have hj:i<b.length:=by omega
   have F1:((i:Int)<(a.length:Int))=True:=eq_true (by omega)
   by_cases hd:a[i]=b[i]
   ·simp only [yt,F1,iT,ak hi,ak hj,List.getElem?_map,List.getElem?_eq_getElem hi,List.getElem?_eq_getElem hj,yu,gB,qm,hd,decide_true,bJ,reduceCtorEq,Nat.reduceEqDiff,Nat.reduceAdd,Nat.reduceLT,Nat.reduceLeDiff,Nat.beq]
    rw [ih _ (by simp only [hi1];rw [Gn,if_neg (by simp [dif,List.getElem?_eq_getElem hi,List.getElem?_eq_getElem hj,hd])];rfl)]
   ·have hdd:dif a b i=true:=by simp [dif,List.getElem?_eq_getElem hi,List.getElem?_eq_getElem hj,hd]
    have hdf:=decide_eq_false hd
    simp only [yt,F1,iT,ak hi,ak hj,List.getElem?_map,List.getElem?_eq_getElem hi,List.getElem?_eq_getElem hj,yu,gB,qm,hdf,bJ,reduceCtorEq,Nat.reduceEqDiff,Nat.reduceAdd,Nat.reduceLT,Nat.reduceLeDiff,Nat.beq]
    rw [ih _ (by simp only [hi1];rw [Gn,if_pos hdd,acJ];rfl)]
  ·intro rb
   simp only [yt,Int.lt_irrefl,bJ,reduceCtorEq,Nat.reduceEqDiff,Nat.reduceAdd,Nat.reduceLT,Nat.reduceLeDiff,Nat.beq]
   rfl
 rw [Gi ae0 rfl rfl]
 simp only [MJ,Qh,aH,aQ,aF,aO,aA,aB,aG,aP,Nat.reduceAdd,Nat.reduceSub]
 simp only [bJ,reduceCtorEq,Nat.reduceEqDiff,Nat.reduceAdd,Nat.reduceLT,Nat.reduceLeDiff,Nat.beq]
 rw [loop]
 rotate_left
 ·rfl
 ·rfl
def MZ (l:List Nat):Int:=match l.getLast? with
 |some i=>i+1
 |none=>-1
theorem Dv (l:List Nat) (i:Nat):MZ (l++[i])=(i:Int)+1:=by simp [MZ]
theorem Na {a b:List dD} {j:Nat} {i:Nat} (h:(Ar a b)[j]?=some i):i<a.length∧j≤i∧∀ k∈(Ar a b).take j,k<i:=by
 have hs:(Ar a b).Pairwise (·<·):=(List.pairwise_lt_range (n:=a.length)).filter _
 obtain ⟨hj,rfl⟩:=List.getElem?_eq_some_iff.1 h
 refine ⟨acI (List.getElem_mem hj),?_,?_⟩
 ·have:∀ (l:List Nat),l.Pairwise (·<·)→∀ (j:Nat) (hj:j<l.length),j≤l[j]:=by
   intro l
   induction l with
   |nil=>intro _ j hj;simp at hj
   |cons x l ih =>
    intro hp j hj
    cases j with
    |zero=>simp
    |succ j =>
     have h1:=ih (List.pairwise_cons.1 hp).2
     simp only [List.length_cons,Nat.add_lt_add_iff_right] at hj
     simp only [List.getElem_cons_succ]
     cases j with
     |zero=>have:=(List.pairwise_cons.1 hp).1 l[0] (List.getElem_mem hj);omega
     |succ j =>
      have h2:=h1 (j+1) hj
      have h3:∀ (m:Nat) (hm:m<l.length),x+m+1≤l[m]:=by
       intro m
       induction m with
       |zero=>intro hm;have:=(List.pairwise_cons.1 hp).1 l[0] (List.getElem_mem hm);omega
       |succ m ihm =>
        intro hm
        have:=ihm (by omega)
        have h4:=List.pairwise_iff_getElem.1 (List.pairwise_cons.1 hp).2 m (m+1) (by omega) hm (by omega)
        omega
      have:=h3 (j+1) hj
      omega
  exact this _ hs j hj
 ·intro k hk
  obtain ⟨m,hm,rfl⟩:=List.mem_iff_getElem.1 hk
  rw [List.getElem_take]
  simp only [List.length_take] at hm
  exact List.pairwise_iff_getElem.1 hs m j (by omega) hj (by omega)
theorem ahv {a b:List dD} (hl:a.length≤lim) (hab:a.length=b.length):cal env 73 [.list 8 (a.map iT),.list 8 (b.map iT)]=some [(.list 2 ((Jv a b).map fH),true)]:=by
 have e1:=ahu (a:=a) (b:=b)
 rw [au aha rfl];simp only [YD];simp only [start,aH,aQ,aF,aO,aA,aB,aG,aP,Nat.reduceAdd,Nat.reduceSub]
 simp only [e1,bJ,reduceCtorEq,Nat.reduceEqDiff,Nat.reduceAdd,Nat.reduceLT,Nat.reduceLeDiff,Nat.beq]
 rw [Rk (env:=env) (fun j=>[⟨false,[.row 2 ((exts ((Ar a b).take j)).map fH)]⟩,⟨false,[.pv (.int .i64 (MZ ((Ar a b).take j)))]⟩]) (xs:=yI (Ar a b)) rfl (acK hl hab) rfl ?_]
 ·simp only [yI,List.length_map,List.take_length,EM,bJ,reduceCtorEq,Nat.reduceEqDiff,Nat.reduceAdd,Nat.reduceLT,Nat.reduceLeDiff,Nat.beq]
  rfl
 ·intro j x hx sl0
  simp only [yI,List.getElem?_map,Option.map_eq_some_iff] at hx
  obtain ⟨i,hi,rfl⟩:=hx
  obtain ⟨k1,k2,k3⟩:=Na hi
  have hlim:lim=1073741824:=rfl
  have hj:=(List.getElem?_eq_some_iff.1 hi).1
  have ht:(Ar a b).take (j+1)=(Ar a b).take j++[i]:=by rw [List.take_add_one,hi];rfl
  have hlen:((Ar a b).take j).length=j:=by simp;omega
  rw [ht]
  rcases gu ((Ar a b).take j) with h0|⟨p,q,h0⟩
  ·have F2:((i:Int)==-1)=false:=by simp
   have F3:(0+1≤lim)=True:=eq_true (by omega)
   have F4:IntKind.i64.wrap ((i:Int)+1)=(i:Int)+1:=bn (by omega)
   have e0:exts ([]:List Nat)=[]:=rfl
   have e1:MZ ([]:List Nat)=-1:=rfl
   have e2:exts [i]=[⟨i,1⟩]:=rfl
   have e3:MZ [i]=(i:Int)+1:=rfl
   refine ⟨?_,?_⟩
   rotate_left
   ·simp only [h0,Bd,Bf,F2,F3,F4,e0,e1,e2,e3,fH,List.map_nil,EM,bJ,reduceCtorEq,Nat.reduceEqDiff,Nat.reduceAdd,Nat.reduceLT,Nat.reduceLeDiff,Nat.beq]
    rfl
  ·obtain ⟨pre,⟨s,c⟩,e0,h1,h2,h3,h4⟩:=Gp _ p rfl q
   have hqi:q<i:=k3 q (by rw [h0];simp)
   simp only at h1 h2 h3
   have hpl:p.length+1=j:=by rw [h0] at hlen;simpa using hlen
   have F3:=Gq (n:=pre.length) (by omega)
   have F4:IntKind.i64.wrap ((i:Int)+1)=(i:Int)+1:=bn (by omega)
   have F5:IntKind.i64.wrap (c+1)=c+1:=bn (by omega)
   have F6:(pre.length+1+1≤lim)=True:=eq_true (by omega)
   have F7:index (.int .i64 (pre.length:Int)) (pre.length+1)=some pre.length:=ak (by omega)
   by_cases hc:(i:Int)=(q:Int)+1
   ·have F8:((i:Int)==(q:Int)+1)=true:=by simpa using hc
    have e2:exts (p++[q]++[i])=pre++[⟨s,c+1⟩]:=by rw [oD,e0,eP,if_pos (by simp only;omega)]
    refine ⟨?_,?_⟩
    rotate_left
    ·simp only [h0,Bd,Bf,Dv,e0,e2,F3,F4,F5,F6,F7,F8,fH,List.map_append,List.map_cons,List.map_nil,EM,bJ,reduceCtorEq,Nat.reduceEqDiff,Nat.reduceAdd,Nat.reduceLT,Nat.reduceLeDiff,Nat.beq]
     rfl
   ·have F8:((i:Int)==(q:Int)+1)=false:=by simpa using hc
    have e2:exts (p++[q]++[i])=pre++[⟨s,c⟩]++[⟨i,1⟩]:=by rw [oD,e0,eP,if_neg (by simp only;omega)]
    refine ⟨?_,?_⟩
    rotate_left
    ·simp only [h0,Bd,Bf,Dv,e0,e2,F3,F4,F5,F6,F7,F8,fH,List.map_append,List.map_cons,List.map_nil,EM,bJ,reduceCtorEq,Nat.reduceEqDiff,Nat.reduceAdd,Nat.reduceLT,Nat.reduceLeDiff,Nat.beq]
     rfl
end Go.Proofs.YtaaokejjmdbfaaaDoor.V

namespace Go.Proofs.YtaaokejjmdbfaaaDoor
structure End where
 pos:Nat
 list:Nat
 step:Int
 deriving DecidableEq,Inhabited
end Go.Proofs.YtaaokejjmdbfaaaDoor

namespace Go.Proofs.YtaaokejjmdbfaaaDoor.V
def ext (p:Nat→Bool) (n:Nat):List ji:=exts ((List.range n).filter p)
theorem Zj (p:Nat→Bool):ext p 0=[]:=rfl
theorem oZ (p:Nat→Bool) (n:Nat):ext p (n+1)=if p n then wu (ext p n) n else ext p n:=by
 unfold ext
 rw [List.range_succ,List.filter_append]
 cases h:p n
 ·simp [h]
 ·rw [List.filter_cons_of_pos h,List.filter_nil,oD];rfl
def dep (i:Nat) (s:Nat):List End→Int
 |[]=>0
 |x :: l=>(if x.list=i∧x.pos≤s then x.step else 0)+dep i s l
def Asc:List End→Prop
 |[]=>True
 |[_]=>True
 |x :: y :: l=>x.pos≤y.pos∧Asc (y :: l)
theorem Asc.tail {x:End} {l:List End} (h:Asc (x :: l)):Asc l:=by
 cases l with
 |nil=>trivial
 |cons y l=>exact h.2
def atStart (N:Nat):List End→Nat→Prop
 |[],a=>a=N
 |x :: _,a=>a=x.pos
end Go.Proofs.YtaaokejjmdbfaaaDoor.V

namespace Go.Proofs.YtaaokejjmdbfaaaDoor.V
abbrev Wd:=BitVec 64
structure Bm where
 size:Int
 ws:List Wd
 deriving DecidableEq
def eW (w:Wd):PV:=.int .u64 (w.toNat:Int)
def kK (b:Bm):PV:=.agg [.int .i64 b.size,.list 1 (b.ws.map eW)]
def bit (ws:List Wd) (i:Nat):Bool:=(ws.getD (i / 64) 0).getLsbD (i % 64)
theorem Dw {ws:List Wd} {k:Nat} (h:k<ws.length) {j:Nat} (hj:j<64):bit ws (64 * k+j)=ws[k].getLsbD j:=by
 unfold bit
 have e1:(64 * k+j) / 64=k:=by omega
 have e2:(64 * k+j) % 64=j:=by omega
 rw [e1,e2];simp [h]
theorem qK {ws:List Wd} {i:Nat} (h:i / 64<ws.length):bit ws i=ws[i / 64].getLsbD (i % 64):=by
 unfold bit;simp [h]
theorem yw {ws:List Wd} {i:Nat} (h:64 * ws.length≤i):bit ws i=false:=by
 unfold bit
 have:ws.length≤i / 64:=by omega
 rw [List.getD_eq_getElem?_getD,List.getElem?_eq_none this];simp
theorem Zk {a b:List Wd} (hl:a.length=b.length) (h:∀ i,i<64 * a.length→bit a i=bit b i):a=b:=by
 apply List.ext_getElem hl
 intro k h1 h2
 apply BitVec.eq_of_getLsbD_eq
 intro j hj
 rw [← Dw h1 hj,← Dw h2 hj,h _ (by omega)]
theorem Vj (w:Wd):BitVec.ofInt 64 (w.toNat:Int)=w:=by
 apply BitVec.eq_of_toNat_eq
 have:=w.isLt
 rw [BitVec.toNat_ofInt]
 omega
theorem Dx (n:Int):IntKind.u64.wrap n=n % 2 ^ 64:=by
 simp only [IntKind.wrap,IntKind.bits,IntKind.signed,Bool.false_and,Bool.false_eq_true,if_false]
theorem Qm (w:Wd):IntKind.u64.wrap (w.toNat:Int)=(w.toNat:Int):=by
 have:=w.isLt
 simp only [IntKind.wrap,IntKind.bits,IntKind.signed,Bool.false_and,Bool.false_eq_true,if_false]
 omega
theorem ahw (a b:Wd):IntKind.u64.wrap ((BitVec.ofInt IntKind.u64.bits (a.toNat:Int) ||| BitVec.ofInt IntKind.u64.bits (b.toNat:Int)).toNat:Int)=((a ||| b).toNat:Int):=by
 show IntKind.u64.wrap ((BitVec.ofInt 64 (a.toNat:Int) ||| BitVec.ofInt 64 (b.toNat:Int)).toNat:Int)=_
 rw [Vj,Vj,Qm]
theorem Zl (a b:Wd):IntKind.u64.wrap ((BitVec.ofInt IntKind.u64.bits (a.toNat:Int) &&& BitVec.ofInt IntKind.u64.bits (b.toNat:Int)).toNat:Int)=((a &&& b).toNat:Int):=by
 show IntKind.u64.wrap ((BitVec.ofInt 64 (a.toNat:Int) &&& BitVec.ofInt 64 (b.toNat:Int)).toNat:Int)=_
 rw [Vj,Vj,Qm]
theorem Zm (a b:Wd):IntKind.u64.wrap ((BitVec.ofInt IntKind.u64.bits (a.toNat:Int) &&& ~~~BitVec.ofInt IntKind.u64.bits (b.toNat:Int)).toNat:Int)=((a &&& ~~~b).toNat:Int):=by
 show IntKind.u64.wrap ((BitVec.ofInt 64 (a.toNat:Int) &&& ~~~BitVec.ofInt 64 (b.toNat:Int)).toNat:Int)=_
 rw [Vj,Vj,Qm]
theorem Zn (w:Wd) {s:Int} {n:Nat} (hs:s=(n:Int)):(w.toNat:Int).fdiv (2 ^ (min s.toNat IntKind.u64.bits))=((w >>> n).toNat:Int):=by
 subst hs
 rw [BitVec.toNat_ushiftRight,Nat.shiftRight_eq_div_pow,Int.toNat_natCast]
 have hw:=w.isLt
 show (w.toNat:Int).fdiv (2 ^ (min n 64))=_
 by_cases h:n≤64
 ·have h2:(0:Int)≤2 ^ n:=by have:=Int.natCast_nonneg (2 ^ n);push_cast at this;exact this
  rw [Nat.min_eq_left h,Int.fdiv_eq_ediv_of_nonneg _ h2]
  push_cast
  rfl
 ·rw [Nat.min_eq_right (by omega),Int.fdiv_eq_ediv_of_nonneg _ (by decide)]
  have h1:w.toNat / 2 ^ n=0:=Nat.div_eq_of_lt (Nat.lt_of_lt_of_le hw (Nat.pow_le_pow_right (by decide) (by omega)))
  rw [h1]
  omega
theorem adF (w:Wd) {s:Int} {n:Nat} (hs:s=(n:Int)):IntKind.u64.wrap ((w.toNat:Int) * 2 ^ (min s.toNat IntKind.u64.bits))=((w <<< n).toNat:Int):=by
 subst hs
 rw [BitVec.toNat_shiftLeft,Nat.shiftLeft_eq,Int.toNat_natCast]
 have hw:=w.isLt
 rw [Dx]
 show ((w.toNat:Int) * 2 ^ (min n 64)) % 2 ^ 64=_
 by_cases h:n≤64
 ·have e2:((2 ^ n:Nat):Int)=2 ^ n:=by push_cast;rfl
  have e3:((2 ^ 64:Nat):Int)=2 ^ 64:=by decide
  rw [Nat.min_eq_left h,Int.natCast_emod,Int.natCast_mul,e2,e3]
 ·rw [Nat.min_eq_right (by omega)]
  have e:2 ^ n=2 ^ 64 * 2 ^ (n - 64):=by rw [← Nat.pow_add];congr 1;omega
  have:w.toNat * 2 ^ n % 2 ^ 64=0:=by
   rw [e,Nat.mul_left_comm];exact Nat.mul_mod_right _ _
  rw [this]
  exact Int.mul_emod_left _ _
theorem ahx (a b:Wd):IntKind.u64.wrap ((a.toNat:Int) - (b.toNat:Int))=((a - b).toNat:Int):=by
 have h1:=a.isLt
 have h2:=b.isLt
 simp only [IntKind.wrap,IntKind.bits,IntKind.signed,Bool.false_and,Bool.false_eq_true,if_false]
 rw [BitVec.toNat_sub]
 omega
theorem Zo (a b:Wd):((a.toNat:Int)==(b.toNat:Int))=decide (a=b):=by
 by_cases h:a=b
 ·subst h;simp
 ·have:a.toNat≠b.toNat:=fun e=>h (BitVec.eq_of_toNat_eq e)
  simp [h];omega
def wz (k:Nat) (a b:Int):Wd :=
 if max (a - 64 * (k:Int)) 0 ≥ min (b - 64 * (k:Int)) 64 then 0
 else (BitVec.allOnes 64 >>> (64 - (min (b - 64 * (k:Int)) 64 - max (a - 64 * (k:Int)) 0)).toNat) <<< (max (a - 64 * (k:Int)) 0).toNat
theorem Dy (k:Nat) (a b:Int) {j:Nat} (hj:j<64):(wz k a b).getLsbD j=decide (a≤64 * (k:Int)+j∧64 * (k:Int)+j<b):=by
 unfold wz
 split
 ·rename_i h
  rw [show (0:Wd).getLsbD j=false by simp]
  symm
  apply decide_eq_false
  omega
 ·rename_i h
  rw [BitVec.getLsbD_shiftLeft,BitVec.getLsbD_ushiftRight,BitVec.getLsbD_allOnes]
  rw [Bool.eq_iff_iff]
  simp only [Bool.and_eq_true,decide_eq_true_eq,Bool.not_eq_true',decide_eq_false_iff_not]
  omega
def bitsOf (w:Wd):List Nat:=(List.range 64).filter fun j=>w.getLsbD j
theorem Vk:bitsOf 0=[]:=by
 unfold bitsOf
 rw [List.filter_eq_nil_iff]
 intro j _
 simp
theorem Ro {w:Wd} (h:w≠0):Lib.ctz 64 w.toNat<64∧(∀ j,j<Lib.ctz 64 w.toNat→w.getLsbD j=false)∧w.getLsbD (Lib.ctz 64 w.toNat)=true∧∀ j,j<64→(w &&& (w - 1)).getLsbD j=(w.getLsbD j&&decide (j≠Lib.ctz 64 w.toNat)):=by
 have h0:0<w.toNat:=by
  rcases Nat.eq_zero_or_pos w.toNat with e|e
  ·exact absurd (BitVec.eq_of_toNat_eq (by simpa using e)) h
  ·exact e
 have hl:Lib.ctz 64 w.toNat=Lib.ctzFrom 64 w.toNat:=by unfold Lib.ctz;rw [if_neg (by omega)]
 rw [hl]
 obtain ⟨m,h1,h2⟩:=Lib.ctzFrom_spec 64 w.toNat h0 w.isLt
 generalize Lib.ctzFrom 64 w.toNat=c at h1 h2
 have hbit:∀ j,w.getLsbD j=if j<c then false else (2 * m+1).testBit (j - c):=fun j=>by
  rw [← BitVec.testBit_toNat,h1,Nat.testBit_two_pow_mul]
  by_cases hc:j<c
  ·rw [if_pos hc,decide_eq_false (by omega),Bool.false_and]
  ·rw [if_neg hc,decide_eq_true (by omega),Bool.true_and]
 have hsub:(w - 1).toNat=2 ^ c * (2 * m)+(2 ^ c - 1):=by
  have hp:0<2 ^ c:=Nat.pow_pos (by decide)
  rw [BitVec.toNat_sub]
  have:=w.isLt
  have e1:(1:Wd).toNat=1:=rfl
  rw [e1,show 2 ^ 64 - 1+w.toNat=(w.toNat - 1)+2 ^ 64 by omega,Nat.add_mod_right,Nat.mod_eq_of_lt (by omega),h1,Nat.mul_add,Nat.mul_one]
  omega
 have ahy:∀ j,(w - 1).getLsbD j=if j<c then true else (2 * m).testBit (j - c):=fun j=>by
  rw [← BitVec.testBit_toNat,hsub]
  have hp:2 ^ c - 1<2 ^ c:=by have:0<2 ^ c:=Nat.pow_pos (by decide);omega
  by_cases hc:j<c
  ·rw [if_pos hc,Nat.testBit_two_pow_mul_add _ hp,if_pos hc,Nat.testBit_two_pow_sub_one]
   simp [hc]
  ·rw [if_neg hc,Nat.testBit_two_pow_mul_add _ hp,if_neg hc]
 refine ⟨h2,fun j hj=>by rw [hbit,if_pos hj],by rw [hbit,if_neg (Nat.lt_irrefl _),Nat.sub_self];simp,fun j hj=>?_⟩
 rw [BitVec.getLsbD_and,hbit,ahy]
 by_cases hc:j<c
 ·simp [hc]
 ·rw [if_neg hc,if_neg hc]
  by_cases he:j=c
  ·subst he;simp
  ·obtain ⟨d,hd⟩:∃ d,j - c=d+1:=⟨j - c - 1,by omega⟩
   rw [hd,Nat.testBit_succ,Nat.testBit_succ,show (2 * m+1) / 2=m by omega,show 2 * m / 2=m by omega]
   simp [he]
theorem Jw {p q:Nat→Bool} {c n:Nat} (hc:c<n) (hlow:∀ j,j<c→p j=false) (hp:p c=true) (hq:∀ j,j<n→q j=(p j&&decide (j≠c))):(List.range n).filter p=c :: (List.range n).filter q:=by
 have e:List.range n=List.range c++(c :: (List.range (n - c - 1)).map (c+1+·)):=by
  apply List.ext_getElem
  ·simp;omega
  ·intro i h1 h2
   simp only [List.length_range] at h1
   rw [List.getElem_range,List.getElem_append]
   split
   ·simp
   ·rename_i h
    simp only [List.length_range] at h ⊢
    obtain ⟨d,hd⟩:∃ d,i=c+d:=⟨i - c,by omega⟩
    subst hd
    cases d with
    |zero=>simp
    |succ d=>simp [show c+(d+1) - c=d+1 by omega];omega
 have hq':∀ j,j∈List.range n→q j=(p j&&decide (j≠c)):=fun j hj=>hq j (List.mem_range.1 hj)
 rw [List.filter_congr hq',e,List.filter_append,List.filter_append]
 have h1:(List.range c).filter p=[]:=by
  rw [List.filter_eq_nil_iff];intro j hj;rw [hlow j (List.mem_range.1 hj)];simp
 have h2:(List.range c).filter (fun j=>p j&&decide (j≠c))=[]:=by
  rw [List.filter_eq_nil_iff];intro j hj;rw [hlow j (List.mem_range.1 hj)];simp
 rw [h1,h2,List.nil_append,List.nil_append,List.filter_cons_of_pos hp,List.filter_cons_of_neg (by simp)]
 congr 1
 apply List.filter_congr
 intro j hj
 obtain ⟨d,_,rfl⟩:=List.mem_map.1 hj
 simp;omega
theorem Vl {w:Wd} (h:w≠0):bitsOf w=Lib.ctz 64 w.toNat :: bitsOf (w &&& (w - 1)):=by
 obtain ⟨h1,h2,h3,h4⟩:=Ro h
 exact Jw h1 h2 h3 h4
def uH (ws:List Wd) (a b:Int):List Nat:=(List.range (64 * ws.length)).filter fun (i:Nat)=>bit ws i&&decide (a≤(i:Int)∧(i:Int)<b)
theorem range_add (n m:Nat):List.range (n+m)=List.range n++(List.range m).map (n+·):=List.range_add
theorem Qn {ws:List Wd} {k:Nat} (h:k<ws.length) (a b:Int):(List.range (64 * (k+1))).filter (fun (i:Nat)=>bit ws i&&decide (a≤(i:Int)∧(i:Int)<b))
  = (List.range (64 * k)).filter (fun (i:Nat)=>bit ws i&&decide (a≤(i:Int)∧(i:Int)<b))++(bitsOf (ws[k] &&& wz k a b)).map (64 * k+·):=by
 rw [show 64 * (k+1)=64 * k+64 by omega,List.range_add,List.filter_append,List.filter_map]
 congr 2
 unfold bitsOf
 apply List.filter_congr
 intro j hj
 have hj:=List.mem_range.1 hj
 rw [BitVec.getLsbD_and,Dy k a b hj]
 show (bit ws (64 * k+j)&&_)=_
 rw [Dw h hj]
 push_cast
 rfl
def setW (ws:List Wd) (a b:Int):List Wd:=ws.mapIdx fun k w=>w ||| wz k a b
def acL (ws:List Wd) (a b:Int):List Wd:=ws.mapIdx fun k w=>w &&& ~~~wz k a b
theorem yx {ws:List Wd} {a b:Int} {i:Nat} (h:i<64 * ws.length):bit (setW ws a b) i=(bit ws i || decide (a≤(i:Int)∧(i:Int)<b)):=by
 have hk:i / 64<ws.length:=by omega
 have hk2:i / 64<(setW ws a b).length:=by simp [setW,hk]
 rw [qK hk,qK hk2]
 simp only [setW,List.getElem_mapIdx,BitVec.getLsbD_or]
 rw [Dy _ _ _ (Nat.mod_lt _ (by decide))]
 congr 2
 have:(64 * ((i / 64:Nat):Int))+((i % 64:Nat):Int)=(i:Int):=by omega
 rw [this]
theorem Jy {ws:List Wd} {a b:Int} {i:Nat} (h:i<64 * ws.length):bit (acL ws a b) i=(bit ws i&&!decide (a≤(i:Int)∧(i:Int)<b)):=by
 have hk:i / 64<ws.length:=by omega
 have hk2:i / 64<(acL ws a b).length:=by simp [acL,hk]
 rw [qK hk,qK hk2]
 simp only [acL,List.getElem_mapIdx,BitVec.getLsbD_and,BitVec.getLsbD_not]
 rw [Dy _ _ _ (Nat.mod_lt _ (by decide))]
 have:(64 * ((i / 64:Nat):Int))+((i % 64:Nat):Int)=(i:Int):=by omega
 rw [this]
 have h64:decide (i % 64<64)=true:=decide_eq_true (Nat.mod_lt _ (by decide))
 rw [h64,Bool.true_and]
def lM (f:Wd→Wd→Wd) (a b:List Wd):List Wd:=List.zipWith f a b
theorem acM {f:Wd→Wd→Wd} {g:Bool→Bool→Bool} (hf:∀ x y j,j<64→(f x y).getLsbD j=g (x.getLsbD j) (y.getLsbD j)) {a b:List Wd} (hl:a.length=b.length) {i:Nat} (h:i<64 * a.length):bit (lM f a b) i=g (bit a i) (bit b i):=by
 have hk:i / 64<a.length:=by omega
 have hk1:i / 64<b.length:=by omega
 have hk2:i / 64<(lM f a b).length:=by simp [lM];omega
 rw [qK hk,qK hk1,qK hk2]
 simp only [lM,List.getElem_zipWith]
 rw [hf _ _ _ (Nat.mod_lt _ (by decide))]
def iM (n:Int):Int:=(n+63) / 64
def okB (b:Bm):Bool:=decide (0≤b.size∧b.size≤4096∧(b.ws.length:Int)=iM b.size)&&(List.range (64 * b.ws.length)).all fun (i:Nat)=>decide ((i:Int)<b.size) || !bit b.ws i
theorem iR {b:Bm}:okB b=true ↔ (0≤b.size∧b.size≤4096∧(b.ws.length:Int)=iM b.size)∧∀ i:Nat,b.size≤(i:Int)→bit b.ws i=false:=by
 unfold okB
 simp only [Bool.and_eq_true,decide_eq_true_eq,List.all_eq_true,List.mem_range,Bool.or_eq_true,Bool.not_eq_true']
 refine and_congr Iff.rfl ⟨fun h i hi=>?_,fun h i hi=>?_⟩
 ·by_cases c:i<64 * b.ws.length
  ·exact (h i c).resolve_left (by omega)
  ·exact yw (by omega)
 ·by_cases c:(i:Int)<b.size
  ·exact .inl c
  ·exact .inr (h i (by omega))
theorem jK {b:Bm} (h:okB b=true):0≤b.size∧b.size≤4096∧b.ws.length≤64∧b.size≤64 * (b.ws.length:Int)∧64 * (b.ws.length:Int)<b.size+64:=by
 have:=(iR.1 h).1
 unfold iM at this
 omega
theorem Zp {b:Bm} (h:0≤b.size∧b.size≤4096∧(b.ws.length:Int)=iM b.size):okB b=true ↔ (b.size % 64=0∨∀ (hw:b.ws.length - 1<b.ws.length),b.ws[b.ws.length - 1] >>> (b.size % 64).toNat=0):=by
 rw [iR]
 unfold iM at h ⊢
 constructor
 ·rintro ⟨_,h2⟩
  by_cases c:b.size % 64=0
  ·exact .inl c
  ·refine .inr fun hw=>?_
   apply BitVec.eq_of_getLsbD_eq
   intro j hj
   rw [BitVec.getLsbD_ushiftRight]
   by_cases cj:(b.size % 64).toNat+j<64
   ·rw [← Dw hw cj,h2 _ (by omega)];simp
   ·rw [BitVec.getLsbD_of_ge _ _ (by omega)];simp
 ·intro hr
  refine ⟨by omega,fun i hi=>?_⟩
  by_cases c:i<64 * b.ws.length
  ·have hw:b.ws.length - 1<b.ws.length:=by omega
   have hk:i / 64=b.ws.length - 1:=by omega
   rcases hr with hr|hr
   ·omega
   ·have:=congrArg (fun w:Wd=>w.getLsbD (i % 64 - (b.size % 64).toNat)) (hr hw)
    simp only [BitVec.getLsbD_ushiftRight,BitVec.getLsbD_zero] at this
    rw [show (b.size % 64).toNat+(i % 64 - (b.size % 64).toNat)=i % 64 by omega] at this
    rw [show i=64 * (b.ws.length - 1)+i % 64 by omega,Dw hw (Nat.mod_lt _ (by decide))]
    simpa using this
  ·exact yw (by omega)
def Qo (b:Bm):List ji:=ext (bit b.ws) b.size.toNat
def Dz (b:Bm):Int:=if okB b then 0 else 3
theorem Zq {b:Bm} (h:okB b=true) (a:Int) (ha:a≤0):uH b.ws a b.size=(List.range b.size.toNat).filter (bit b.ws):=by
 unfold uH
 obtain ⟨h1,h2,h3,h4,h5⟩:=jK h
 rw [show 64 * b.ws.length=b.size.toNat+(64 * b.ws.length - b.size.toNat) by omega,List.range_add,List.filter_append]
 have e:(((List.range (64 * b.ws.length - b.size.toNat)).map (b.size.toNat+·)).filter fun (i:Nat)=>bit b.ws i&&decide (a≤(i:Int)∧(i:Int)<b.size))=[]:=by
  rw [List.filter_eq_nil_iff]
  intro i hi
  obtain ⟨d,_,rfl⟩:=List.mem_map.1 hi
  rw [decide_eq_false (by omega)];simp
 rw [e,List.append_nil]
 apply List.filter_congr
 intro i hi
 have hi:=List.mem_range.1 hi
 rw [decide_eq_true (by omega),Bool.and_true]
end Go.Proofs.YtaaokejjmdbfaaaDoor.V

namespace Go.Proofs.YtaaokejjmdbfaaaDoor.V
theorem uI {b:Bm} (h:okB b=true):Dz b=0:=by unfold Dz;rw [if_pos h]
theorem nO {b:Bm} (h:okB b=false):Dz b=3:=by unfold Dz;rw [if_neg (by rw [h];exact Bool.false_ne_true)]
theorem q64 {n:Int} (h:0≤n):(n+64 - 1).tdiv 64=iM n:=by
 unfold iM;rw [Int.tdiv_eq_ediv_of_nonneg (by omega)];congr 1;omega
theorem q63 {n:Int} (h:0≤n):(n+63).tdiv 64=iM n:=by
 unfold iM;rw [Int.tdiv_eq_ediv_of_nonneg (by omega)]
theorem z64:((64:Int)=0)=False:=eq_false (by decide)
theorem ahz {n:Int} (h:0≤n∧n≤4096):cal env 84 [.int .i64 n]=some [(.int .i64 (iM n),false)]:=by
 have W1:IntKind.i64.wrap (n+64)=n+64:=bn (by omega)
 have W2:IntKind.i64.wrap (n+64 - 1)=n+64 - 1:=bn (by omega)
 have W3:IntKind.i64.wrap (iM n)=iM n:=bn (by unfold iM;omega)
 rw [au ahi rfl];simp only [YL];simp only [start,aH,aQ,aF,aO,aA,aB,aG,aP,Nat.reduceAdd,Nat.reduceSub]
 simp only [W1,W2,q64 h.1,W3,z64,bJ,reduceCtorEq,Nat.reduceEqDiff,Nat.reduceAdd,Nat.reduceLT,Nat.reduceLeDiff,Nat.beq]
theorem Rq {b:Bm}:cal env 51 [kK b]=some [(.int .i64 (Dz b),false)]:=by
 unfold kK
 have P:∀ x y:PV,part [x,y] 0 (some 2)=some (.agg [x,y]):=fun _ _=>rfl
 by_cases c0:b.size<0
 ·have hE:Dz b=3:=nO (by rw [Bool.eq_false_iff];intro h;have:=jK h;omega)
  rw [hE]
  rw [au Gh rfl];simp only [EL];simp only [start,aH,aQ,aF,aO,aA,aB,aG,aP,Nat.reduceAdd,Nat.reduceSub]
  simp only [c0,P,bJ,reduceCtorEq,Nat.reduceEqDiff,Nat.reduceAdd,Nat.reduceLT,Nat.reduceLeDiff,Nat.beq]
 ·by_cases c1:b.size > 4096
  ·have hE:Dz b=3:=nO (by rw [Bool.eq_false_iff];intro h;have:=jK h;omega)
   rw [hE]
   have F1:(b.size > 4096)=True:=eq_true c1
   rw [au Gh rfl];simp only [EL];simp only [start,aH,aQ,aF,aO,aA,aB,aG,aP,Nat.reduceAdd,Nat.reduceSub]
   simp only [c0,F1,P,bJ,reduceCtorEq,Nat.reduceEqDiff,Nat.reduceAdd,Nat.reduceLT,Nat.reduceLeDiff,Nat.beq]
  ·have F1:(b.size > 4096)=False:=eq_false c1
   have e1:=ahz (n:=b.size) (by omega)
   by_cases c2:(b.ws.length:Int)=iM b.size
   ·have F2:((b.ws.length:Int) != iM b.size)=false:=by simp [c2]
    have hr:=Zp (b:=b) ⟨by omega,by omega,c2⟩
    have hw:=c2
    unfold iM at hw
    have M:b.size.tmod 64=b.size % 64:=Int.tmod_eq_emod_of_nonneg (by omega)
    by_cases c3:b.size % 64=0
    ·have hE:Dz b=0:=uI (hr.2 (.inl c3))
     rw [hE]
     have F3:(b.size % 64 > 0)=False:=eq_false (by omega)
     rw [au Gh rfl];simp only [EL];simp only [start,aH,aQ,aF,aO,aA,aB,aG,aP,Nat.reduceAdd,Nat.reduceSub]
     simp only [c0,F1,F2,F3,M,e1,z64,P,bJ,reduceCtorEq,Nat.reduceEqDiff,Nat.reduceAdd,Nat.reduceLT,Nat.reduceLeDiff,Nat.beq]
    ·have F3:(b.size % 64 > 0)=True:=eq_true (by omega)
     have hi:b.ws.length - 1<b.ws.length:=by omega
     have W:IntKind.i64.wrap ((b.ws.length:Int) - 1)=((b.ws.length - 1:Nat):Int):=by rw [bn (by omega)];omega
     have S0:(b.size % 64<0)=False:=eq_false (by omega)
     have S:=Zn b.ws[b.ws.length - 1] (s:=b.size % 64) (n:=(b.size % 64).toNat) (by omega)
     have B:=Zo (b.ws[b.ws.length - 1] >>> (b.size % 64).toNat) 0
     have B0:((0:Wd).toNat:Int)=0:=rfl
     rw [B0] at B
     have B':(((b.ws[b.ws.length - 1] >>> (b.size % 64).toNat).toNat:Int) != 0)=!decide (b.ws[b.ws.length - 1] >>> (b.size % 64).toNat=0):=by unfold bne;rw [B]
     by_cases c4:b.ws[b.ws.length - 1] >>> (b.size % 64).toNat=0
     ·have hE:Dz b=0:=uI (hr.2 (.inr fun _=>c4))
      rw [hE]
      rw [decide_eq_true c4] at B'
      rw [au Gh rfl];simp only [EL];simp only [start,aH,aQ,aF,aO,aA,aB,aG,aP,Nat.reduceAdd,Nat.reduceSub]
      simp only [c0,F1,F2,F3,M,e1,z64,P,W,S0,S,B',ak hi,eW,List.getElem?_map,List.getElem?_eq_getElem hi,bJ,reduceCtorEq,Nat.reduceEqDiff,Nat.reduceAdd,Nat.reduceLT,Nat.reduceLeDiff,Nat.beq]
     ·have hE:Dz b=3:=nO (by
       rw [Bool.eq_false_iff];intro h
       rcases hr.1 h with h|h
       ·exact c3 h
       ·exact c4 (h hi))
      rw [hE]
      rw [decide_eq_false c4] at B'
      rw [au Gh rfl];simp only [EL];simp only [start,aH,aQ,aF,aO,aA,aB,aG,aP,Nat.reduceAdd,Nat.reduceSub]
      simp only [c0,F1,F2,F3,M,e1,z64,P,W,S0,S,B',ak hi,eW,List.getElem?_map,List.getElem?_eq_getElem hi,bJ,reduceCtorEq,Nat.reduceEqDiff,Nat.reduceAdd,Nat.reduceLT,Nat.reduceLeDiff,Nat.beq]
   ·have F2:((b.ws.length:Int) != iM b.size)=true:=by simp [c2]
    have hE:Dz b=3:=nO (by rw [Bool.eq_false_iff];intro h;exact c2 (iR.1 h).1.2.2)
    rw [hE]
    rw [au Gh rfl];simp only [EL];simp only [start,aH,aQ,aF,aO,aA,aB,aG,aP,Nat.reduceAdd,Nat.reduceSub]
    simp only [c0,F1,F2,e1,P,bJ,reduceCtorEq,Nat.reduceEqDiff,Nat.reduceAdd,Nat.reduceLT,Nat.reduceLeDiff,Nat.beq]
theorem afk {k:Nat} {a b:Int} (hk:k≤100000) (ha:-1000000≤a∧a≤1000000) (hb':-1000000≤b∧b≤1000000):cal env 110 [.int .i64 (k:Nat),.int .i64 a,.int .i64 b]=some [(eW (wz k a b),false)]:=by
 have W0:IntKind.i64.wrap ((k:Int) * 64)=64 * (k:Int):=by rw [bn (by omega)];omega
 have W1:IntKind.i64.wrap (a - 64 * (k:Int))=a - 64 * (k:Int):=bn (by omega)
 have W2:IntKind.i64.wrap (b - 64 * (k:Int))=b - 64 * (k:Int):=bn (by omega)
 have X1:(if a - 64 * (k:Int)<0 then 0 else a - 64 * (k:Int))=max (a - 64 * (k:Int)) 0:=by split<;>omega
 have X2:(if 64<b - 64 * (k:Int) then 64 else b - 64 * (k:Int))=min (b - 64 * (k:Int)) 64:=by split<;>omega
 unfold wz eW
 generalize hf:max (a - 64 * (k:Int)) 0=f at X1 ⊢
 generalize ht:min (b - 64 * (k:Int)) 64=t at X2 ⊢
 by_cases c:f ≥ t
 ·have F1:(f ≥ t)=True:=eq_true c
  rw [if_pos c]
  have B0:((0:Wd).toNat:Int)=0:=rfl
  rw [B0]
  rw [au YS rfl];simp only [Gf];simp only [start,aH,aQ,aF,aO,aA,aB,aG,aP,Nat.reduceAdd,Nat.reduceSub]
  simp only [W0,W1,W2,X1,X2,F1,bJ,reduceCtorEq,Nat.reduceEqDiff,Nat.reduceAdd,Nat.reduceLT,Nat.reduceLeDiff,Nat.beq]
 ·have F1:(f ≥ t)=False:=eq_false c
  rw [if_neg c]
  have W3:IntKind.i64.wrap (t - f)=t - f:=bn (by omega)
  have W4:IntKind.i64.wrap (64 - (t - f))=64 - (t - f):=bn (by omega)
  have A:(18446744073709551615:Int)=((BitVec.allOnes 64).toNat:Int):=rfl
  have S0:(64 - (t - f)<0)=False:=eq_false (by omega)
  have S1:(f<0)=False:=eq_false (by omega)
  have S2:=Zn (BitVec.allOnes 64) (s:=64 - (t - f)) (n:=(64 - (t - f)).toNat) (by omega)
  have S3:=adF (BitVec.allOnes 64 >>> (64 - (t - f)).toNat) (s:=f) (n:=f.toNat) (by omega)
  rw [← A] at S2
  rw [au YS rfl];simp only [Gf];simp only [start,aH,aQ,aF,aO,aA,aB,aG,aP,Nat.reduceAdd,Nat.reduceSub]
  simp only [W0,W1,W2,W3,W4,X1,X2,F1,S0,S1,S2,S3,bJ,reduceCtorEq,Nat.reduceEqDiff,Nat.reduceAdd,Nat.reduceLT,Nat.reduceLeDiff,Nat.beq]
end Go.Proofs.YtaaokejjmdbfaaaDoor.V

namespace Go.Proofs.YtaaokejjmdbfaaaDoor.V
def V6 (b:Bm):List PV:=[.int .i64 b.size,.list 1 (b.ws.map eW)]
def tz (w:Wd):Nat:=Lib.ctz 64 w.toNat
theorem afl {w:Wd}:cal env 111 [.int .u64 (w.toNat:Int)]=some [(.int .i64 (tz w:Nat),false)]:=by
 rw [Ip ae2]
 have:=w.isLt
 have e:tzX [.int .u64 (w.toNat:Int)]=if (0:Int)≤(w.toNat:Int)∧(w.toNat:Int)<18446744073709551616 then some [(.int .i64 (Lib.ctz 64 (w.toNat:Int).toNat:Nat),false)] else none:=rfl
 rw [e,if_pos (by omega),Int.toNat_natCast]
 rfl
theorem acN {b:Bm} {a:Int} {k:Nat} {w0:Wd} {ys0:List (List PV)} (hk:k≤100000)
  {st:St} (h:st.head [0,1,2,4,5,10,11,12] st.boxes.length=some ⟨[.qO,.pv (.dY (V6 b) 0),.pv (.dY [.int .i64 a] 0),.any,.pv (.int .i64 (k:Nat)),.pv (eW w0),.any,.any,.any,.any,.pv (.list 1 (b.ws.map eW)),.pv (.int .i64 b.ws.length),.pv (.int .i64 (k:Nat)),.any,.any,.any,.any,.any,.any,.any,.any,.any,.any,.any,.any,.any,.any,.any,.any,.any,.any,.any,.any,.any,.any,.any,.any,.any,.any],[],ys0,some none⟩) :
  den env Df st=some (.normal,⟨[.qO,.pv (.dY (V6 b) 0),.pv (.dY [.int .i64 a] 0),.any,.any,.any,.any,.any,.any,.any,.pv (.list 1 (b.ws.map eW)),.pv (.int .i64 b.ws.length),.pv (.int .i64 (k:Nat)),.any,.any,.any,.any,.any,.any,.any,.any,.any,.any,.any,.any,.any,.any,.any,.any,.any,.any,.any,.any,.any,.any,.any,.any,.any,.any],[],ys0++yI ((bitsOf w0).map (64 * k+·)),some none⟩):=by
 unfold Df
 refine vI (env:=env) (fun p:Wd × List (List PV)=>⟨[.qO,.pv (.dY (V6 b) 0),.pv (.dY [.int .i64 a] 0),.any,.pv (.int .i64 (k:Nat)),.pv (eW p.1),.any,.any,.any,.any,.pv (.list 1 (b.ws.map eW)),.pv (.int .i64 b.ws.length),.pv (.int .i64 (k:Nat)),.any,.any,.any,.any,.any,.any,.any,.any,.any,.any,.any,.any,.any,.any,.any,.any,.any,.any,.any,.any,.any,.any,.any,.any,.any,.any],[],p.2,some none⟩)
  (fun p=>some (.normal,⟨[.qO,.pv (.dY (V6 b) 0),.pv (.dY [.int .i64 a] 0),.any,.any,.any,.any,.any,.any,.any,.pv (.list 1 (b.ws.map eW)),.pv (.int .i64 b.ws.length),.pv (.int .i64 (k:Nat)),.any,.any,.any,.any,.any,.any,.any,.any,.any,.any,.any,.any,.any,.any,.any,.any,.any,.any,.any,.any,.any,.any,.any,.any,.any,.any],[],p.2++yI ((bitsOf p.1).map (64 * k+·)),some none⟩)) (fun _=>True) (fun p=>(bitsOf p.1).length) (w0,ys0) h trivial (fun _=>rfl) (fun _=>rfl) ?_
 rintro ⟨w,ys⟩ rb _ ih
 simp only [eW] at ih ⊢
 have B:=Zo w 0
 have B0:((0:Wd).toNat:Int)=0:=rfl
 rw [B0] at B
 have B':((w.toNat:Int) != 0)=!decide (w=0):=by unfold bne;rw [B]
 by_cases c:w=0
 ·rw [decide_eq_true c] at B'
  subst c
  simp only [Dc,B',Vk,List.map_nil,bJ,reduceCtorEq,Nat.reduceEqDiff,Nat.reduceAdd,Nat.reduceLT,Nat.reduceLeDiff,Nat.beq]
  simp only [yI,List.map_nil,List.append_nil]
  rfl
 ·rw [decide_eq_false c] at B'
  have e1:=afl (w:=w)
  have ht:=(Ro c).1
  have W0:IntKind.i64.wrap ((k:Int) * 64)=64 * (k:Int):=by rw [bn (by omega)];omega
  have W1:IntKind.i64.wrap (64 * (k:Int)+((tz w:Nat):Int))=((64 * k+tz w:Nat):Int):=by unfold tz;rw [bn (by omega)];omega
  have W2:=ahx w 1
  have W3:=Zl w (w - 1)
  have B1:((1:Wd).toNat:Int)=1:=rfl
  rw [B1] at W2
  have hc:=Vl c
  simp only [Dc,B',e1,W0,W1,W2,W3,bJ,reduceCtorEq,Nat.reduceEqDiff,Nat.reduceAdd,Nat.reduceLT,Nat.reduceLeDiff,Nat.beq]
  rw [ih (w &&& (w - 1),ys++[[.int .i64 ((64 * k+tz w:Nat):Int)]]) (by simp only;rw [hc,List.length_cons];omega) trivial _ rfl]
  rw [hc]
  simp only [yI,List.map_cons,List.append_assoc,List.cons_append,List.nil_append]
  rfl
theorem Zr {b:Bm} {a:Int} (hb:b.ws.length≤64) (hs:0≤b.size∧b.size≤4096) (ha:-1000000≤a∧a≤1000000)
  {st:St} (h:st.head [0,1,2,10,11,12] st.boxes.length=some ⟨[.qO,.pv (.dY (V6 b) 0),.pv (.dY [.int .i64 a] 0),.any,.any,.any,.any,.any,.any,.any,.pv (.list 1 (b.ws.map eW)),.pv (.int .i64 b.ws.length),.pv (.int .i64 (0:Nat)),.any,.any,.any,.any,.any,.any,.any,.any,.any,.any,.any,.any,.any,.any,.any,.any,.any,.any,.any,.any,.any,.any,.any,.any,.any,.any],[],[],some none⟩) :
  den env Di st=some (.normal,⟨[.any,.any,.any,.any,.any,.any,.any,.any,.any,.any,.any,.any,.any,.any,.any,.any,.any,.any,.any,.any,.any,.any,.any,.any,.any,.any,.any,.any,.any,.any,.any,.any,.any,.any,.any,.any,.any,.any,.any],[],yI (uH b.ws a b.size),some none⟩):=by
 unfold Di
 refine cO (env:=env) b.ws.length (fun k=>⟨[.qO,.pv (.dY (V6 b) 0),.pv (.dY [.int .i64 a] 0),.any,.any,.any,.any,.any,.any,.any,.pv (.list 1 (b.ws.map eW)),.pv (.int .i64 b.ws.length),.pv (.int .i64 k),.any,.any,.any,.any,.any,.any,.any,.any,.any,.any,.any,.any,.any,.any,.any,.any,.any,.any,.any,.any,.any,.any,.any,.any,.any,.any],[],yI ((List.range (64 * k)).filter fun (i:Nat)=>bit b.ws i&&decide (a≤(i:Int)∧(i:Int)<b.size)),some none⟩)
  (fun _=>some (.normal,⟨[.any,.any,.any,.any,.any,.any,.any,.any,.any,.any,.any,.any,.any,.any,.any,.any,.any,.any,.any,.any,.any,.any,.any,.any,.any,.any,.any,.any,.any,.any,.any,.any,.any,.any,.any,.any,.any,.any,.any],[],yI (uH b.ws a b.size),some none⟩)) h (fun _=>rfl) (fun _=>rfl) ?_ ?_
 ·intro k rb hi ih
  have hi1:=cZ hi (by unfold lim;omega)
  have F1:((k:Int)<(b.ws.length:Int))=True:=eq_true (by omega)
  have e1:=afk (k:=k) (a:=a) (b:=b.size) (by omega) ha (by omega)
  have W3:=Zl b.ws[k] (wz k a b.size)
  rw [Qn hi] at ih
  unfold eW at e1
  simp only [Dh,F1,e1,W3,V6,eW,ak hi,List.getElem?_map,List.getElem?_eq_getElem hi,bJ,reduceCtorEq,Nat.reduceEqDiff,Nat.reduceAdd,Nat.reduceLT,Nat.reduceLeDiff,Nat.beq]
  rw [acN (b:=b) (a:=a) (k:=k) (w0:=b.ws[k] &&& wz k a b.size) (ys0:=yI ((List.range (64 * k)).filter fun (i:Nat)=>bit b.ws i&&decide (a≤(i:Int)∧(i:Int)<b.size))) (by omega)]
  rotate_left
  ·rfl
  simp only [bJ,reduceCtorEq,Nat.reduceEqDiff,Nat.reduceAdd,Nat.reduceLT,Nat.reduceLeDiff,Nat.beq]
  rw [ih _ (by simp only [hi1];simp only [yI,List.map_append];rfl)]
 ·intro rb
  simp only [Dh,Int.lt_irrefl,bJ,reduceCtorEq,Nat.reduceEqDiff,Nat.reduceAdd,Nat.reduceLT,Nat.reduceLeDiff,Nat.beq]
  rfl
theorem acO {b:Bm} {a:Int} (ha:-1000000≤a∧a≤1000000):iter env 109 [.dY (V6 b) 0,.dY [.int .i64 a] 0] none=some (yI (if okB b then uH b.ws a b.size else [])):=by
 have P:part (V6 b) 0 (some 2)=some (kK b):=rfl
 have e1:=Rq (b:=b)
 rw [Gi ae1 rfl rfl]
 simp only [MK,Qh,aH,aQ,aF,aO,aA,aB,aG,aP,Nat.reduceAdd,Nat.reduceSub]
 cases c:okB b with
 |false =>
  rw [nO c] at e1
  have Z:((3:Int) != 0)=true:=rfl
  simp only [P,e1,Z,EM,bJ,reduceCtorEq,Nat.reduceEqDiff,Nat.reduceAdd,Nat.reduceLT,Nat.reduceLeDiff,Nat.beq]
  rfl
 |true =>
  rw [uI c] at e1
  have Z:((0:Int) != 0)=false:=rfl
  obtain ⟨h1,h2,h3,_⟩:=jK c
  have P2:part (V6 b) 1 none=some (.list 1 (b.ws.map eW)):=rfl
  simp only [P,P2,e1,Z,List.length_map,EM,bJ,reduceCtorEq,Nat.reduceEqDiff,Nat.reduceAdd,Nat.reduceLT,Nat.reduceLeDiff,Nat.beq]
  rw [Zr (a:=a) h3 ⟨h1,h2⟩ ha]
  rotate_left
  ·rfl
  ·rfl
theorem afm {b:Bm} {a:Int}:cal env 101 [kK b,.int .i64 a]=some [(.func 109 [.dY (V6 b) 0,.dY [.int .i64 a] 0],false)]:=by
 unfold kK V6
 rw [au aeV rfl];simp only [MC];simp only [start,aH,aQ,aF,aO,aA,aB,aG,aP,Nat.reduceAdd,Nat.reduceSub]
 simp only [bJ,reduceCtorEq,Nat.reduceEqDiff,Nat.reduceAdd,Nat.reduceLT,Nat.reduceLeDiff,Nat.beq]
end Go.Proofs.YtaaokejjmdbfaaaDoor.V

namespace Go.Proofs.YtaaokejjmdbfaaaDoor.V
def qZ (l:List PV) (z:PV) (i:Nat):List PV:=l.take i++List.replicate (l.length - i) z
theorem Vm {l:List PV} {z:PV} {i:Nat} (h:i≤l.length):(qZ l z i).length=l.length:=by simp [qZ];omega
theorem Vo {l:List PV} {z:PV} {i:Nat} (h:i<l.length):(qZ l z i)[i]?=some z:=by
 unfold qZ
 have e:(l.take i).length=i:=by simp;omega
 rw [List.getElem?_append_right (by omega),e,Nat.sub_self,List.getElem?_replicate,if_pos (by omega)]
theorem Vp {l:List PV} {z x:PV} {i:Nat} (h:i<l.length) (hx:l[i]?=some x):(qZ l z i).set i x=qZ l z (i+1):=by
 unfold qZ
 have e:(l.take i).length=i:=by simp;omega
 rw [List.set_append_right _ _ (by omega),e,Nat.sub_self,show l.length - i=(l.length - (i+1))+1 by omega,List.replicate_succ,List.set_cons_zero,List.take_add_one,hx,Option.toList,List.append_assoc]
 rfl
theorem Qp (l:List PV) (z:PV):qZ l z 0=List.replicate l.length z:=by simp [qZ]
theorem Vq (l:List PV) (z:PV):qZ l z l.length=l:=by simp [qZ]
theorem DC:kK ⟨0,[]⟩=.agg [.int .i64 0,.list 1 []]:=rfl
def nC (a b:Bm):Int:=if okB a=false then 3 else if okB b=false then 3 else if a.size≠b.size then 22 else 0
def uJ (f:Wd→Wd→Wd) (a b:Bm):Bm:=if nC a b=0 then ⟨a.size,lM f a.ws b.ws⟩ else ⟨0,[]⟩
theorem both_ok {a b:Bm} (h:nC a b=0):okB a=true∧okB b=true∧a.size=b.size∧a.ws.length=b.ws.length:=by
 unfold nC at h
 split at h
 ·omega
 ·split at h
  ·omega
  ·split at h
   ·omega
   ·rename_i c1 c2 c3
    have c1:okB a=true:=by cases h:okB a<;>simp_all
    have c2:okB b=true:=by cases h:okB b<;>simp_all
    have e:a.size=b.size:=Classical.not_not.1 c3
    have h1:=(iR.1 c1).1.2.2
    have h2:=(iR.1 c2).1.2.2
    exact ⟨c1,c2,e,by rw [e] at h1;omega⟩
theorem DF {f:Wd→Wd→Wd} {a b:List Wd} (h:a.length=b.length):(lM f a b).length=a.length:=by simp [lM,h]
theorem Zt {f:Wd→Wd→Wd} {a b:List Wd} {i:Nat} (h1:i<a.length) (h2:i<b.length):(lM f a b)[i]?=some (f a[i] b[i]):=by
 have h:i<(lM f a b).length:=by simp [lM];omega
 rw [List.getElem?_eq_getElem h]
 simp [lM]
set_option maxRecDepth 20000 in
theorem afn {a b:Bm} {f:Wd→Wd→Wd} {gf:Nat} (hf:∀ x y,cal env gf [eW x,eW y]=some [(eW (f x y),false)]) (hl:a.ws.length=b.ws.length) (hm:a.ws.length≤64) {st:St} (h:st.head [2,3,4,6,10,33,35,36] st.boxes.length=some ⟨sl 59 [(2,.pv (.func gf [])),(3,.aK 0 0),(4,.aK 1 0),(6,.aK 2 0),(10,.row 1 (qZ ((lM f a.ws b.ws).map eW) (.int .u64 0) ((0:Nat)))),(33,.any),(35,.pv (.int .i64 a.ws.length)),(36,.pv (.int .i64 (0:Nat)))],[⟨false,[.pv (.int .i64 a.size),.pv (.list 1 (a.ws.map eW))]⟩,⟨false,[.pv (.int .i64 b.size),.pv (.list 1 (b.ws.map eW))]⟩,⟨false,[.pv (.int .i64 0),.row 1 []]⟩],[],none⟩) :
  den env Js st=some (.normal,⟨sl 59 [(3,.aK 0 0),(6,.aK 2 0),(7,.any),(10,.row 1 ((lM f a.ws b.ws).map eW))],[⟨false,[.pv (.int .i64 a.size),.pv (.list 1 (a.ws.map eW))]⟩,⟨false,[.pv (.int .i64 b.size),.pv (.list 1 (b.ws.map eW))]⟩,⟨false,[.pv (.int .i64 0),.row 1 []]⟩],[],none⟩):=by
 unfold Js
 refine cO (env:=env) (nb:=3) (a.ws.length) (fun i=>⟨sl 59 [(2,.pv (.func gf [])),(3,.aK 0 0),(4,.aK 1 0),(6,.aK 2 0),(10,.row 1 (qZ ((lM f a.ws b.ws).map eW) (.int .u64 0) (i))),(33,.any),(35,.pv (.int .i64 a.ws.length)),(36,.pv (.int .i64 i))],[⟨false,[.pv (.int .i64 a.size),.pv (.list 1 (a.ws.map eW))]⟩,⟨false,[.pv (.int .i64 b.size),.pv (.list 1 (b.ws.map eW))]⟩,⟨false,[.pv (.int .i64 0),.row 1 []]⟩],[],none⟩) (fun i=>some (.normal,⟨sl 59 [(3,.aK 0 0),(6,.aK 2 0),(7,.any),(10,.row 1 ((lM f a.ws b.ws).map eW))],[⟨false,[.pv (.int .i64 a.size),.pv (.list 1 (a.ws.map eW))]⟩,⟨false,[.pv (.int .i64 b.size),.pv (.list 1 (b.ws.map eW))]⟩,⟨false,[.pv (.int .i64 0),.row 1 []]⟩],[],none⟩)) h (fun _=>rfl) (fun _=>by simp only [bC,dK,Nat.reduceMul,Nat.reduceBEq,Nat.reduceLT,Nat.reduceLeDiff,Nat.reduceAdd,decide_true,Bool.and_self,Bool.true_and]) ?_ ?_
 ·intro i rb hi ih
  have hi1:=cZ hi (by unfold lim;omega)
  have hj:i<b.ws.length:=by omega
  have F1:((i:Int)<(a.ws.length:Int))=True:=eq_true (by omega)
  have zl:((lM f a.ws b.ws).map eW).length=a.ws.length:=by rw [List.length_map,DF hl]
  have f1:=Vm (l:=(lM f a.ws b.ws).map eW) (z:=.int .u64 0) (i:=i) (by omega)
  have f2:=Vo (l:=(lM f a.ws b.ws).map eW) (z:=.int .u64 0) (i:=i) (by omega)
  have f3:=Vp (l:=(lM f a.ws b.ws).map eW) (z:=.int .u64 0) (i:=i) (x:=eW (f a.ws[i] b.ws[i])) (by omega) (by rw [List.getElem?_map,Zt hi hj];rfl)
  have e1:=hf a.ws[i] b.ws[i]
  rw [zl] at f1
  unfold eW at e1 f1 f2 f3 ih ⊢
  simp only [Jr,F1,e1,f1,f2,f3,ak hi,ak hj,List.getElem?_map,List.getElem?_eq_getElem hi,List.getElem?_eq_getElem hj,Option.map_some,List.length_map,aX,Nat.reduceMul,Nat.reduceBEq,Nat.reduceLT,Nat.reduceLeDiff,reduceCtorEq,Nat.reduceEqDiff,Nat.reduceAdd,Nat.beq]
  rw [ih _ (by simp only [hi1,aX,Nat.reduceMul,Nat.reduceBEq,Nat.reduceLT,Nat.reduceLeDiff,reduceCtorEq,Nat.reduceEqDiff,Nat.reduceAdd,Nat.beq]<;>rfl)]
 ·intro rb
  have zl:((lM f a.ws b.ws).map eW).length=a.ws.length:=by rw [List.length_map,DF hl]
  have f4:=Vq ((lM f a.ws b.ws).map eW) (.int .u64 0)
  rw [zl] at f4
  rw [f4]
  simp only [Jr,Int.lt_irrefl,aX,Nat.reduceMul,Nat.reduceBEq,Nat.reduceLT,Nat.reduceLeDiff,reduceCtorEq,Nat.reduceEqDiff,Nat.reduceAdd,Nat.beq]
theorem ahA {a b:Bm} {f:Wd→Wd→Wd} {gf:Nat} (hf:∀ x y,cal env gf [eW x,eW y]=some [(eW (f x y),false)]) :
  cal env 99 [kK a,kK b,.func gf []]=some [(kK (uJ f a b),false),(.int .i64 (nC a b),false)]:=by
 have P:∀ b:Bm,part [PV.int .i64 b.size,.list 1 (b.ws.map eW)] 0 (some 2)=some (kK b):=fun _=>rfl
 have e1:=Rq (b:=a)
 have e2:=Rq (b:=b)
 have Z0:((0:Int) != 0)=false:=rfl
 have Z3:((3:Int) != 0)=true:=rfl
 have hz:=DC
 unfold uJ
 cases c1:okB a with
 |false =>
  have hE:nC a b=3:=by unfold nC;rw [if_pos c1]
  rw [hE,if_neg (by decide),hz]
  rw [nO c1] at e1
  have eA:kK a=.agg [.int .i64 a.size,.list 1 (a.ws.map eW)]:=rfl
  have eB:kK b=.agg [.int .i64 b.size,.list 1 (b.ws.map eW)]:=rfl
  rw [eA] at e1 ⊢;rw [eB]
  rw [au Rj rfl];simp only [Me,bC,Nat.reduceBEq,Nat.reduceLeDiff,Nat.reduceAdd,List.length_cons,List.length_nil]
  simp only [e1,Z3,FY,FX,L9,aX,Nat.reduceMul,Nat.reduceBEq,Nat.reduceLT,Nat.reduceLeDiff,reduceCtorEq,Nat.reduceEqDiff,Nat.reduceAdd,Nat.beq]
 |true =>
  rw [uI c1] at e1
  cases c2:okB b with
  |false =>
   have hE:nC a b=3:=by unfold nC;rw [if_neg (by rw [c1];decide),if_pos c2]
   rw [hE,if_neg (by decide),hz]
   rw [nO c2] at e2
   have eA:kK a=.agg [.int .i64 a.size,.list 1 (a.ws.map eW)]:=rfl
   have eB:kK b=.agg [.int .i64 b.size,.list 1 (b.ws.map eW)]:=rfl
   rw [eA] at e1 ⊢;rw [eB] at e2 ⊢
   rw [au Rj rfl];simp only [Me,bC,Nat.reduceBEq,Nat.reduceLeDiff,Nat.reduceAdd,List.length_cons,List.length_nil]
   simp only [e1,e2,Z3,Z0,aX,Nat.reduceMul,Nat.reduceBEq,Nat.reduceLT,Nat.reduceLeDiff,reduceCtorEq,Nat.reduceEqDiff,Nat.reduceAdd,Nat.beq]
  |true =>
   rw [uI c2] at e2
   by_cases c3:a.size=b.size
   ·have hE:nC a b=0:=by unfold nC;rw [if_neg (by rw [c1];decide),if_neg (by rw [c2];decide),if_neg (by simpa using c3)]
    obtain ⟨_,_,_,hl⟩:=both_ok hE
    have hm:=(jK c1).2.2.1
    have G:(a.size != b.size)=false:=by simp [c3]
    have F3:((0:Int)≤(a.ws.length:Int))=True:=eq_true (by omega)
    have F4:((a.ws.length:Int)≤(lim:Int))=True:=eq_true (by unfold lim;omega)
    rw [hE,if_pos rfl]
    have eA:kK a=.agg [.int .i64 a.size,.list 1 (a.ws.map eW)]:=rfl
    have eB:kK b=.agg [.int .i64 b.size,.list 1 (b.ws.map eW)]:=rfl
    rw [eA] at e1 ⊢;rw [eB] at e2 ⊢
    rw [au Rj rfl];simp only [Me,bC,Nat.reduceBEq,Nat.reduceLeDiff,Nat.reduceAdd,List.length_cons,List.length_nil]
    simp only [e1,e2,Z0,G,F3,F4,Int.toNat_natCast,List.length_map,List.length_replicate,aX,Nat.reduceMul,Nat.reduceBEq,Nat.reduceLT,Nat.reduceLeDiff,reduceCtorEq,Nat.reduceEqDiff,Nat.reduceAdd,Nat.beq]
    rw [afn hf hl hm]
    rotate_left
    ·have zl:((lM f a.ws b.ws).map eW).length=a.ws.length:=by rw [List.length_map,DF hl]
     rw [Qp,zl]
     simp only [bC,dK,Nat.reduceMul,Nat.reduceBEq,Nat.reduceLT,Nat.reduceLeDiff,Nat.reduceAdd,decide_true,Bool.and_self,Bool.true_and]<;>rfl
    ·simp only [e1,e2,Z0,G,F3,F4,Int.toNat_natCast,List.length_map,List.length_replicate,aX,Nat.reduceMul,Nat.reduceBEq,Nat.reduceLT,Nat.reduceLeDiff,reduceCtorEq,Nat.reduceEqDiff,Nat.reduceAdd,Nat.beq]
     rfl
   ·have hE:nC a b=22:=by unfold nC;rw [if_neg (by rw [c1];decide),if_neg (by rw [c2];decide),if_pos (by simpa using c3)]
    have G:(a.size != b.size)=true:=by simp [c3]
    rw [hE,if_neg (by decide),hz]
    have eA:kK a=.agg [.int .i64 a.size,.list 1 (a.ws.map eW)]:=rfl
    have eB:kK b=.agg [.int .i64 b.size,.list 1 (b.ws.map eW)]:=rfl
    rw [eA] at e1 ⊢;rw [eB] at e2 ⊢
    rw [au Rj rfl];simp only [Me,bC,Nat.reduceBEq,Nat.reduceLeDiff,Nat.reduceAdd,List.length_cons,List.length_nil]
    simp only [e1,e2,Z0,G,aX,Nat.reduceMul,Nat.reduceBEq,Nat.reduceLT,Nat.reduceLeDiff,reduceCtorEq,Nat.reduceEqDiff,Nat.reduceAdd,Nat.beq]
theorem afo (x y:Wd):cal env 100 [eW x,eW y]=some [(eW (x ||| y),false)]:=by
 have W:=ahw x y
 unfold eW
 rw [au aeU rfl];simp only [MB];simp only [start,aH,aQ,aF,aO,aA,aB,aG,aP,Nat.reduceAdd,Nat.reduceSub]
 simp only [W,bJ,reduceCtorEq,Nat.reduceEqDiff,Nat.reduceAdd,Nat.reduceLT,Nat.reduceLeDiff,Nat.beq]
def qo (x y:Wd):Wd:=x ||| y
theorem ahB {a b:Bm}:cal env 80 [kK a,kK b]=some [(kK (uJ qo a b),false),(.int .i64 (nC a b),false)]:=by
 have e1:=ahA (a:=a) (b:=b) (f:=qo) (gf:=100) afo
 have eA:∀ a:Bm,kK a=.agg [.int .i64 a.size,.list 1 (a.ws.map eW)]:=fun _=>rfl
 rw [eA,eA,eA] at e1 ⊢
 rw [au ahe rfl];simp only [YH];simp only [start,aH,aQ,aF,aO,aA,aB,aG,aP,Nat.reduceAdd,Nat.reduceSub]
 simp only [e1,bJ,reduceCtorEq,Nat.reduceEqDiff,Nat.reduceAdd,Nat.reduceLT,Nat.reduceLeDiff,Nat.beq]
end Go.Proofs.YtaaokejjmdbfaaaDoor.V

namespace Go.Proofs.YtaaokejjmdbfaaaDoor.V
theorem sorted_at {l:List Nat} (hs:l.Pairwise (·<·)) {j i:Nat} (h:l[j]?=some i):j≤i∧∀ k∈l.take j,k<i:=by
 obtain ⟨hj,rfl⟩:=List.getElem?_eq_some_iff.1 h
 have hp:=List.pairwise_iff_getElem.1 hs
 refine ⟨?_,fun k hk=>?_⟩
 ·clear h
  induction j with
  |zero=>exact Nat.zero_le _
  |succ j ih =>
   have h1:=ih (by omega)
   have h2:=hp j (j+1) (by omega) hj (by omega)
   omega
 ·obtain ⟨m,hm,rfl⟩:=List.mem_iff_getElem.1 hk
  rw [List.getElem_take]
  simp only [List.length_take] at hm
  exact hp m j (by omega) hj (by omega)
def DI (b:Bm):List Nat:=if okB b then uH b.ws 0 b.size else []
theorem acP {b:Bm} {j i:Nat} (h:(DI b)[j]?=some i):i<4096∧j≤i∧∀ k∈(DI b).take j,k<i:=by
 unfold DI at h ⊢
 split at h
 ·rename_i c
  rw [if_pos c]
  have hs:(uH b.ws 0 b.size).Pairwise (·<·):=List.pairwise_lt_range.filter _
  have hm:=List.mem_of_getElem? h
  simp only [uH,List.mem_filter,List.mem_range,Bool.and_eq_true,decide_eq_true_eq] at hm
  have:=jK c
  exact ⟨by omega,sorted_at hs h⟩
 ·simp at h
def bmX (b:Bm):List ji:=if okB b then Qo b else []
theorem afp (b:Bm):exts (DI b)=bmX b:=by
 unfold DI bmX Qo ext
 split
 ·rename_i c;rw [Zq c 0 (by omega)]
 ·rfl
theorem ahD {b:Bm}:cal env 81 [kK b]=some [(.list 2 ((bmX b).map fH),true)]:=by
 have e1:=afm (b:=b) (a:=0)
 have eA:∀ a:Bm,kK a=.agg [.int .i64 a.size,.list 1 (a.ws.map eW)]:=fun _=>rfl
 rw [eA] at e1 ⊢
 rw [au ahf rfl];simp only [YI];simp only [start,aH,aQ,aF,aO,aA,aB,aG,aP,Nat.reduceAdd,Nat.reduceSub]
 simp only [e1,bJ,reduceCtorEq,Nat.reduceEqDiff,Nat.reduceAdd,Nat.reduceLT,Nat.reduceLeDiff,Nat.beq]
 rw [Rk (env:=env) (fun j=>[⟨false,[.pv (.int .i64 b.size),.pv (.list 1 (b.ws.map eW))]⟩,⟨false,[.row 2 ((exts ((DI b).take j)).map fH)]⟩]) (xs:=yI (DI b)) rfl (by have:=acO (b:=b) (a:=0) (by omega);exact this) rfl ?_]
 ·simp only [yI,List.length_map,List.take_length,EM,bJ,reduceCtorEq,Nat.reduceEqDiff,Nat.reduceAdd,Nat.reduceLT,Nat.reduceLeDiff,Nat.beq]
  rw [afp]
 ·intro j x hx sl0
  simp only [yI,List.getElem?_map,Option.map_eq_some_iff] at hx
  obtain ⟨i,hi,rfl⟩:=hx
  obtain ⟨k1,k2,k3⟩:=acP hi
  have hlim:lim=1073741824:=rfl
  have hj:=(List.getElem?_eq_some_iff.1 hi).1
  have ht:(DI b).take (j+1)=(DI b).take j++[i]:=by rw [List.take_add_one,hi];rfl
  have hlen:((DI b).take j).length=j:=by simp;omega
  rw [ht]
  rcases gu ((DI b).take j) with h0|⟨p,q,h0⟩
  ·have F2:(((0:Nat):Int) > 0)=False:=eq_false (by omega)
   have F3:(0+1≤lim)=True:=eq_true (by omega)
   have e0:exts ([]:List Nat)=[]:=rfl
   have e2:exts [i]=[⟨i,1⟩]:=rfl
   refine ⟨?_,?_⟩
   rotate_left
   ·simp only [h0,List.nil_append,Bg,Bh,F2,F3,e0,e2,fH,List.map_nil,List.map_cons,EM,bJ,reduceCtorEq,Nat.reduceEqDiff,Nat.reduceAdd,Nat.reduceLT,Nat.reduceLeDiff,Nat.beq]
    rfl
  ·obtain ⟨pre,⟨s,c⟩,e0,h1,h2,h3,h4⟩:=Gp _ p rfl q
   have hqi:q<i:=k3 q (by rw [h0];simp)
   simp only at h1 h2 h3
   have hpl:p.length+1=j:=by rw [h0] at hlen;simpa using hlen
   have F2:(((pre.length+1:Nat):Int) > 0)=True:=eq_true (by omega)
   have F3:=Gq (n:=pre.length) (by omega)
   have F4:IntKind.i64.wrap (s+c)=s+c:=bn (by omega)
   have F5:IntKind.i64.wrap (c+1)=c+1:=bn (by omega)
   have F6:(pre.length+1+1≤lim)=True:=eq_true (by omega)
   have F7:index (.int .i64 (pre.length:Int)) (pre.length+1)=some pre.length:=ak (by omega)
   by_cases hc:s+c=(i:Int)
   ·have F8:(s+c==(i:Int))=true:=by simpa using hc
    have e2:exts (p++[q]++[i])=pre++[⟨s,c+1⟩]:=by rw [oD,e0,eP,if_pos hc]
    refine ⟨?_,?_⟩
    rotate_left
    ·simp only [h0,Bg,Bh,e0,e2,F2,F3,F4,F5,F6,F7,F8,fH,List.map_append,List.map_cons,List.map_nil,EM,bJ,reduceCtorEq,Nat.reduceEqDiff,Nat.reduceAdd,Nat.reduceLT,Nat.reduceLeDiff,Nat.beq]
     rfl
   ·have F8:(s+c==(i:Int))=false:=by simpa using hc
    have e2:exts (p++[q]++[i])=pre++[⟨s,c⟩]++[⟨i,1⟩]:=by rw [oD,e0,eP,if_neg hc]
    refine ⟨?_,?_⟩
    rotate_left
    ·simp only [h0,Bg,Bh,e0,e2,F2,F3,F4,F5,F6,F7,F8,fH,List.map_append,List.map_cons,List.map_nil,EM,bJ,reduceCtorEq,Nat.reduceEqDiff,Nat.reduceAdd,Nat.reduceLT,Nat.reduceLeDiff,Nat.beq]
     rfl
theorem ahE (w:Wd) (s:Nat):(w >>> s &&& 1==(1:Wd))=w.getLsbD s:=by
 have h:w >>> s &&& 1=if w.getLsbD s then 1 else 0:=by
  apply BitVec.eq_of_getLsbD_eq
  intro j hj
  rw [BitVec.getLsbD_and,BitVec.getLsbD_ushiftRight]
  cases j with
  |zero=>cases h:w.getLsbD s<;>simp [h]
  |succ j =>
   have:(1:Wd).getLsbD (j+1)=false:=by
    rw [show (1:Wd)=1#64 from rfl,BitVec.getLsbD_one];simp
   rw [this,Bool.and_false]
   cases w.getLsbD s<;>simp
 rw [h]
 cases w.getLsbD s<;>rfl
theorem ahF {b:Bm} {i:Nat} (h:i / 64<b.ws.length) (hi:i≤1000000):cal env 87 [kK b,.int .i64 (i:Nat)]=some [(.bool (bit b.ws i),false)]:=by
 unfold kK
 have T1:(i:Int).tdiv 64=((i / 64:Nat):Int):=by rw [Int.tdiv_eq_ediv_of_nonneg (by omega)];omega
 have T2:(i:Int).tmod 64=((i % 64:Nat):Int):=by rw [Int.tmod_eq_emod_of_nonneg (by omega)];omega
 have W1:IntKind.i64.wrap ((i / 64:Nat):Int)=((i / 64:Nat):Int):=bn (by omega)
 have W2:IntKind.u64.wrap ((i % 64:Nat):Int)=((i % 64:Nat):Int):=by rw [Dx];omega
 have S0:(((i % 64:Nat):Int)<0)=False:=eq_false (by omega)
 have S1:=Zn b.ws[i / 64] (s:=((i % 64:Nat):Int)) (n:=i % 64) rfl
 have S2:=Zl (b.ws[i / 64] >>> (i % 64)) 1
 have B1:((1:Wd).toNat:Int)=1:=rfl
 have S3:=Zo (b.ws[i / 64] >>> (i % 64) &&& 1) 1
 rw [B1] at S2 S3
 have S4:decide (b.ws[i / 64] >>> (i % 64) &&& 1=(1:Wd))=bit b.ws i:=by rw [qK h,← ahE];rfl
 rw [S4] at S3
 rw [au ahj rfl];simp only [YM];simp only [start,aH,aQ,aF,aO,aA,aB,aG,aP,Nat.reduceAdd,Nat.reduceSub]
 simp only [z64,T1,T2,W1,W2,S0,S1,S2,S3,eW,ak h,List.getElem?_map,List.getElem?_eq_getElem h,bJ,reduceCtorEq,Nat.reduceEqDiff,Nat.reduceAdd,Nat.reduceLT,Nat.reduceLeDiff,Nat.beq]
def sK (ws:List Wd) (k:Nat):Bool:=(List.range (64 * ws.length)).any fun i=>decide (k≤i)&&bit ws i
theorem kT {ws:List Wd} {k:Nat}:sK ws k=true ↔ ∃ i,k≤i∧i<64 * ws.length∧bit ws i=true:=by
 simp only [sK,List.any_eq_true,List.mem_range,Bool.and_eq_true,decide_eq_true_eq]
 exact ⟨fun ⟨i,h1,h2,h3⟩=>⟨i,h2,h1,h3⟩,fun ⟨i,h1,h2,h3⟩=>⟨i,h2,h1,h3⟩⟩
theorem Jz {ws:List Wd} {k:Nat} (h:bit ws k=false):sK ws k=sK ws (k+1):=by
 rw [Bool.eq_iff_iff,kT,kT]
 constructor
 ·rintro ⟨j,h1,h2,h3⟩
  have:j≠k:=fun e=>by rw [e,h] at h3;cases h3
  exact ⟨j,by omega,h2,h3⟩
 ·rintro ⟨j,h1,h2,h3⟩
  exact ⟨j,by omega,h2,h3⟩
theorem afq {b:Bm} {s:Nat} (hs:b.size=(s:Int)) (hl:b.ws.length≤64) (hsl:s≤64 * b.ws.length) {st:St} (h:st.head [1,3] st.boxes.length=some ⟨[.any,.aK 0 0,.any,.pv (.int .i64 ((s+(0:Nat):Nat):Int)),.any,.any,.any,.any,.any,.any,.any,.any,.any,.any,.any,.any,.any,.any,.any,.any,.any,.any,.any,.any,.any,.any,.any,.any,.any,.any,.any,.any,.any,.any,.any],[⟨false,[.pv (.int .i64 b.size),.pv (.list 1 (b.ws.map eW))]⟩],[],none⟩) :
  den env Jf st=if sK b.ws (s+(0:Nat)) then some (.ret,⟨[.any,.any,.pv (.int .i64 3),.any,.any,.any,.any,.any,.any,.any,.any,.any,.any,.any,.any,.any,.any,.any,.any,.any,.any,.any,.any,.any,.any,.any,.any,.any,.any,.any,.any,.any,.any,.any,.any],[⟨false,[.pv (.int .i64 b.size),.pv (.list 1 (b.ws.map eW))]⟩],[],none⟩) else some (.normal,⟨[.any,.any,.any,.any,.any,.any,.any,.any,.any,.any,.any,.any,.any,.any,.any,.any,.any,.any,.any,.any,.any,.any,.any,.any,.any,.any,.any,.any,.any,.any,.any,.any,.any,.any,.any],[⟨false,[.pv (.int .i64 b.size),.pv (.list 1 (b.ws.map eW))]⟩],[],none⟩):=by
 unfold Jf
 refine cO (env:=env) (64 * b.ws.length - s) (fun i=>⟨[.any,.aK 0 0,.any,.pv (.int .i64 ((s+i:Nat):Int)),.any,.any,.any,.any,.any,.any,.any,.any,.any,.any,.any,.any,.any,.any,.any,.any,.any,.any,.any,.any,.any,.any,.any,.any,.any,.any,.any,.any,.any,.any,.any],[⟨false,[.pv (.int .i64 b.size),.pv (.list 1 (b.ws.map eW))]⟩],[],none⟩) (fun i=>if sK b.ws (s+i) then some (.ret,⟨[.any,.any,.pv (.int .i64 3),.any,.any,.any,.any,.any,.any,.any,.any,.any,.any,.any,.any,.any,.any,.any,.any,.any,.any,.any,.any,.any,.any,.any,.any,.any,.any,.any,.any,.any,.any,.any,.any],[⟨false,[.pv (.int .i64 b.size),.pv (.list 1 (b.ws.map eW))]⟩],[],none⟩) else some (.normal,⟨[.any,.any,.any,.any,.any,.any,.any,.any,.any,.any,.any,.any,.any,.any,.any,.any,.any,.any,.any,.any,.any,.any,.any,.any,.any,.any,.any,.any,.any,.any,.any,.any,.any,.any,.any],[⟨false,[.pv (.int .i64 b.size),.pv (.list 1 (b.ws.map eW))]⟩],[],none⟩)) h (fun _=>rfl) (fun _=>rfl) ?_ ?_
 ·intro i rb hi ih
  have hi1:IntKind.i64.wrap (((s+i:Nat):Int)+1)=((s+(i+1):Nat):Int):=by rw [bn (by omega)];omega
  have W1:IntKind.i64.wrap (64 * (b.ws.length:Int))=64 * (b.ws.length:Int):=bn (by omega)
  have F1:(((s+i:Nat):Int)<64 * (b.ws.length:Int))=True:=eq_true (by omega)
  have e1:=ahF (b:=b) (i:=s+i) (by omega) (by omega)
  have P2:part [PV.int .i64 b.size,.list 1 (b.ws.map fun w=>PV.int .u64 (w.toNat:Int))] 0 (some 2)=some (.agg [PV.int .i64 b.size,.list 1 (b.ws.map fun w=>PV.int .u64 (w.toNat:Int))]):=rfl
  unfold kK at e1
  unfold eW at e1 ih ⊢
  cases c:bit b.ws (s+i) with
  |true =>
   rw [c] at e1
   have h:sK b.ws (s+i)=true:=kT.2 ⟨s+i,by omega,by omega,c⟩
   rw [if_pos h]
   simp only [AY,F1,W1,e1,P2,List.length_map,bJ,reduceCtorEq,Nat.reduceEqDiff,Nat.reduceAdd,Nat.reduceLT,Nat.reduceLeDiff,Nat.beq]
   rfl
  |false =>
   rw [c] at e1
   have h:=Jz c
   simp only [AY,F1,W1,e1,P2,List.length_map,bJ,reduceCtorEq,Nat.reduceEqDiff,Nat.reduceAdd,Nat.reduceLT,Nat.reduceLeDiff,Nat.beq]
   rw [ih _ (by simp only [hi1];rfl),h]
   rfl
 ·intro rb
  have W1:IntKind.i64.wrap (64 * (b.ws.length:Int))=64 * (b.ws.length:Int):=bn (by omega)
  have F1:(((s+(64 * b.ws.length - s):Nat):Int)<64 * (b.ws.length:Int))=False:=eq_false (by omega)
  rw [if_neg (by rw [kT];rintro ⟨j,h1,h2,_⟩;omega)]
  simp only [AY,F1,W1,List.length_map,bJ,reduceCtorEq,Nat.reduceEqDiff,Nat.reduceAdd,Nat.reduceLT,Nat.reduceLeDiff,Nat.beq]
  rfl
end Go.Proofs.YtaaokejjmdbfaaaDoor.V

namespace Go.Proofs.YtaaokejjmdbfaaaDoor.V
theorem ahG {b:Bm}:cal env 53 [kK b]=some [(.int .i64 (Dz b),false)]:=by
 unfold kK
 have P:∀ x y:PV,part [x,y] 0 (some 2)=some (.agg [x,y]):=fun _ _=>rfl
 by_cases c0:b.size<0
 ·have hE:Dz b=3:=nO (by rw [Bool.eq_false_iff];intro h;have:=jK h;omega)
  rw [hE]
  rw [au Ri rfl];simp only [Md];simp only [start,aH,aQ,aF,aO,aA,aB,aG,aP,Nat.reduceAdd,Nat.reduceSub]
  simp only [c0,P,bJ,reduceCtorEq,Nat.reduceEqDiff,Nat.reduceAdd,Nat.reduceLT,Nat.reduceLeDiff,Nat.beq]
 ·by_cases c1:b.size > 4096
  ·have hE:Dz b=3:=nO (by rw [Bool.eq_false_iff];intro h;have:=jK h;omega)
   rw [hE]
   have F1:(b.size > 4096)=True:=eq_true c1
   rw [au Ri rfl];simp only [Md];simp only [start,aH,aQ,aF,aO,aA,aB,aG,aP,Nat.reduceAdd,Nat.reduceSub]
   simp only [c0,F1,P,bJ,reduceCtorEq,Nat.reduceEqDiff,Nat.reduceAdd,Nat.reduceLT,Nat.reduceLeDiff,Nat.beq]
  ·have F1:(b.size > 4096)=False:=eq_false c1
   have W0:IntKind.i64.wrap (b.size+63)=b.size+63:=bn (by omega)
   have W3:IntKind.i64.wrap (iM b.size)=iM b.size:=bn (by unfold iM;omega)
   have T:=q63 (n:=b.size) (by omega)
   by_cases c2:(b.ws.length:Int)=iM b.size
   ·have F2:((b.ws.length:Int) != iM b.size)=false:=by simp [c2]
    have hw:=c2
    unfold iM at hw
    have hs:b.size=((b.size.toNat:Nat):Int):=by omega
    rw [au Ri rfl];simp only [Md];simp only [start,aH,aQ,aF,aO,aA,aB,aG,aP,Nat.reduceAdd,Nat.reduceSub]
    simp only [c0,F1,F2,W0,W3,T,z64,P,List.length_map,bJ,reduceCtorEq,Nat.reduceEqDiff,Nat.reduceAdd,Nat.reduceLT,Nat.reduceLeDiff,Nat.beq]
    rw [afq (b:=b) (s:=b.size.toNat) hs (by omega) (by omega)]
    rotate_left
    ·rw [Nat.add_zero,← hs];rfl
    ·cases c:okB b with
     |true =>
      rw [uI c,if_neg]
      ·simp only [c0,F1,F2,W0,W3,T,z64,P,List.length_map,bJ,reduceCtorEq,Nat.reduceEqDiff,Nat.reduceAdd,Nat.reduceLT,Nat.reduceLeDiff,Nat.beq]
      ·rw [kT]
       rintro ⟨i,h1,h2,h3⟩
       rw [(iR.1 c).2 i (by omega)] at h3
       cases h3
     |false =>
      rw [nO c,if_pos]
      ·simp only [c0,F1,F2,W0,W3,T,z64,P,List.length_map,bJ,reduceCtorEq,Nat.reduceEqDiff,Nat.reduceAdd,Nat.reduceLT,Nat.reduceLeDiff,Nat.beq]
      ·rw [kT]
       apply Classical.byContradiction
       intro hn
       have:okB b=true:=iR.2 ⟨⟨by omega,by omega,c2⟩,fun i hi=>by
        by_cases hl:i<64 * b.ws.length
        ·cases hb:bit b.ws i with
         |false=>rfl
         |true=>exact absurd ⟨i,by omega,hl,hb⟩ hn
        ·exact yw (by omega)⟩
       rw [this] at c;cases c
   ·have F2:((b.ws.length:Int) != iM b.size)=true:=by simp [c2]
    have hE:Dz b=3:=nO (by rw [Bool.eq_false_iff];intro h;exact c2 (iR.1 h).1.2.2)
    rw [hE]
    rw [au Ri rfl];simp only [Md];simp only [start,aH,aQ,aF,aO,aA,aB,aG,aP,Nat.reduceAdd,Nat.reduceSub]
    simp only [c0,F1,F2,W0,W3,T,z64,P,List.length_map,bJ,reduceCtorEq,Nat.reduceEqDiff,Nat.reduceAdd,Nat.reduceLT,Nat.reduceLeDiff,Nat.beq]
theorem afr {b:Bm} (hl:b.ws.length≤lim):cal env 114 [kK b]=some [(kK b,true)]:=by
 unfold kK
 have F1:(b.ws.length≤lim)=True:=eq_true hl
 rw [au ae4 rfl];simp only [MN];simp only [start,aH,aQ,aF,aO,aA,aB,aG,aP,Nat.reduceAdd,Nat.reduceSub]
 simp only [F1,List.length_map,List.nil_append,bJ,reduceCtorEq,Nat.reduceEqDiff,Nat.reduceAdd,Nat.reduceLT,Nat.reduceLeDiff,Nat.beq]
end Go.Proofs.YtaaokejjmdbfaaaDoor.V

namespace Go.Proofs.YtaaokejjmdbfaaaDoor.V
structure Gs where
 epoch:Int
 fr:Int
 to:Int
 deriving DecidableEq
def wV (x:Gs):PV:=.agg [.int .i64 x.epoch,.int .i64 x.fr,.int .i64 x.to]
def Au (x:Gs):List BV:=[.pv (.int .i64 x.epoch),.pv (.int .i64 x.fr),.pv (.int .i64 x.to)]
def jL (p x:Gs):Bool:=decide (x.fr=p.to+1)&&(decide (x.fr≤x.to)&&(decide (x.to≤1073741824)&&(decide (x.epoch≤1073741824)&&decide (p.epoch<x.epoch))))
def z0:Gs:=⟨0,0,0⟩
def linGo:Gs→List Gs→Bool
 |_,[]=>true
 |p,x :: l=>jL p x&&linGo x l
def Gt (l:List Gs):Bool:=linGo z0 l
def lastOf (l:List Gs) (j:Nat):Gs:=if j=0 then z0 else l.getD (j - 1) z0
def Gu (p:Gs):Prop:=0≤p.epoch∧p.epoch≤1073741824∧0≤p.to∧p.to≤1073741824
theorem Nb {l:List Gs} {i:Nat} (h:i<l.length):lastOf l (i+1)=l[i]:=by
 simp [lastOf,List.getD_eq_getElem?_getD,List.getElem?_eq_getElem h]
theorem Nc {p x:Gs} (h:jL p x=true) (hp:Gu p):Gu x∧x.fr=p.to+1∧x.fr≤x.to∧p.epoch<x.epoch:=by
 simp only [jL,Bool.and_eq_true,decide_eq_true_eq] at h
 unfold Gu at *
 omega
def jD (p:Gs):List Gs→Bool × Gs
 |[]=>(true,p)
 |x :: r=>if jL p x=true then jD x r else (false,p)
theorem Gv:∀ (l:List Gs) (p:Gs),(jD p l).1=linGo p l
 |[],_=>rfl
 |x :: l,p=>by
  unfold jD linGo
  by_cases h:jL p x=true
  ·simp only [h,if_true,Bool.true_and];exact Gv l x
  ·simp only [h,if_false,Bool.not_eq_true] at *;simp [h]
theorem adG {n low:Int}:cal env 48 [.int .i64 n,.int .i64 low]=some [(.bool (decide (n ≥ low)&&decide (n≤1073741824)),false)]:=by
 rw [au ag3 rfl];simp only [Yx];simp only [start,aH,aQ,aF,aO,aA,aB,aG,aP,Nat.reduceAdd,Nat.reduceSub]
 by_cases h:n ≥ low
 ·have G:(n ≥ low)=True:=eq_true h
  simp only [G,bJ,reduceCtorEq,Nat.reduceEqDiff,Nat.reduceAdd,Nat.reduceLT,Nat.reduceLeDiff,Nat.beq]
 ·have G:(n ≥ low)=False:=eq_false h
  simp only [G,bJ,reduceCtorEq,Nat.reduceEqDiff,Nat.reduceAdd,Nat.reduceLT,Nat.reduceLeDiff,Nat.beq]
theorem afs {l:List Gs} (hl:l.length≤lim)
  {st:St} (h:st.head [0,3,7,8,9] st.boxes.length=some ⟨[.pv (.list 3 (l.map wV)),.any,.any,.aK 0 0,.any,.any,.any,.pv (.list 3 (l.map wV)),.pv (.int .i64 l.length),.pv (.int .i64 (0:Nat)),.any,.any,.any,.any,.any,.any,.any,.any,.any,.any,.any,.any,.any,.any,.any,.any,.any,.any,.any,.any,.any,.any,.any,.any,.any,.any,.any,.any,.any,.any,.any,.any,.any,.any,.any,.any],[⟨false,Au z0⟩],[],none⟩) :
  den env Je st=match jD z0 l with
   |(true,p)=>some (.normal,⟨[.any,.any,.any,.any,.any,.any,.any,.any,.any,.any,.any,.any,.any,.any,.any,.any,.any,.any,.any,.any,.any,.any,.any,.any,.any,.any,.any,.any,.any,.any,.any,.any,.any,.any,.any,.any,.any,.any,.any,.any,.any,.any,.any,.any,.any,.any],[⟨false,Au p⟩],[],none⟩)
   |(false,p)=>some (.ret,⟨[.any,.any,.pv (.bool false),.any,.any,.any,.any,.any,.any,.any,.any,.any,.any,.any,.any,.any,.any,.any,.any,.any,.any,.any,.any,.any,.any,.any,.any,.any,.any,.any,.any,.any,.any,.any,.any,.any,.any,.any,.any,.any,.any,.any,.any,.any,.any,.any],[⟨false,Au p⟩],[],none⟩):=by
 unfold Je
 refine U2 (env:=env) l.length (fun i=>Gu (lastOf l i)) (fun i=>⟨[.pv (.list 3 (l.map wV)),.any,.any,.aK 0 0,.any,.any,.any,.pv (.list 3 (l.map wV)),.pv (.int .i64 l.length),.pv (.int .i64 i),.any,.any,.any,.any,.any,.any,.any,.any,.any,.any,.any,.any,.any,.any,.any,.any,.any,.any,.any,.any,.any,.any,.any,.any,.any,.any,.any,.any,.any,.any,.any,.any,.any,.any,.any,.any],[⟨false,Au (lastOf l i)⟩],[],none⟩)
  (fun i=>match jD (lastOf l i) (l.drop i) with
   |(true,p)=>some (.normal,⟨[.any,.any,.any,.any,.any,.any,.any,.any,.any,.any,.any,.any,.any,.any,.any,.any,.any,.any,.any,.any,.any,.any,.any,.any,.any,.any,.any,.any,.any,.any,.any,.any,.any,.any,.any,.any,.any,.any,.any,.any,.any,.any,.any,.any,.any,.any],[⟨false,Au p⟩],[],none⟩)
   |(false,p)=>some (.ret,⟨[.any,.any,.pv (.bool false),.any,.any,.any,.any,.any,.any,.any,.any,.any,.any,.any,.any,.any,.any,.any,.any,.any,.any,.any,.any,.any,.any,.any,.any,.any,.any,.any,.any,.any,.any,.any,.any,.any,.any,.any,.any,.any,.any,.any,.any,.any,.any,.any],[⟨false,Au p⟩],[],none⟩)) h (by simp [lastOf,Gu,z0]) (fun _=>rfl) (fun _=>rfl) ?_ ?_
 ·intro i rb hi hf ih
  have hi1:=cZ hi hl
  have F1:((i:Int)<(l.length:Int))=True:=eq_true (by omega)
  have hk:l[i]?=some l[i]:=List.getElem?_eq_getElem hi
  rw [Nb hi] at ih
  rw [List.drop_eq_getElem_cons hi]
  unfold jD
  generalize lastOf l i=p at *
  generalize l[i]=x at *
  obtain ⟨pe,pf,pt⟩:=p
  obtain ⟨xe,xf,xt⟩:=x
  have hf':=hf
  simp only [Gu] at hf
  have F2:IntKind.i64.wrap (pt+1)=pt+1:=bn (by omega)
  by_cases c1:xf=pt+1
  rotate_left
  ·have G1:(xf != pt+1)=true:=by simpa using c1
   have hn:jL ⟨pe,pf,pt⟩ ⟨xe,xf,xt⟩=false:=by simp [jL,c1]
   simp only [G1,ql,F1,F2,hk,Au,wV,ak hi,List.getElem?_map,Option.map_some,bJ,reduceCtorEq,Nat.reduceEqDiff,Nat.reduceAdd,Nat.reduceLT,Nat.reduceLeDiff,Nat.beq]
   simp only [hn]
   rfl
  have G1:(xf != pt+1)=false:=by simpa using c1
  by_cases c2:xt<xf
  ·have G2:(xt<xf)=True:=eq_true c2
   have hn:jL ⟨pe,pf,pt⟩ ⟨xe,xf,xt⟩=false:=by simp [jL];omega
   simp only [G1,G2,ql,F1,F2,hk,Au,wV,ak hi,List.getElem?_map,Option.map_some,bJ,reduceCtorEq,Nat.reduceEqDiff,Nat.reduceAdd,Nat.reduceLT,Nat.reduceLeDiff,Nat.beq]
   simp only [hn]
   rfl
  have G2:(xt<xf)=False:=eq_false c2
  by_cases c3:xt > 1073741824
  ·have G3:(xt > 1073741824)=True:=eq_true c3
   have hn:jL ⟨pe,pf,pt⟩ ⟨xe,xf,xt⟩=false:=by simp [jL];omega
   simp only [G1,G2,G3,ql,F1,F2,hk,Au,wV,ak hi,List.getElem?_map,Option.map_some,bJ,reduceCtorEq,Nat.reduceEqDiff,Nat.reduceAdd,Nat.reduceLT,Nat.reduceLeDiff,Nat.beq]
   simp only [hn]
   rfl
  have G3:(xt > 1073741824)=False:=eq_false c3
  have e1:=adG (n:=xe) (low:=1)
  by_cases c4:1≤xe∧xe≤1073741824
  rotate_left
  ·have G4:(decide (xe ≥ 1)&&decide (xe≤1073741824))=false:=by
    rw [← Bool.not_eq_true];simp;omega
   rw [G4] at e1
   have hn:jL ⟨pe,pf,pt⟩ ⟨xe,xf,xt⟩=false:=by simp [jL];omega
   simp only [G1,G2,G3,e1,ql,F1,F2,hk,Au,wV,ak hi,List.getElem?_map,Option.map_some,bJ,reduceCtorEq,Nat.reduceEqDiff,Nat.reduceAdd,Nat.reduceLT,Nat.reduceLeDiff,Nat.beq]
   simp only [hn]
   rfl
  have G4:(decide (xe ≥ 1)&&decide (xe≤1073741824))=true:=by simp;omega
  rw [G4] at e1
  by_cases c5:xe≤pe
  ·have G5:(xe≤pe)=True:=eq_true c5
   have hn:jL ⟨pe,pf,pt⟩ ⟨xe,xf,xt⟩=false:=by simp [jL];omega
   simp only [G1,G2,G3,e1,G5,ql,F1,F2,hk,Au,wV,ak hi,List.getElem?_map,Option.map_some,bJ,reduceCtorEq,Nat.reduceEqDiff,Nat.reduceAdd,Nat.reduceLT,Nat.reduceLeDiff,Nat.beq]
   simp only [hn]
   rfl
  have G5:(xe≤pe)=False:=eq_false c5
  have hn:jL ⟨pe,pf,pt⟩ ⟨xe,xf,xt⟩=true:=by simp [jL];omega
  have hfx:=(Nc hn hf').1
  simp only [G1,G2,G3,e1,G5,ql,F1,F2,hk,Au,wV,ak hi,List.getElem?_map,Option.map_some,bJ,reduceCtorEq,Nat.reduceEqDiff,Nat.reduceAdd,Nat.reduceLT,Nat.reduceLeDiff,Nat.beq]
  rw [ih hfx _ (by simp only [hi1];rfl)]
  simp only [hn,if_true]
  rfl
 ·intro rb hf
  simp only [ql,Int.lt_irrefl,bJ,reduceCtorEq,Nat.reduceEqDiff,Nat.reduceAdd,Nat.reduceLT,Nat.reduceLeDiff,Nat.beq]
  rw [List.drop_length]
  rfl
theorem ahH {l:List Gs} (hl:l.length≤lim):cal env 49 [.list 3 (l.map wV)]=some [(.bool (Gt l),false)]:=by
 rw [au ag4 rfl];simp only [Yy];simp only [start,aH,aQ,aF,aO,aA,aB,aG,aP,Nat.reduceAdd,Nat.reduceSub]
 simp only [bJ,reduceCtorEq,Nat.reduceEqDiff,Nat.reduceAdd,Nat.reduceLT,Nat.reduceLeDiff,Nat.beq]
 rw [afs hl]
 rotate_left
 ·rfl
 ·have:=Gv l z0
  cases h:jD z0 l with
  |mk t p =>
   rw [h] at this
   cases t with
   |true=>simp only [Gt,← this,bJ,reduceCtorEq,Nat.reduceEqDiff,Nat.reduceAdd,Nat.reduceLT,Nat.reduceLeDiff,Nat.beq]
   |false=>simp only [Gt,← this,bJ,reduceCtorEq,Nat.reduceEqDiff,Nat.reduceAdd,Nat.reduceLT,Nat.reduceLeDiff,Nat.beq]
end Go.Proofs.YtaaokejjmdbfaaaDoor.V

namespace Go.Proofs.YtaaokejjmdbfaaaDoor.V
end Go.Proofs.YtaaokejjmdbfaaaDoor.V

namespace Go.Proofs.YtaaokejjmdbfaaaDoor.V
end Go.Proofs.YtaaokejjmdbfaaaDoor.V

namespace Go.Proofs.YtaaokejjmdbfaaaDoor.V
structure Pt where
 site:Int
 lin:List Gs
 dirty:List Bm
 img:jk
def nZ (p:Pt):PV:=.agg [.int .i64 p.site,.list 3 (p.lin.map wV),.list 2 (p.dirty.map kK),.list 1 (p.img.map bg)]
def tq (p:Pt):List BV:=[.pv (.int .i64 p.site),.pv (.list 3 (p.lin.map wV)),.pv (.list 2 (p.dirty.map kK)),.pv (.list 1 (p.img.map bg))]
theorem gI (p:Pt):tq p=[.pv (.int .i64 p.site),.pv (.list 3 (p.lin.map wV)),.pv (.list 2 (p.dirty.map kK)),.pv (.list 1 (p.img.map bg))]:=rfl
theorem kL (p:Pt):nZ p=.agg [.int .i64 p.site,.list 3 (p.lin.map wV),.list 2 (p.dirty.map kK),.list 1 (p.img.map bg)]:=rfl
def EN (p:Pt):Prop:=p.lin.length≤lim∧p.dirty.length≤lim∧p.img.length≤lim
def wW:List Bm→jk→Int
 |b :: bs,v :: vs=>if Dz b≠0 then Dz b else if b.size≠(v.length:Int) then 22 else wW bs vs
 |_,_=>0
def jh (p:Pt):Int :=
 if p.site<0∨1073741824<p.site then 2
 else if Gt p.lin=false then 3
 else if bU p.img≠0 then bU p.img
 else if p.dirty.length≠p.img.length then 6
 else wW p.dirty p.img
def resD (n:Nat) (e:Int) (bx:List Box):Option (Ex × St):=if e=0 then some (.normal,⟨sl n [(2,.any)],bx,[],none⟩) else some (.ret,⟨sl n [(2,.pv (.int .i64 e))],bx,[],none⟩)
theorem Vr {bs:List Bm} {vs:jk} {i:Nat} (h1:i<bs.length) (h2:i<vs.length):wW (bs.drop i) (vs.drop i)=if Dz bs[i]≠0 then Dz bs[i] else if bs[i].size≠(vs[i].length:Int) then 22 else wW (bs.drop (i+1)) (vs.drop (i+1)):=by
 rw [List.drop_eq_getElem_cons h1,List.drop_eq_getElem_cons h2,wW]
theorem aft {p:Pt} (hl:p.dirty.length≤lim) (hq:p.dirty.length=p.img.length) {st:St} (h:st.head [1,31,32,33] st.boxes.length=some ⟨sl 53 [(1,.aK 0 0),(31,.pv (.list 2 (p.dirty.map kK))),(32,.pv (.int .i64 p.dirty.length)),(33,.pv (.int .i64 (0:Nat)))],[⟨false,tq p⟩],[],none⟩) :
  den env IL st=resD 53 (wW (p.dirty.drop ((0:Nat))) (p.img.drop ((0:Nat)))) [⟨false,tq p⟩]:=by
 unfold IL
 refine cO (env:=env) (nb:=1) (p.dirty.length) (fun i=>⟨sl 53 [(1,.aK 0 0),(31,.pv (.list 2 (p.dirty.map kK))),(32,.pv (.int .i64 p.dirty.length)),(33,.pv (.int .i64 i))],[⟨false,tq p⟩],[],none⟩) (fun i=>resD 53 (wW (p.dirty.drop (i)) (p.img.drop (i))) [⟨false,tq p⟩]) h (fun _=>rfl) (fun _=>by simp only [bC,dK,Nat.reduceMul,Nat.reduceBEq,Nat.reduceLT,Nat.reduceLeDiff,Nat.reduceAdd,decide_true,Bool.and_self,Bool.true_and]) ?_ ?_
 ·intro i rb hi ih
  have hi1:=cZ hi hl
  have hj:i<p.img.length:=by omega
  have F1:((i:Int)<(p.dirty.length:Int))=True:=eq_true (by omega)
  have P2:∀ a b:PV,part [a,b] 0 (some 2)=some (.agg [a,b]):=fun _ _=>rfl
  have eA:∀ b:Bm,kK b=.agg [.int .i64 b.size,.list 1 (b.ws.map eW)]:=fun _=>rfl
  have eV:∀ v:List dD,bg v=.list 8 (v.map iT):=fun _=>rfl
  have hx:(p.dirty.map kK)[i]?=some (kK p.dirty[i]):=by rw [List.getElem?_map,List.getElem?_eq_getElem hi];rfl
  have hy:(p.img.map bg)[i]?=some (bg p.img[i]):=by rw [List.getElem?_map,List.getElem?_eq_getElem hj];rfl
  have e1:=Rq (b:=p.dirty[i])
  have hD:=Vr hi hj
  rw [eA] at hx e1
  rw [eV] at hy
  by_cases c1:Dz p.dirty[i]=0
  ·have G1:((0:Int) != 0)=false:=rfl
   rw [c1] at e1
   rw [if_neg (show ¬ Dz p.dirty[i]≠0 from fun h=>h c1)] at hD
   by_cases c2:p.dirty[i].size=(p.img[i].length:Int)
   ·have G2:(p.dirty[i].size != (p.img[i].length:Int))=false:=by simpa using c2
    rw [if_neg (show ¬ p.dirty[i].size≠(p.img[i].length:Int) from fun h=>h c2)] at hD
    rw [hD]
    simp only [yg,F1,hx,hy,e1,P2,G1,G2,gI,ak hi,ak hj,List.length_map,aX,Nat.reduceMul,Nat.reduceBEq,Nat.reduceLT,Nat.reduceLeDiff,reduceCtorEq,Nat.reduceEqDiff,Nat.reduceAdd,Nat.beq]
    rw [ih _ (by simp only [hi1,gI,aX,Nat.reduceMul,Nat.reduceBEq,Nat.reduceLT,Nat.reduceLeDiff,reduceCtorEq,Nat.reduceEqDiff,Nat.reduceAdd,Nat.beq]<;>rfl)]
    all_goals rfl
   ·have G2:(p.dirty[i].size != (p.img[i].length:Int))=true:=by simpa using c2
    rw [if_pos c2] at hD
    rw [hD]
    unfold resD
    rw [if_neg (by decide)]
    simp only [yg,F1,hx,hy,e1,P2,G1,G2,gI,ak hi,ak hj,List.length_map,aX,Nat.reduceMul,Nat.reduceBEq,Nat.reduceLT,Nat.reduceLeDiff,reduceCtorEq,Nat.reduceEqDiff,Nat.reduceAdd,Nat.beq]
  ·have G1:(Dz p.dirty[i] != 0)=true:=by simpa using c1
   rw [if_pos c1] at hD
   rw [hD]
   unfold resD
   rw [if_neg c1]
   simp only [yg,F1,hx,hy,e1,P2,G1,gI,ak hi,ak hj,List.length_map,aX,Nat.reduceMul,Nat.reduceBEq,Nat.reduceLT,Nat.reduceLeDiff,reduceCtorEq,Nat.reduceEqDiff,Nat.reduceAdd,Nat.beq]
 ·intro rb
  rw [List.drop_length,hq,List.drop_length]
  unfold wW resD
  rw [if_pos rfl]
  simp only [yg,Int.lt_irrefl,gI,hq,List.length_map,aX,Nat.reduceMul,Nat.reduceBEq,Nat.reduceLT,Nat.reduceLeDiff,reduceCtorEq,Nat.reduceEqDiff,Nat.reduceAdd,Nat.beq]
theorem adH {p:Pt} (h:EN p):cal env 15 [nZ p]=some [(.int .i64 (jh p),false)]:=by
 obtain ⟨h1,h2,h3⟩:=h
 have e0:=adG (n:=p.site) (low:=0)
 have e1:=ahH (l:=p.lin) h1
 have e2:=YV (im:=p.img) h3
 have Z:((0:Int) != 0)=false:=rfl
 unfold jh
 rw [kL]
 by_cases c1:p.site<0∨1073741824<p.site
 ·have G1:(decide (p.site ≥ 0)&&decide (p.site≤1073741824))=false:=by simp;omega
  rw [G1] at e0
  rw [if_pos c1]
  rw [au MO rfl];simp only [IQ,bC,Nat.reduceBEq,Nat.reduceLeDiff,Nat.reduceAdd,List.length_cons,List.length_nil]
  simp only [e0,aX,Nat.reduceMul,Nat.reduceBEq,Nat.reduceLT,Nat.reduceLeDiff,reduceCtorEq,Nat.reduceEqDiff,Nat.reduceAdd,Nat.beq]
 ·have G1:(decide (p.site ≥ 0)&&decide (p.site≤1073741824))=true:=by simp;omega
  rw [G1] at e0
  rw [if_neg c1]
  cases c3:Gt p.lin with
  |false =>
   rw [c3] at e1
   rw [if_pos rfl]
   rw [au MO rfl];simp only [IQ,bC,Nat.reduceBEq,Nat.reduceLeDiff,Nat.reduceAdd,List.length_cons,List.length_nil]
   simp only [e0,e1,aX,Nat.reduceMul,Nat.reduceBEq,Nat.reduceLT,Nat.reduceLeDiff,reduceCtorEq,Nat.reduceEqDiff,Nat.reduceAdd,Nat.beq]
  |true =>
   rw [c3] at e1
   rw [if_neg (by decide)]
   by_cases c4:bU p.img=0
   ·rw [c4] at e2
    rw [if_neg (by rw [c4];decide)]
    by_cases c5:p.dirty.length=p.img.length
    ·have G5:((p.dirty.length:Int) != (p.img.length:Int))=false:=by simp [c5]
     rw [if_neg (by simpa using c5)]
     rw [au MO rfl];simp only [IQ,bC,Nat.reduceBEq,Nat.reduceLeDiff,Nat.reduceAdd,List.length_cons,List.length_nil]
     simp only [e0,e1,e2,Z,G5,List.length_map,aX,Nat.reduceMul,Nat.reduceBEq,Nat.reduceLT,Nat.reduceLeDiff,reduceCtorEq,Nat.reduceEqDiff,Nat.reduceAdd,Nat.beq]
     rw [aft (p:=p) h2 c5]
     rotate_left
     ·rw [gI]
      simp only [bC,dK,Nat.reduceMul,Nat.reduceBEq,Nat.reduceLT,Nat.reduceLeDiff,Nat.reduceAdd,decide_true,Bool.and_self,Bool.true_and]<;>rfl
     ·rw [List.drop_zero,List.drop_zero]
      unfold resD
      split
      ·rename_i c6
       rw [c6]
       simp only [e0,e1,e2,Z,G5,List.length_map,aX,Nat.reduceMul,Nat.reduceBEq,Nat.reduceLT,Nat.reduceLeDiff,reduceCtorEq,Nat.reduceEqDiff,Nat.reduceAdd,Nat.beq]
      ·simp only [e0,e1,e2,Z,G5,List.length_map,aX,Nat.reduceMul,Nat.reduceBEq,Nat.reduceLT,Nat.reduceLeDiff,reduceCtorEq,Nat.reduceEqDiff,Nat.reduceAdd,Nat.beq]
    ·have G5:((p.dirty.length:Int) != (p.img.length:Int))=true:=by simp;omega
     rw [if_pos c5]
     rw [au MO rfl];simp only [IQ,bC,Nat.reduceBEq,Nat.reduceLeDiff,Nat.reduceAdd,List.length_cons,List.length_nil]
     simp only [e0,e1,e2,Z,G5,List.length_map,aX,Nat.reduceMul,Nat.reduceBEq,Nat.reduceLT,Nat.reduceLeDiff,reduceCtorEq,Nat.reduceEqDiff,Nat.reduceAdd,Nat.beq]
   ·have G4:(bU p.img != 0)=true:=by simpa using c4
    rw [if_pos c4]
    rw [au MO rfl];simp only [IQ,bC,Nat.reduceBEq,Nat.reduceLeDiff,Nat.reduceAdd,List.length_cons,List.length_nil]
    simp only [e0,e1,e2,G4,List.length_map,aX,Nat.reduceMul,Nat.reduceBEq,Nat.reduceLT,Nat.reduceLeDiff,reduceCtorEq,Nat.reduceEqDiff,Nat.reduceAdd,Nat.beq]
end Go.Proofs.YtaaokejjmdbfaaaDoor.V

namespace Go.Proofs.YtaaokejjmdbfaaaDoor.V
theorem Zu:∀ a b:jk,eqF (fun x y:List dD=>decide (x.length=y.length)) a b=decide (aS a=aS b)
 |[],[]=>rfl
 |[],y :: b=>by simp [eqF,aS]
 |x :: a,[]=>by simp [eqF,aS]
 |x :: a,y :: b=>by
  have ih:=Zu a b
  unfold eqF at ih ⊢
  have e0:decide (aS (x :: a)=aS (y :: b))=(decide (x.length=y.length)&&decide (aS a=aS b)):=by
   rw [← Bool.decide_and]
   exact decide_eq_decide.2 (by simp only [aS,List.map_cons,List.cons.injEq];exact and_congr Int.ofNat_inj Iff.rfl)
  rw [e0,← ih]
  simp only [List.length_cons,List.zip_cons_cons,List.all_cons]
  have e2:decide (a.length+1=b.length+1)=decide (a.length=b.length):=decide_eq_decide.2 (by omega)
  rw [e2]
  cases decide (x.length=y.length)<;>cases decide (a.length=b.length)<;>simp
theorem ahI {x y:List dD}:cal env 79 [bg x,bg y]=some [(.bool (decide (x.length=y.length)),false)]:=by
 have eV:∀ v:List dD,bg v=.list 8 (v.map iT):=fun _=>rfl
 rw [eV,eV]
 by_cases c:x.length=y.length
 ·have G:((x.length:Int)==(y.length:Int))=true:=by simp [c]
  rw [decide_eq_true c]
  rw [au adD rfl];simp only [U0,bC,Nat.reduceBEq,Nat.reduceLeDiff,Nat.reduceAdd,List.length_cons,List.length_nil]
  simp only [G,List.length_map,aX,Nat.reduceMul,Nat.reduceBEq,Nat.reduceLT,Nat.reduceLeDiff,reduceCtorEq,Nat.reduceEqDiff,Nat.reduceAdd,Nat.beq]
 ·have G:((x.length:Int)==(y.length:Int))=false:=by simp;omega
  rw [decide_eq_false c]
  rw [au adD rfl];simp only [U0,bC,Nat.reduceBEq,Nat.reduceLeDiff,Nat.reduceAdd,List.length_cons,List.length_nil]
  simp only [G,List.length_map,aX,Nat.reduceMul,Nat.reduceBEq,Nat.reduceLT,Nat.reduceLeDiff,reduceCtorEq,Nat.reduceEqDiff,Nat.reduceAdd,Nat.beq]
theorem adI {a b:jk} (hl:a.length≤lim):cal env 44 [.list 1 (a.map bg),.list 1 (b.map bg)]=some [(.bool (decide (aS a=aS b)),false)]:=by
 have e1:=adE (enc:=bg) (enc2:=bg) (eq:=fun x y:List dD=>decide (x.length=y.length)) (l:=a) (m:=b) (gf:=79) (caps:=[]) (fun x _ y _=>ahI) (fun _=>rfl) (fun _=>rfl) hl
 rw [Zu] at e1
 rw [au ag1 rfl];simp only [Yv,bC,Nat.reduceBEq,Nat.reduceLeDiff,Nat.reduceAdd,List.length_cons,List.length_nil]
 simp only [e1,aX,Nat.reduceMul,Nat.reduceBEq,Nat.reduceLT,Nat.reduceLeDiff,reduceCtorEq,Nat.reduceEqDiff,Nat.reduceAdd,Nat.beq]
def qL:List Pt→Int
 |[]=>0
 |p :: l=>if jh p=0 then qL l else jh p
def sameAll (u:List Int) (l:List Pt):Bool:=l.all fun p=>decide (aS p.img=u)
def zZ (l:List Pt):Int :=
 if qL l=0 then
  if l.length<1∨4<l.length then 6
  else if sameAll (aS (l.getD 0 ⟨0,[],[],[]⟩).img) l then 0 else 22
 else qL l
theorem Gw {l:List Pt} {i:Nat} (h:i<l.length):qL (l.drop i)=if jh l[i]=0 then qL (l.drop (i+1)) else jh l[i]:=by
 rw [List.drop_eq_getElem_cons h,qL]
theorem JA {u:List Int} {l:List Pt} {i:Nat} (h:i<l.length):sameAll u (l.drop i)=(decide (aS l[i].img=u)&&sameAll u (l.drop (i+1))):=by
 rw [List.drop_eq_getElem_cons h];rfl
def resE (n:Nat) (e:Int) (a:AV):Option (Ex × St):=if e=0 then some (.normal,⟨sl n [(0,a),(2,.any)],[],[],none⟩) else some (.ret,⟨sl n [(0,a),(2,.pv (.int .i64 e))],[],[],none⟩)
def Rt (n:Nat) (t:Bool):Option (Ex × St):=if t then some (.normal,⟨sl n [(2,.any)],[],[],none⟩) else some (.ret,⟨sl n [(2,.pv (.int .i64 22))],[],[],none⟩)
theorem Ru (n:Nat):Rt n true=some (.normal,⟨sl n [(2,.any)],[],[],none⟩):=rfl
theorem Rw (n:Nat):Rt n false=some (.ret,⟨sl n [(2,.pv (.int .i64 22))],[],[],none⟩):=rfl
theorem afu {l:List Pt} (hl:l.length≤lim) (hf:∀ p∈l,EN p) {st:St} (h:st.head [0,8,9,10] st.boxes.length=some ⟨sl 43 [(0,.pv (.list 4 (l.map nZ))),(8,.pv (.list 4 (l.map nZ))),(9,.pv (.int .i64 l.length)),(10,.pv (.int .i64 (0:Nat)))],[],[],none⟩) :
  den env Jg st=resE 43 (qL (l.drop ((0:Nat)))) (.pv (.list 4 (l.map nZ))):=by
 unfold Jg
 refine cO (env:=env) (nb:=0) (l.length) (fun i=>⟨sl 43 [(0,.pv (.list 4 (l.map nZ))),(8,.pv (.list 4 (l.map nZ))),(9,.pv (.int .i64 l.length)),(10,.pv (.int .i64 i))],[],[],none⟩) (fun i=>resE 43 (qL (l.drop (i))) (.pv (.list 4 (l.map nZ)))) h (fun _=>rfl) (fun _=>by simp only [bC,dK,Nat.reduceMul,Nat.reduceBEq,Nat.reduceLT,Nat.reduceLeDiff,Nat.reduceAdd,decide_true,Bool.and_self,Bool.true_and]) ?_ ?_
 ·intro i rb hi ih
  have hi1:=cZ hi hl
  have F1:((i:Int)<(l.length:Int))=True:=eq_true (by omega)
  have e1:=adH (p:=l[i]) (hf _ (List.getElem_mem hi))
  have hx:(l.map nZ)[i]?=some (nZ l[i]):=by rw [List.getElem?_map,List.getElem?_eq_getElem hi];rfl
  have P4:∀ a b c d:PV,part [a,b,c,d] 0 (some 4)=some (.agg [a,b,c,d]):=fun _ _ _ _=>rfl
  rw [Gw hi]
  rw [kL] at e1 hx
  by_cases c:jh l[i]=0
  ·have G:((0:Int) != 0)=false:=rfl
   rw [if_pos c]
   rw [c] at e1
   simp only [AZ,F1,hx,e1,G,P4,ak hi,List.length_map,aX,Nat.reduceMul,Nat.reduceBEq,Nat.reduceLT,Nat.reduceLeDiff,reduceCtorEq,Nat.reduceEqDiff,Nat.reduceAdd,Nat.beq]
   rw [ih _ (by simp only [hi1,aX,Nat.reduceMul,Nat.reduceBEq,Nat.reduceLT,Nat.reduceLeDiff,reduceCtorEq,Nat.reduceEqDiff,Nat.reduceAdd,Nat.beq]<;>rfl)]
  ·have G:(jh l[i] != 0)=true:=by simpa using c
   rw [if_neg c]
   unfold resE
   rw [if_neg c]
   simp only [AZ,F1,hx,e1,G,P4,ak hi,List.length_map,aX,Nat.reduceMul,Nat.reduceBEq,Nat.reduceLT,Nat.reduceLeDiff,reduceCtorEq,Nat.reduceEqDiff,Nat.reduceAdd,Nat.beq]
 ·intro rb
  rw [List.drop_length]
  unfold qL resE
  rw [if_pos rfl]
  simp only [AZ,Int.lt_irrefl,List.length_map,aX,Nat.reduceMul,Nat.reduceBEq,Nat.reduceLT,Nat.reduceLeDiff,reduceCtorEq,Nat.reduceEqDiff,Nat.reduceAdd,Nat.beq]
theorem Zv {l:List Pt} {p0:Pt} (h0:l[0]?=some p0) (hl:l.length≤lim) (hf:∀ p∈l,EN p) {st:St} (h:st.head [0,28,29,30] st.boxes.length=some ⟨sl 43 [(0,.pv (.list 4 (l.map nZ))),(28,.pv (.list 4 (l.map nZ))),(29,.pv (.int .i64 l.length)),(30,.pv (.int .i64 (0:Nat)))],[],[],none⟩) :
  den env Jh st=Rt 43 (sameAll (aS p0.img) (l.drop ((0:Nat)))):=by
 unfold Jh
 refine cO (env:=env) (nb:=0) (l.length) (fun i=>⟨sl 43 [(0,.pv (.list 4 (l.map nZ))),(28,.pv (.list 4 (l.map nZ))),(29,.pv (.int .i64 l.length)),(30,.pv (.int .i64 i))],[],[],none⟩) (fun i=>Rt 43 (sameAll (aS p0.img) (l.drop (i)))) h (fun _=>rfl) (fun _=>by simp only [bC,dK,Nat.reduceMul,Nat.reduceBEq,Nat.reduceLT,Nat.reduceLeDiff,Nat.reduceAdd,decide_true,Bool.and_self,Bool.true_and]) ?_ ?_
 ·intro i rb hi ih
  have hi1:=cZ hi hl
  have F1:((i:Int)<(l.length:Int))=True:=eq_true (by omega)
  have hn:0<l.length:=by omega
  have e1:=adI (a:=l[i].img) (b:=p0.img) (hf _ (List.getElem_mem hi)).2.2
  have hx:(l.map nZ)[i]?=some (nZ l[i]):=by rw [List.getElem?_map,List.getElem?_eq_getElem hi];rfl
  have hy:(l.map nZ)[0]?=some (nZ p0):=by rw [List.getElem?_map,h0];rfl
  have P4:∀ a b c d:PV,part [a,b,c,d] 0 (some 4)=some (.agg [a,b,c,d]):=fun _ _ _ _=>rfl
  have I0:index (.int .i64 0) l.length=some 0:=ak (i:=0) hn
  rw [JA hi]
  rw [kL] at hx hy
  cases c:decide (aS l[i].img=aS p0.img) with
  |true =>
   rw [Bool.true_and]
   rw [c] at e1
   simp only [A8,F1,hx,hy,e1,P4,I0,ak hi,List.length_map,aX,Nat.reduceMul,Nat.reduceBEq,Nat.reduceLT,Nat.reduceLeDiff,reduceCtorEq,Nat.reduceEqDiff,Nat.reduceAdd,Nat.beq]
   rw [ih _ (by simp only [hi1,aX,Nat.reduceMul,Nat.reduceBEq,Nat.reduceLT,Nat.reduceLeDiff,reduceCtorEq,Nat.reduceEqDiff,Nat.reduceAdd,Nat.beq]<;>rfl)]
  |false =>
   rw [Bool.false_and,Rw]
   rw [c] at e1
   simp only [A8,F1,hx,hy,e1,P4,I0,ak hi,List.length_map,aX,Nat.reduceMul,Nat.reduceBEq,Nat.reduceLT,Nat.reduceLeDiff,reduceCtorEq,Nat.reduceEqDiff,Nat.reduceAdd,Nat.beq]
 ·intro rb
  rw [List.drop_length]
  unfold sameAll
  rw [List.all_nil,Ru]
  simp only [A8,Int.lt_irrefl,List.length_map,aX,Nat.reduceMul,Nat.reduceBEq,Nat.reduceLT,Nat.reduceLeDiff,reduceCtorEq,Nat.reduceEqDiff,Nat.reduceAdd,Nat.beq]
theorem ahJ {l:List Pt} (hl:l.length≤lim) (hf:∀ p∈l,EN p):cal env 56 [.list 4 (l.map nZ)]=some [(.int .i64 (zZ l),false)]:=by
 unfold zZ
 rw [au ag6 rfl];simp only [YA,bC,Nat.reduceBEq,Nat.reduceLeDiff,Nat.reduceAdd,List.length_cons,List.length_nil]
 simp only [List.length_map,aX,Nat.reduceMul,Nat.reduceBEq,Nat.reduceLT,Nat.reduceLeDiff,reduceCtorEq,Nat.reduceEqDiff,Nat.reduceAdd,Nat.beq]
 rw [afu (l:=l) hl hf]
 rotate_left
 ·simp only [bC,dK,Nat.reduceMul,Nat.reduceBEq,Nat.reduceLT,Nat.reduceLeDiff,Nat.reduceAdd,decide_true,Bool.and_self,Bool.true_and]<;>rfl
 ·rw [List.drop_zero]
  unfold resE
  by_cases c:qL l=0
  ·rw [if_pos c,if_pos c]
   by_cases c1:l.length<1
   ·have G:((l.length:Int)<1)=True:=eq_true (by omega)
    rw [if_pos (.inl c1)]
    simp only [G,List.length_map,aX,Nat.reduceMul,Nat.reduceBEq,Nat.reduceLT,Nat.reduceLeDiff,reduceCtorEq,Nat.reduceEqDiff,Nat.reduceAdd,Nat.beq]
   ·have G:((l.length:Int)<1)=False:=eq_false (by omega)
    by_cases c2:l.length > 4
    ·have G2:((l.length:Int) > 4)=True:=eq_true (by omega)
     rw [if_pos (.inr c2)]
     simp only [G,G2,List.length_map,aX,Nat.reduceMul,Nat.reduceBEq,Nat.reduceLT,Nat.reduceLeDiff,reduceCtorEq,Nat.reduceEqDiff,Nat.reduceAdd,Nat.beq]
    ·have G2:((l.length:Int) > 4)=False:=eq_false (by omega)
     rw [if_neg (by omega)]
     simp only [G,G2,List.length_map,aX,Nat.reduceMul,Nat.reduceBEq,Nat.reduceLT,Nat.reduceLeDiff,reduceCtorEq,Nat.reduceEqDiff,Nat.reduceAdd,Nat.beq]
     have h0:l[0]?=some l[0]:=List.getElem?_eq_getElem (by omega)
     have hD:l.getD 0 ⟨0,[],[],[]⟩=l[0]:=by rw [List.getD_eq_getElem?_getD,h0];rfl
     rw [Zv h0 hl hf]
     rotate_left
     ·simp only [bC,dK,Nat.reduceMul,Nat.reduceBEq,Nat.reduceLT,Nat.reduceLeDiff,Nat.reduceAdd,decide_true,Bool.and_self,Bool.true_and]<;>rfl
     ·rw [List.drop_zero,hD]
      cases sameAll (aS l[0].img) l with
      |true =>
       rw [Ru]
       simp only [List.length_map,aX,Nat.reduceMul,Nat.reduceBEq,Nat.reduceLT,Nat.reduceLeDiff,reduceCtorEq,Nat.reduceEqDiff,Nat.reduceAdd,Nat.beq]
      |false =>
       rw [Rw]
       simp only [List.length_map,aX,Nat.reduceMul,Nat.reduceBEq,Nat.reduceLT,Nat.reduceLeDiff,reduceCtorEq,Nat.reduceEqDiff,Nat.reduceAdd,Nat.beq]
  ·rw [if_neg c,if_neg c]
   simp only [List.length_map,aX,Nat.reduceMul,Nat.reduceBEq,Nat.reduceLT,Nat.reduceLeDiff,reduceCtorEq,Nat.reduceEqDiff,Nat.reduceAdd,Nat.beq]
end Go.Proofs.YtaaokejjmdbfaaaDoor.V

namespace Go.Proofs.YtaaokejjmdbfaaaDoor.V
def acQ (b:Bm) (s:Int):Bool:=okB b&&(decide (0≤s)&&(decide (s<b.size)&&bit b.ws s.toNat))
end Go.Proofs.YtaaokejjmdbfaaaDoor.V

namespace Go.Proofs.YtaaokejjmdbfaaaDoor.V
def dir (a:Pt) (v:Nat):Bm:=a.dirty.getD v ⟨0,[]⟩
def mk2 (a b:Pt) (v k:Nat):Bool:=acQ (dir a v) (k:Int) || acQ (dir b v) (k:Int)
theorem Zw {a:Pt} {v:Nat} (h:v<a.dirty.length):(a.dirty.map kK)[v]?=some (kK (dir a v)):=by
 rw [List.getElem?_map,List.getElem?_eq_getElem h]
 unfold dir
 rw [List.getD_eq_getElem?_getD,List.getElem?_eq_getElem h]
 rfl
def ig (a:Pt) (i:Nat):Nat:=(a.img.getD i []).length
def wX (a b:Pt) (n:Nat):List (List ji):=(List.range n).map fun i=>ext (mk2 a b i) (ig a i)
theorem Zx (a b:Pt) (n:Nat):wX a b (n+1)=wX a b n++[ext (mk2 a b n) (ig a n)]:=by
 unfold wX;rw [List.range_succ,List.map_append];rfl
theorem vK (a b:Pt) (n:Nat):(wX a b n).length=n:=by simp [wX]
def pJ (l:List ji):PV:=.list 2 (l.map fH)
end Go.Proofs.YtaaokejjmdbfaaaDoor.V

namespace Go.Proofs.YtaaokejjmdbfaaaDoor.V
end Go.Proofs.YtaaokejjmdbfaaaDoor.V
