/-
  Part 4 of the texts that the statement stands on.
-/
import Derived.Test.YtldmhbkfblbhaaaZ3
import Derived.Test.YtldmhbkfblbhaaaProg
import Derived.Shelf.SlSortCmp.WholeK
import Derived.Shelf.SlSortCmp.NoneTotal
import Derived.Shelf.SlicesG.Cmp
import Derived.Shelf.Small.Bits
import Derived.Ground.SlsfProg
import Derived.Ground.SlgcProg
import Derived.Ground.NamesProg
set_option linter.all false
namespace Go.Proofs.Ytldmhbkfblbhaaa

def fn3 : VFn := ⟨2, 19, [.tmp 4], (.seq (.ops [.asg 4 (.c (.bool false))]) (.seq (.seq (.ops [.mov 5 (.t 0), .call 6 12 [(.t 5), (.nil 2)], .un 7 .not (.t 6)]) (.cond (.t 7) (.seq (.ops [.call 8 13 [], .asg 4 (.t 8)]) .ret) .skip)) (.seq (.ops [.mov 9 (.t 0), .mov 10 (.t 1), .call 11 14 [(.t 9), (.t 10)], .mov 12 (.t 0), .mov 13 (.t 1), .call 14 15 [(.t 12), (.t 13)], .bin 15 .eql (.t 11) (.t 14), .mov 16 (.t 15), .grd 16 true (.call 17 13 []), .pick 18 (.t 16) (.t 17) (.c (.bool false)), .asg 4 (.t 18)]) .ret)))⟩
def fn4 : VFn := ⟨1, 32, [.tmp 2], (.seq (.ops [.asg 2 (.c (.bool false))]) (.seq (.seq (.ops [.mov 7 (.t 0), .call 8 12 [(.t 7), (.nil 2)], .un 9 .not (.t 8)]) (.cond (.t 9) (.seq (.ops [.call 10 13 [], .asg 2 (.t 10)]) .ret) .skip)) (.seq (.ops [.mov 12 (.t 0), .call 13 16 [(.t 12)], .mov 11 (.t 13), .ext 14 (.t 11) 0, .ext 15 (.t 11) 1, .asg 3 (.t 14), .asg 4 (.t 15)]) (.seq (.ops [.mov 17 (.t 0), .call 18 17 [(.t 17)], .mov 16 (.t 18), .ext 19 (.t 16) 0, .ext 20 (.t 16) 1, .asg 5 (.t 19), .asg 6 (.t 20)]) (.seq (.ops [.mov 21 (.t 3), .mov 22 (.t 5), .call 23 18 [(.t 21), (.t 22)], .mov 24 (.t 23), .grd 24 true (.mov 25 (.t 4)), .grd 24 true (.mov 26 (.t 6)), .grd 24 true (.bin 27 .eql (.t 25) (.t 26)), .pick 28 (.t 24) (.t 27) (.c (.bool false)), .mov 29 (.t 28), .grd 29 true (.call 30 13 []), .pick 31 (.t 29) (.t 30) (.c (.bool false)), .asg 2 (.t 31)]) .ret)))))⟩
def fn5 : VFn := ⟨3, 30, [.tmp 6], (.seq (.ops [.asg 6 (.c (.bool false))]) (.seq (.seq (.ops [.mov 7 (.t 0), .call 8 12 [(.t 7), (.nil 2)], .un 9 .not (.t 8)]) (.cond (.t 9) (.seq (.ops [.call 10 13 [], .asg 6 (.t 10)]) .ret) .skip)) (.seq (.ops [.mov 11 (.t 0), .mov 12 (.t 1), .call 13 19 [(.t 11), (.t 12)], .mov 14 (.t 0), .mov 15 (.t 1), .call 16 20 [(.t 14), (.t 15)], .call 17 18 [(.t 13), (.t 16)], .mov 18 (.t 17), .grd 18 true (.mov 19 (.t 0)), .grd 18 true (.mov 20 (.t 2)), .grd 18 true (.call 21 21 [(.t 19), (.t 20)]), .grd 18 true (.mov 22 (.t 0)), .grd 18 true (.mov 23 (.t 2)), .grd 18 true (.call 24 22 [(.t 22), (.t 23)]), .grd 18 true (.eqb 25 false (.t 21) (.t 24)), .pick 26 (.t 18) (.t 25) (.c (.bool false)), .mov 27 (.t 26), .grd 27 true (.call 28 13 []), .pick 29 (.t 27) (.t 28) (.c (.bool false)), .asg 6 (.t 29)]) .ret)))⟩
def fn6 : VFn := ⟨2, 36, [.tmp 4], (.seq (.ops [.asg 4 (.c (.bool false))]) (.seq (.seq (.ops [.mov 9 (.t 0), .call 10 12 [(.t 9), (.nil 2)], .un 11 .not (.t 10)]) (.cond (.t 11) (.seq (.ops [.call 12 13 [], .asg 4 (.t 12)]) .ret) .skip)) (.seq (.ops [.mov 14 (.t 0), .mov 15 (.t 1), .call 16 23 [(.t 14), (.t 15)], .mov 13 (.t 16), .ext 17 (.t 13) 0, .ext 18 (.t 13) 1, .asg 5 (.t 17), .asg 6 (.t 18)]) (.seq (.ops [.mov 20 (.t 0), .mov 21 (.t 1), .call 22 24 [(.t 20), (.t 21)], .mov 19 (.t 22), .ext 23 (.t 19) 0, .ext 24 (.t 19) 1, .asg 7 (.t 23), .asg 8 (.t 24)]) (.seq (.ops [.mov 25 (.t 5), .mov 26 (.t 7), .call 27 18 [(.t 25), (.t 26)], .mov 28 (.t 27), .grd 28 true (.mov 29 (.t 6)), .grd 28 true (.mov 30 (.t 8)), .grd 28 true (.bin 31 .eql (.t 29) (.t 30)), .pick 32 (.t 28) (.t 31) (.c (.bool false)), .mov 33 (.t 32), .grd 33 true (.call 34 13 []), .pick 35 (.t 33) (.t 34) (.c (.bool false)), .asg 4 (.t 35)]) .ret)))))⟩
def fn7_b0 : VCode := (.seq (.ops [.bin 59 .lss (.t 58) (.t 57)]) (.seq (.cond (.t 59) .skip (.exit 0)) (.seq (.block 1 (.seq (.ops [.iadr 60 2 (.t 56) (.t 58), .load 61 (some 2) (.t 60), .alloc 13 [(.int .i64 0), (.int .i64 0)], .store none 2 (.t 13) (.t 61)]) (.seq (.seq (.ops [.fadr 62 (.t 13) 1, .load 63 none (.t 62), .bin 64 .lss (.t 63) (.c (.int .i64 1)), .mov 65 (.t 64), .grd 65 false (.fadr 66 (.t 13) 1), .grd 65 false (.load 67 none (.t 66)), .grd 65 false (.mov 68 (.t 8)), .grd 65 false (.bin 69 .gtr (.t 67) (.t 68)), .pick 70 (.t 65) (.c (.bool true)) (.t 69), .mov 71 (.t 70), .grd 71 false (.fadr 72 (.t 13) 0), .grd 71 false (.load 73 none (.t 72)), .grd 71 false (.mov 74 (.t 11)), .grd 71 false (.bin 75 .lss (.t 73) (.t 74)), .pick 76 (.t 71) (.c (.bool true)) (.t 75), .mov 77 (.t 76), .grd 77 false (.fadr 78 (.t 13) 0), .grd 77 false (.load 79 none (.t 78)), .grd 77 false (.bin 80 .geq (.t 79) (.c (.int .i64 4096))), .pick 81 (.t 77) (.c (.bool true)) (.t 80)]) (.cond (.t 81) (.seq (.ops [.asg 4 (.c (.bool false))]) .ret) .skip)) (.ops [.fadr 82 (.t 13) 0, .load 83 none (.t 82), .fadr 84 (.t 13) 1, .load 85 none (.t 84), .bin 86 .add (.t 83) (.t 85), .asg 11 (.t 86)])))) (.ops [.bin 87 .add (.t 58) (.c (.int .i64 1)), .mov 58 (.t 87)]))))
def fn7_l1 : VCode :=
(.clean [8, 9, 11, 45, 56, 57, 58] [4] (.block 0 (.loop [8, 9, 11, 45, 56, 57, 58] fn7_b0)))
def fn7 : VFn := ⟨2, 89, [.tmp 4], (.seq (.ops [.asg 4 (.c (.bool false))]) (.seq (.seq (.ops [.mov 14 (.t 0), .call 15 12 [(.t 14), (.nil 2)], .un 16 .not (.t 15)]) (.cond (.t 16) (.seq (.ops [.call 17 13 [], .asg 4 (.t 17)]) .ret) .skip)) (.seq (.ops [.mov 18 (.t 0), .call 19 25 [(.t 18), (.nil 2)], .asg 5 (.t 19)]) (.seq (.ops [.mov 21 (.t 5), .call 22 16 [(.t 21)], .mov 20 (.t 22), .ext 23 (.t 20) 0, .ext 24 (.t 20) 1, .asg 6 (.t 23), .asg 7 (.t 24)]) (.seq (.seq (.ops [.mov 25 (.t 5), .call 26 14 [(.t 25), (.c (.int .i64 4096))], .bin 27 .neq (.t 26) (.c (.int .i64 0)), .mov 28 (.t 27), .grd 28 false (.mov 29 (.t 7)), .grd 28 false (.bin 30 .neq (.t 29) (.c (.int .i64 0))), .pick 31 (.t 28) (.c (.bool true)) (.t 30), .mov 32 (.t 31), .grd 32 false (.mov 33 (.t 5)), .grd 32 false (.mov 34 (.t 6)), .grd 32 false (.call 35 18 [(.t 33), (.t 34)]), .grd 32 false (.un 36 .not (.t 35)), .pick 37 (.t 32) (.c (.bool true)) (.t 36)]) (.cond (.t 37) (.seq (.ops [.asg 4 (.c (.bool false))]) .ret) .skip)) (.seq (.ops [.mov 38 (.t 1), .conv 39 .i64 (.t 38), .bin 40 .add (.t 39) (.c (.int .i64 1)), .asg 8 (.t 40)]) (.seq (.ops [.mov 42 (.t 0), .mov 43 (.t 8), .call 44 23 [(.t 42), (.t 43)], .mov 41 (.t 44), .ext 45 (.t 41) 0, .ext 46 (.t 41) 1, .asg 9 (.t 45), .asg 10 (.t 46)]) (.seq (.seq (.ops [.mov 47 (.t 10), .bin 48 .neq (.t 47) (.c (.int .i64 0)), .mov 49 (.t 48), .grd 49 false (.mov 50 (.t 9)), .grd 49 false (.call 51 25 [(.t 50), (.nil 2)]), .grd 49 false (.mov 52 (.t 5)), .grd 49 false (.call 53 18 [(.t 51), (.t 52)]), .grd 49 false (.un 54 .not (.t 53)), .pick 55 (.t 49) (.c (.bool true)) (.t 54)]) (.cond (.t 55) (.seq (.ops [.asg 4 (.c (.bool false))]) .ret) .skip)) (.seq (.ops [.asg 11 (.c (.int .i64 0))]) (.seq (.seq (.ops [.mov 56 (.t 9), .len 57 (.t 56), .mov 58 (.c (.int .i64 0))])
            fn7_l1) (.seq (.ops [.call 88 13 [], .asg 4 (.t 88)]) .ret)))))))))))⟩
def fn8 : VFn := ⟨2, 45, [.tmp 4], (.seq (.ops [.asg 4 (.c (.bool false))]) (.seq (.seq (.ops [.mov 5 (.t 0), .mov 6 (.t 1), .call 7 12 [(.t 5), (.t 6)], .un 8 .not (.t 7)]) (.cond (.t 8) (.seq (.ops [.call 9 13 [], .asg 4 (.t 9)]) .ret) .skip)) (.seq (.seq (.ops [.mov 10 (.t 0), .mov 11 (.t 1), .call 12 25 [(.t 10), (.t 11)], .mov 13 (.t 0), .mov 14 (.t 1), .call 15 26 [(.t 13), (.t 14)], .call 16 18 [(.t 12), (.t 15)], .un 17 .not (.t 16), .mov 18 (.t 17), .grd 18 false (.mov 19 (.t 0)), .grd 18 false (.mov 20 (.t 1)), .grd 18 false (.call 21 27 [(.t 19), (.t 20)]), .grd 18 false (.mov 22 (.t 0)), .grd 18 false (.mov 23 (.t 1)), .grd 18 false (.call 24 28 [(.t 22), (.t 23)]), .grd 18 false (.call 25 18 [(.t 21), (.t 24)]), .grd 18 false (.un 26 .not (.t 25)), .pick 27 (.t 18) (.c (.bool true)) (.t 26)]) (.cond (.t 27) (.seq (.ops [.asg 4 (.c (.bool false))]) .ret) .skip)) (.seq (.ops [.mov 28 (.t 0), .mov 29 (.t 1), .call 30 29 [(.t 28), (.t 29)], .mov 31 (.t 0), .mov 32 (.t 1), .call 33 30 [(.t 31), (.t 32)], .call 34 18 [(.t 30), (.t 33)], .mov 35 (.t 34), .grd 35 true (.mov 36 (.t 0)), .grd 35 true (.call 37 31 [(.t 36)]), .grd 35 true (.mov 38 (.t 0)), .grd 35 true (.call 39 32 [(.t 38)]), .grd 35 true (.bin 40 .eql (.t 37) (.t 39)), .pick 41 (.t 35) (.t 40) (.c (.bool false)), .mov 42 (.t 41), .grd 42 true (.call 43 13 []), .pick 44 (.t 42) (.t 43) (.c (.bool false)), .asg 4 (.t 44)]) .ret))))⟩
def fn9 : VFn := ⟨3, 73, [.tmp 6], (.seq (.ops [.asg 6 (.c (.bool false))]) (.seq (.seq (.ops [.mov 10 (.t 0), .mov 11 (.t 1), .call 12 12 [(.t 10), (.t 11)], .un 13 .not (.t 12)]) (.cond (.t 13) (.seq (.ops [.call 14 13 [], .asg 6 (.t 14)]) .ret) .skip)) (.seq (.ops [.mov 15 (.t 0), .mov 16 (.t 2), .call 17 21 [(.t 15), (.t 16)], .mov 18 (.t 1), .mov 19 (.t 2), .call 20 21 [(.t 18), (.t 19)], .asg 7 (.t 17), .asg 8 (.t 20)]) (.seq (.seq (.ops [.mov 21 (.t 0), .mov 22 (.t 1), .call 23 25 [(.t 21), (.t 22)], .mov 24 (.t 2), .call 25 21 [(.t 23), (.t 24)], .mov 26 (.t 7), .mov 27 (.t 26), .grd 27 false (.mov 28 (.t 8)), .pick 29 (.t 27) (.c (.bool true)) (.t 28), .eqb 30 true (.t 25) (.t 29), .mov 31 (.t 30), .grd 31 false (.mov 32 (.t 0)), .grd 31 false (.mov 33 (.t 1)), .grd 31 false (.call 34 27 [(.t 32), (.t 33)]), .grd 31 false (.mov 35 (.t 2)), .grd 31 false (.call 36 21 [(.t 34), (.t 35)]), .grd 31 false (.mov 37 (.t 7)), .grd 31 false (.mov 38 (.t 37)), .grd 38 true (.mov 39 (.t 8)), .grd 31 false (.pick 40 (.t 38) (.t 39) (.c (.bool false))), .grd 31 false (.eqb 41 true (.t 36) (.t 40)), .pick 42 (.t 31) (.c (.bool true)) (.t 41)]) (.cond (.t 42) (.seq (.ops [.asg 6 (.c (.bool false))]) .ret) .skip)) (.seq (.seq (.ops [.mov 43 (.t 0), .mov 44 (.t 1), .call 45 29 [(.t 43), (.t 44)], .mov 46 (.t 2), .call 47 21 [(.t 45), (.t 46)], .mov 48 (.t 7), .mov 49 (.t 48), .grd 49 true (.mov 50 (.t 8)), .grd 49 true (.un 51 .not (.t 50)), .pick 52 (.t 49) (.t 51) (.c (.bool false)), .eqb 53 true (.t 47) (.t 52)]) (.cond (.t 53) (.seq (.ops [.asg 6 (.c (.bool false))]) .ret) .skip)) (.seq (.ops [.mov 54 (.t 2), .bin 55 .geq (.t 54) (.c (.int .i64 0)), .mov 56 (.t 55), .grd 56 true (.mov 57 (.t 2)), .grd 56 true (.bin 58 .lss (.t 57) (.c (.int .i64 4096))), .pick 59 (.t 56) (.t 58) (.c (.bool false)), .asg 9 (.t 59)]) (.seq (.ops [.mov 60 (.t 0), .call 61 19 [(.t 60), (.c (.int .i64 4096))], .mov 62 (.t 2), .call 63 21 [(.t 61), (.t 62)], .mov 64 (.t 9), .mov 65 (.t 64), .grd 65 true (.mov 66 (.t 7)), .grd 65 true (.un 67 .not (.t 66)), .pick 68 (.t 65) (.t 67) (.c (.bool false)), .eqb 69 false (.t 63) (.t 68), .mov 70 (.t 69), .grd 70 true (.call 71 13 []), .pick 72 (.t 70) (.t 71) (.c (.bool false)), .asg 6 (.t 72)]) .ret)))))))⟩
def fn10 : VFn := ⟨3, 45, [.tmp 6], (.seq (.ops [.asg 6 (.c (.bool false))]) (.seq (.seq (.ops [.mov 10 (.t 0), .mov 11 (.t 1), .call 12 12 [(.t 10), (.t 11)], .un 13 .not (.t 12)]) (.cond (.t 13) (.seq (.ops [.call 14 13 [], .asg 6 (.t 14)]) .ret) .skip)) (.seq (.ops [.mov 15 (.t 2), .conv 16 .i64 (.t 15), .bin 17 .rem (.t 16) (.c (.int .i64 4097)), .asg 7 (.t 17)]) (.seq (.ops [.mov 18 (.t 0), .mov 19 (.t 1), .call 20 25 [(.t 18), (.t 19)], .mov 21 (.t 7), .call 22 19 [(.t 20), (.t 21)], .asg 8 (.t 22)]) (.seq (.ops [.mov 23 (.t 0), .mov 24 (.t 7), .call 25 19 [(.t 23), (.t 24)], .mov 26 (.t 1), .mov 27 (.t 7), .call 28 19 [(.t 26), (.t 27)], .call 29 27 [(.t 25), (.t 28)], .asg 9 (.t 29)]) (.seq (.seq (.ops [.mov 30 (.t 8), .mov 31 (.t 9), .call 32 18 [(.t 30), (.t 31)], .un 33 .not (.t 32)]) (.cond (.t 33) (.seq (.ops [.asg 6 (.c (.bool false))]) .ret) .skip)) (.seq (.ops [.mov 34 (.t 0), .mov 35 (.t 1), .call 36 29 [(.t 34), (.t 35)], .mov 37 (.t 0), .mov 38 (.t 1), .call 39 19 [(.t 38), (.c (.int .i64 4096))], .call 40 27 [(.t 37), (.t 39)], .call 41 18 [(.t 36), (.t 40)], .mov 42 (.t 41), .grd 42 true (.call 43 13 []), .pick 44 (.t 42) (.t 43) (.c (.bool false)), .asg 6 (.t 44)]) .ret)))))))⟩
def fn11 : VFn := ⟨2, 41, [.tmp 4], (.seq (.ops [.asg 4 (.c (.bool false))]) (.seq (.seq (.ops [.mov 6 (.t 0), .mov 7 (.t 1), .call 8 12 [(.t 6), (.t 7)], .un 9 .not (.t 8)]) (.cond (.t 9) (.seq (.ops [.call 10 13 [], .asg 4 (.t 10)]) .ret) .skip)) (.seq (.ops [.mov 11 (.t 0), .mov 12 (.t 1), .call 13 27 [(.t 11), (.t 12)], .call 14 31 [(.t 13)], .asg 5 (.t 14)]) (.seq (.ops [.mov 15 (.t 0), .mov 16 (.t 1), .call 17 25 [(.t 15), (.t 16)], .call 18 31 [(.t 17)], .mov 19 (.t 5), .bin 20 .add (.t 18) (.t 19), .mov 21 (.t 0), .call 22 31 [(.t 21)], .mov 23 (.t 1), .call 24 31 [(.t 23)], .bin 25 .add (.t 22) (.t 24), .bin 26 .eql (.t 20) (.t 25), .mov 27 (.t 26), .grd 27 true (.mov 28 (.t 0)), .grd 27 true (.mov 29 (.t 1)), .grd 27 true (.call 30 29 [(.t 28), (.t 29)]), .grd 27 true (.call 31 31 [(.t 30)]), .grd 27 true (.mov 32 (.t 5)), .grd 27 true (.bin 33 .add (.t 31) (.t 32)), .grd 27 true (.mov 34 (.t 0)), .grd 27 true (.call 35 31 [(.t 34)]), .grd 27 true (.bin 36 .eql (.t 33) (.t 35)), .pick 37 (.t 27) (.t 36) (.c (.bool false)), .mov 38 (.t 37), .grd 38 true (.call 39 13 []), .pick 40 (.t 38) (.t 39) (.c (.bool false)), .asg 4 (.t 40)]) .ret))))⟩
def fn12 : VFn := ⟨2, 13, [.tmp 4], (.seq (.ops [.asg 4 (.c (.bool false))]) (.seq (.ops [.mov 5 (.t 0), .len 6 (.t 5), .bin 7 .leq (.t 6) (.c (.int .i64 20)), .mov 8 (.t 7), .grd 8 true (.mov 9 (.t 1)), .grd 8 true (.len 10 (.t 9)), .grd 8 true (.bin 11 .leq (.t 10) (.c (.int .i64 20))), .pick 12 (.t 8) (.t 11) (.c (.bool false)), .asg 4 (.t 12)]) .ret))⟩
def fn13 : VFn := ⟨0, 122, [.tmp 0], (.seq (.ops [.asg 0 (.c (.bool false))]) (.seq (.ops [.call 9 33 [(.c (.int .i64 5)), (.c (.int .i64 3))], .call 10 33 [(.c (.int .i64 0)), (.c (.int .i64 2))], .call 11 33 [(.c (.int .i64 7)), (.c (.int .i64 4))], .mksl 12 2 [(.t 9), (.t 10), (.t 11)], .call 13 16 [(.t 12)], .mov 8 (.t 13), .ext 14 (.t 8) 0, .ext 15 (.t 8) 1, .asg 1 (.t 14), .asg 2 (.t 15)]) (.seq (.ops [.call 17 33 [(.c (.int .i64 0)), (.c (.int .i64 5))], .call 18 33 [(.c (.int .i64 10)), (.c (.int .i64 2))], .mksl 19 2 [(.t 17), (.t 18)], .call 20 23 [(.t 19), (.c (.int .i64 2))], .mov 16 (.t 20), .ext 21 (.t 16) 0, .ext 22 (.t 16) 1, .asg 3 (.t 21), .asg 4 (.t 22)]) (.seq (.ops [.call 24 33 [(.c (.int .i64 (-3))), (.c (.int .i64 5))], .mksl 25 2 [(.t 24)], .call 26 16 [(.t 25)], .mov 23 (.t 26), .ext 27 (.t 23) 0, .ext 28 (.t 23) 1, .asg 5 (.t 27), .asg 6 (.t 28)]) (.seq (.ops [.mov 29 (.t 1), .call 30 33 [(.c (.int .i64 0)), (.c (.int .i64 2))], .call 31 33 [(.c (.int .i64 5)), (.c (.int .i64 6))], .mksl 32 2 [(.t 30), (.t 31)], .call 33 18 [(.t 29), (.t 32)], .mov 34 (.t 33), .grd 34 true (.mov 35 (.t 2)), .grd 34 true (.bin 36 .eql (.t 35) (.c (.int .i64 0))), .pick 37 (.t 34) (.t 36) (.c (.bool false)), .mov 38 (.t 37), .grd 38 true (.mov 39 (.t 3)), .grd 38 true (.call 40 33 [(.c (.int .i64 0)), (.c (.int .i64 2))]), .grd 38 true (.call 41 33 [(.c (.int .i64 2)), (.c (.int .i64 2))]), .grd 38 true (.call 42 33 [(.c (.int .i64 4)), (.c (.int .i64 1))]), .grd 38 true (.call 43 33 [(.c (.int .i64 10)), (.c (.int .i64 2))]), .grd 38 true (.mksl 44 2 [(.t 40), (.t 41), (.t 42), (.t 43)]), .grd 38 true (.call 45 18 [(.t 39), (.t 44)]), .pick 46 (.t 38) (.t 45) (.c (.bool false)), .mov 47 (.t 46), .grd 47 true (.mov 48 (.t 4)), .grd 47 true (.bin 49 .eql (.t 48) (.c (.int .i64 0))), .pick 50 (.t 47) (.t 49) (.c (.bool false)), .mov 51 (.t 50), .grd 51 true (.mov 52 (.t 6)), .grd 51 true (.bin 53 .eql (.t 52) (.c (.int .i64 2))), .pick 54 (.t 51) (.t 53) (.c (.bool false)), .asg 7 (.t 54)]) (.seq (.ops [.mov 55 (.t 7), .mov 56 (.t 55), .grd 56 true (.mov 57 (.t 1)), .grd 56 true (.call 58 14 [(.t 57), (.c (.int .i64 11))]), .grd 56 true (.bin 59 .eql (.t 58) (.c (.int .i64 0))), .pick 60 (.t 56) (.t 59) (.c (.bool false)), .mov 61 (.t 60), .grd 61 true (.mov 62 (.t 1)), .grd 61 true (.call 63 14 [(.t 62), (.c (.int .i64 10))]), .grd 61 true (.bin 64 .eql (.t 63) (.c (.int .i64 2))), .pick 65 (.t 61) (.t 64) (.c (.bool false)), .mov 66 (.t 65), .grd 66 true (.call 67 33 [(.c (.int .i64 0)), (.c (.int .i64 2))]), .grd 66 true (.call 68 33 [(.c (.int .i64 2)), (.c (.int .i64 1))]), .grd 66 true (.mksl 69 2 [(.t 67), (.t 68)]), .grd 66 true (.call 70 14 [(.t 69), (.c (.int .i64 5))]), .grd 66 true (.bin 71 .eql (.t 70) (.c (.int .i64 3))), .pick 72 (.t 66) (.t 71) (.c (.bool false)), .asg 7 (.t 72)]) (.seq (.ops [.mov 73 (.t 7), .mov 74 (.t 73), .grd 74 true (.call 75 33 [(.c (.int .i64 0)), (.c (.int .i64 2))]), .grd 74 true (.mksl 76 2 [(.t 75)]), .grd 74 true (.call 77 33 [(.c (.int .i64 2)), (.c (.int .i64 1))]), .grd 74 true (.mksl 78 2 [(.t 77)]), .grd 74 true (.call 79 25 [(.t 76), (.t 78)]), .grd 74 true (.call 80 33 [(.c (.int .i64 0)), (.c (.int .i64 3))]), .grd 74 true (.mksl 81 2 [(.t 80)]), .grd 74 true (.call 82 18 [(.t 79), (.t 81)]), .pick 83 (.t 74) (.t 82) (.c (.bool false)), .asg 7 (.t 83)]) (.seq (.ops [.mov 84 (.t 7), .mov 85 (.t 84), .grd 85 true (.call 86 33 [(.c (.int .i64 0)), (.c (.int .i64 10))]), .grd 85 true (.mksl 87 2 [(.t 86)]), .grd 85 true (.call 88 33 [(.c (.int .i64 3)), (.c (.int .i64 2))]), .grd 85 true (.mksl 89 2 [(.t 88)]), .grd 85 true (.call 90 29 [(.t 87), (.t 89)]), .grd 85 true (.call 91 33 [(.c (.int .i64 0)), (.c (.int .i64 3))]), .grd 85 true (.call 92 33 [(.c (.int .i64 5)), (.c (.int .i64 5))]), .grd 85 true (.mksl 93 2 [(.t 91), (.t 92)]), .grd 85 true (.call 94 18 [(.t 90), (.t 93)]), .pick 95 (.t 85) (.t 94) (.c (.bool false)), .asg 7 (.t 95)]) (.seq (.ops [.mov 96 (.t 7), .mov 97 (.t 96), .grd 97 true (.call 98 33 [(.c (.int .i64 3)), (.c (.int .i64 2))]), .grd 97 true (.mksl 99 2 [(.t 98)]), .grd 97 true (.call 100 19 [(.t 99), (.c (.int .i64 8))]), .grd 97 true (.call 101 33 [(.c (.int .i64 0)), (.c (.int .i64 3))]), .grd 97 true (.call 102 33 [(.c (.int .i64 5)), (.c (.int .i64 3))]), .grd 97 true (.mksl 103 2 [(.t 101), (.t 102)]), .grd 97 true (.call 104 18 [(.t 100), (.t 103)]), .pick 105 (.t 97) (.t 104) (.c (.bool false)), .asg 7 (.t 105)]) (.seq (.ops [.mov 106 (.t 7), .mov 107 (.t 106), .grd 107 true (.call 108 33 [(.c (.int .i64 (-3))), (.c (.int .i64 5))]), .grd 107 true (.mksl 109 2 [(.t 108)]), .grd 107 true (.call 110 31 [(.t 109)]), .grd 107 true (.bin 111 .eql (.t 110) (.c (.int .i64 2))), .pick 112 (.t 107) (.t 111) (.c (.bool false)), .mov 113 (.t 112), .grd 113 true (.mov 114 (.t 1)), .grd 113 true (.call 115 21 [(.t 114), (.c (.int .i64 10))]), .pick 116 (.t 113) (.t 115) (.c (.bool false)), .mov 117 (.t 116), .grd 117 true (.mov 118 (.t 1)), .grd 117 true (.call 119 21 [(.t 118), (.c (.int .i64 11))]), .grd 117 true (.un 120 .not (.t 119)), .pick 121 (.t 117) (.t 120) (.c (.bool false)), .asg 0 (.t 121)]) .ret))))))))))⟩
def fn14_b0 : VCode := (.seq (.ops [.bin 17 .lss (.t 16) (.t 15)]) (.seq (.cond (.t 17) .skip (.exit 0)) (.seq (.block 1 (.seq (.ops [.iadr 18 2 (.t 14) (.t 16), .load 19 (some 2) (.t 18), .alloc 7 [(.int .i64 0), (.int .i64 0)], .store none 2 (.t 7) (.t 19)]) (.seq (.block 2 (.seq (.ops [.fadr 21 (.t 7) 1, .load 22 none (.t 21), .bin 23 .leq (.t 22) (.c (.int .i64 0)), .asg 20 (.t 23)]) (.cond (.t 20) (.seq (.ops [.asg 4 (.c (.int .i64 1))]) .ret) (.seq (.ops [.fadr 25 (.t 7) 0, .load 26 none (.t 25), .bin 27 .lss (.t 26) (.c (.int .i64 0)), .mov 28 (.t 27), .grd 28 false (.fadr 29 (.t 7) 1), .grd 28 false (.load 30 none (.t 29)), .grd 28 false (.mov 31 (.t 1)), .grd 28 false (.fadr 32 (.t 7) 0), .grd 28 false (.load 33 none (.t 32)), .grd 28 false (.bin 34 .sub (.t 31) (.t 33)), .grd 28 false (.bin 35 .gtr (.t 30) (.t 34)), .pick 36 (.t 28) (.c (.bool true)) (.t 35), .asg 24 (.t 36)]) (.cond (.t 24) (.seq (.ops [.asg 4 (.c (.int .i64 2))]) .ret) (.seq (.ops [.fadr 38 (.t 7) 0, .load 39 none (.t 38), .mov 40 (.t 5), .bin 41 .lss (.t 39) (.t 40), .asg 37 (.t 41)]) (.cond (.t 37) (.seq (.ops [.asg 4 (.c (.int .i64 3))]) .ret) .skip))))))) (.ops [.fadr 42 (.t 7) 0, .load 43 none (.t 42), .fadr 44 (.t 7) 1, .load 45 none (.t 44), .bin 46 .add (.t 43) (.t 45), .bin 47 .add (.t 46) (.c (.int .i64 1)), .asg 5 (.t 47)])))) (.ops [.bin 48 .add (.t 16) (.c (.int .i64 1)), .mov 16 (.t 48)]))))
def fn14_l1 : VCode :=
(.clean [0, 1, 5, 14, 15, 16] [4] (.block 0 (.loop [0, 1, 5, 14, 15, 16] fn14_b0)))
def fn14 : VFn := ⟨2, 49, [.tmp 4], (.seq (.ops [.asg 4 (.c (.int .i64 0))]) (.seq (.seq (.ops [.mov 8 (.t 1), .bin 9 .lss (.t 8) (.c (.int .i64 0)), .mov 10 (.t 9), .grd 10 false (.mov 11 (.t 1)), .grd 10 false (.bin 12 .gtr (.t 11) (.c (.int .i64 4096))), .pick 13 (.t 10) (.c (.bool true)) (.t 12)]) (.cond (.t 13) (.seq (.ops [.asg 4 (.c (.int .i64 2))]) .ret) .skip)) (.seq (.ops [.asg 5 (.c (.int .i64 0))]) (.seq (.seq (.ops [.mov 14 (.t 0), .len 15 (.t 14), .mov 16 (.c (.int .i64 0))])
      fn14_l1) (.seq (.ops [.asg 4 (.c (.int .i64 0))]) .ret)))))⟩
def fn15_b0 : VCode := (.seq (.seq (.ops [.mov 13 (.t 6), .mov 14 (.t 0), .len 15 (.t 14), .bin 16 .lss (.t 13) (.t 15)]) (.cond (.t 16) .skip (.exit 0))) (.seq (.block 1 (.seq (.seq (.ops [.mov 19 (.t 0), .mov 20 (.t 6), .iadr 21 2 (.t 19) (.t 20), .fadr 22 (.t 21) 1, .load 23 none (.t 22), .bin 24 .leq (.t 23) (.c (.int .i64 0))]) (.cond (.t 24) (.seq (.ops [.asg 4 (.c (.int .i64 1))]) .ret) .skip)) (.seq (.seq (.ops [.mov 25 (.t 0), .mov 26 (.t 6), .iadr 27 2 (.t 25) (.t 26), .load 28 (some 2) (.t 27), .mov 29 (.t 1), .call 30 34 [(.t 28), (.t 29)], .un 31 .not (.t 30)]) (.cond (.t 31) (.seq (.ops [.asg 4 (.c (.int .i64 2))]) .ret) .skip)) (.seq (.seq (.ops [.mov 32 (.t 0), .mov 33 (.t 6), .iadr 34 2 (.t 32) (.t 33), .fadr 35 (.t 34) 0, .load 36 none (.t 35), .mov 37 (.t 5), .bin 38 .add (.t 37) (.c (.int .i64 2)), .bin 39 .lss (.t 36) (.t 38)]) (.cond (.t 39) (.seq (.ops [.asg 4 (.c (.int .i64 3))]) .ret) .skip)) (.drw [] [] none [0, 1, 2, 3, 4, 5, 6, 7, 8, 9, 10, 11, 12] [.mov 40 (.t 0), .mov 41 (.t 6), .iadr 42 2 (.t 40) (.t 41), .fadr 43 (.t 42) 0, .load 44 none (.t 43), .mov 45 (.t 0), .mov 46 (.t 6), .iadr 47 2 (.t 45) (.t 46), .fadr 48 (.t 47) 1, .load 49 none (.t 48), .bin 50 .add (.t 44) (.t 49), .bin 51 .sub (.t 50) (.c (.int .i64 1)), .asg 5 (.t 51)]))))) (.ops [.mov 17 (.t 6), .bin 18 .add (.t 17) (.c (.int .i64 1)), .asg 6 (.t 18)])))
def fn15_l1 : VCode :=
(.clean [0, 1, 5, 6] [4] (.block 0 (.loop [0, 1, 5, 6] fn15_b0)))
def fn15 : VFn := ⟨2, 52, [.tmp 4], (.seq (.ops [.asg 4 (.c (.int .i64 0))]) (.seq (.seq (.ops [.mov 7 (.t 1), .bin 8 .lss (.t 7) (.c (.int .i64 0)), .mov 9 (.t 8), .grd 9 false (.mov 10 (.t 1)), .grd 9 false (.bin 11 .gtr (.t 10) (.c (.int .i64 4096))), .pick 12 (.t 9) (.c (.bool true)) (.t 11)]) (.cond (.t 12) (.seq (.ops [.asg 4 (.c (.int .i64 2))]) .ret) .skip)) (.seq (.ops [.asg 5 (.c (.int .i64 (-2)))]) (.seq (.seq (.ops [.asg 6 (.c (.int .i64 0))])
      fn15_l1) (.seq (.ops [.asg 4 (.c (.int .i64 0))]) .ret)))))⟩
def fn16_b0 : VCode := (.seq (.ops [.bin 9 .lss (.t 8) (.t 7)]) (.seq (.cond (.t 9) .skip (.exit 0)) (.seq (.block 1 (.seq (.ops [.iadr 10 2 (.t 6) (.t 8), .load 11 (some 2) (.t 10), .alloc 5 [(.int .i64 0), (.int .i64 0)], .store none 2 (.t 5) (.t 11)]) (.seq (.seq (.ops [.fadr 12 (.t 5) 1, .load 13 none (.t 12), .bin 14 .lss (.t 13) (.c (.int .i64 0))]) (.cond (.t 14) (.seq (.ops [.asg 2 (.nil 2), .asg 3 (.c (.int .i64 1))]) .ret) .skip)) (.seq (.ops [.fadr 15 (.t 5) 1, .load 16 none (.t 15), .bin 17 .gtr (.t 16) (.c (.int .i64 0)), .mov 18 (.t 17), .grd 18 true (.fadr 19 (.t 5) 0), .grd 18 true (.load 20 none (.t 19)), .grd 18 true (.bin 21 .lss (.t 20) (.c (.int .i64 0))), .grd 18 true (.mov 22 (.t 21)), .grd 22 false (.fadr 23 (.t 5) 1), .grd 22 false (.load 24 none (.t 23)), .grd 22 false (.fadr 25 (.t 5) 0), .grd 22 false (.load 26 none (.t 25)), .grd 22 false (.bin 27 .sub (.c (.int .i64 4096)) (.t 26)), .grd 22 false (.bin 28 .gtr (.t 24) (.t 27)), .grd 18 true (.pick 29 (.t 22) (.c (.bool true)) (.t 28)), .pick 30 (.t 18) (.t 29) (.c (.bool false))]) (.cond (.t 30) (.seq (.ops [.asg 2 (.nil 2), .asg 3 (.c (.int .i64 2))]) .ret) .skip))))) (.ops [.bin 31 .add (.t 8) (.c (.int .i64 1)), .mov 8 (.t 31)]))))
def fn16_l1 : VCode :=
(.clean [0, 6, 7, 8] [0, 2, 3] (.block 0 (.loop [0, 6, 7, 8] fn16_b0)))
def fn16 : VFn := ⟨1, 34, [.tmp 2, .tmp 3], (.seq (.ops [.asg 2 (.nil 2), .asg 3 (.c (.int .i64 0))]) (.seq (.seq (.ops [.mov 6 (.t 0), .len 7 (.t 6), .mov 8 (.c (.int .i64 0))])
    fn16_l1) (.seq (.ops [.mov 32 (.t 0), .call 33 25 [(.t 32), (.nil 2)], .asg 2 (.t 33), .asg 3 (.c (.int .i64 0))]) .ret)))⟩
def fn17_b0 : VCode := (.seq (.seq (.ops [.mov 5 (.t 4), .mov 6 (.t 0), .len 7 (.t 6), .bin 8 .lss (.t 5) (.t 7)]) (.cond (.t 8) .skip (.exit 0))) (.seq (.block 1 (.seq (.seq (.ops [.mov 11 (.t 0), .mov 12 (.t 4), .iadr 13 2 (.t 11) (.t 12), .fadr 14 (.t 13) 1, .load 15 none (.t 14), .bin 16 .lss (.t 15) (.c (.int .i64 0))]) (.cond (.t 16) (.seq (.ops [.asg 2 (.nil 2), .asg 3 (.c (.int .i64 1))]) .ret) .skip)) (.seq (.ops [.mov 17 (.t 0), .mov 18 (.t 4), .iadr 19 2 (.t 17) (.t 18), .fadr 20 (.t 19) 1, .load 21 none (.t 20), .bin 22 .gtr (.t 21) (.c (.int .i64 0)), .mov 23 (.t 22), .grd 23 true (.mov 24 (.t 0)), .grd 23 true (.mov 25 (.t 4)), .grd 23 true (.iadr 26 2 (.t 24) (.t 25)), .grd 23 true (.load 27 (some 2) (.t 26)), .grd 23 true (.call 28 34 [(.t 27), (.c (.int .i64 4096))]), .grd 23 true (.un 29 .not (.t 28)), .pick 30 (.t 23) (.t 29) (.c (.bool false))]) (.cond (.t 30) (.seq (.ops [.asg 2 (.nil 2), .asg 3 (.c (.int .i64 2))]) .ret) .skip)))) (.ops [.mov 9 (.t 4), .bin 10 .add (.t 9) (.c (.int .i64 1)), .asg 4 (.t 10)])))
def fn17_l1 : VCode :=
(.clean [0, 4] [0, 2, 3] (.block 0 (.loop [0, 4] fn17_b0)))
def fn17 : VFn := ⟨1, 34, [.tmp 2, .tmp 3], (.seq (.ops [.asg 2 (.nil 2), .asg 3 (.c (.int .i64 0))]) (.seq (.seq (.ops [.asg 4 (.c (.int .i64 0))])
    fn17_l1) (.seq (.ops [.mov 31 (.t 0), .call 32 36 [(.t 31)], .call 33 35 [(.t 32)], .asg 2 (.t 33), .asg 3 (.c (.int .i64 0))]) .ret)))⟩
def fn18_b0 : VCode := (.seq (.seq (.ops [.mov 11 (.t 5), .mov 12 (.t 0), .len 13 (.t 12), .bin 14 .lss (.t 11) (.t 13)]) (.cond (.t 14) .skip (.exit 0))) (.seq (.block 1 (.seq (.drw [] [] none [0, 1, 2, 3, 4, 5, 6, 7, 8] [.mov 17 (.t 0), .mov 18 (.t 5), .iadr 19 2 (.t 17) (.t 18), .load 20 (some 2) (.t 19), .mov 21 (.t 1), .mov 22 (.t 5), .iadr 23 2 (.t 21) (.t 22), .load 24 (some 2) (.t 23), .eqa 25 true 2 (.t 20) (.t 24)]) (.cond (.t 25) (.seq (.ops [.asg 4 (.c (.bool false))]) .ret) .skip))) (.ops [.mov 15 (.t 5), .bin 16 .add (.t 15) (.c (.int .i64 1)), .asg 5 (.t 16)])))
def fn18_l1 : VCode :=
(.clean [0, 1, 5] [4] (.block 0 (.loop [0, 1, 5] fn18_b0)))
def fn18 : VFn := ⟨2, 26, [.tmp 4], (.seq (.ops [.asg 4 (.c (.bool false))]) (.seq (.seq (.ops [.mov 6 (.t 0), .len 7 (.t 6), .mov 8 (.t 1), .len 9 (.t 8), .bin 10 .neq (.t 7) (.t 9)]) (.cond (.t 10) (.seq (.ops [.asg 4 (.c (.bool false))]) .ret) .skip)) (.seq (.seq (.ops [.asg 5 (.c (.int .i64 0))])
     fn18_l1) (.seq (.ops [.asg 4 (.c (.bool true))]) .ret))))⟩
def fn19 : VFn := ⟨2, 12, [.tmp 4], (.seq (.ops [.asg 4 (.nil 2)]) (.seq (.ops [.mov 5 (.t 1), .mn 6 true (.t 5) (.c (.int .i64 0)), .mn 7 false (.t 6) (.c (.int .i64 4096)), .build 8 [(.int .i64 0), (.int .i64 0)] [(0, 1, (.c (.int .i64 0))), (1, 1, (.t 7))], .mksl 9 2 [(.t 8)], .mov 10 (.t 0), .call 11 29 [(.t 9), (.t 10)], .asg 4 (.t 11)]) .ret))⟩
def fn20_b0 : VCode := (.seq (.seq (.ops [.mov 13 (.t 6), .mov 14 (.t 5), .len 15 (.t 14), .bin 16 .lss (.t 13) (.t 15)]) (.cond (.t 16) .skip (.exit 0))) (.seq (.block 1 (.ops [.mov 19 (.t 5), .mov 20 (.t 6), .mov 21 (.t 5), .mov 22 (.t 6), .iadr 23 1 (.t 21) (.t 22), .load 24 none (.t 23), .un 25 .not (.t 24), .iadr 26 1 (.t 19) (.t 20), .store none 1 (.t 26) (.t 25)])) (.ops [.mov 17 (.t 6), .bin 18 .add (.t 17) (.c (.int .i64 1)), .asg 6 (.t 18)])))
def fn20_l1 : VCode :=
(.clean [5, 6, 8, 12] [4, 5, 8] (.block 0 (.loop [5, 6, 8, 12] fn20_b0)))
def fn20 : VFn := ⟨2, 29, [.tmp 4], (.seq (.ops [.asg 4 (.nil 2)]) (.seq (.ops [.mov 7 (.t 0), .call 8 36 [(.t 7)], .mov 9 (.t 1), .mn 10 false (.t 9) (.c (.int .i64 4096)), .mn 11 true (.c (.int .i64 0)) (.t 10), .sli 12 1 (.t 8) none (some (.t 11)), .asg 5 (.t 12)]) (.seq (.seq (.ops [.asg 6 (.c (.int .i64 0))])
     fn20_l1) (.seq (.ops [.mov 27 (.t 5), .call 28 35 [(.t 27)], .asg 4 (.t 28)]) .ret))))⟩
def fn21 : VFn := ⟨2, 8, [.tmp 4], (.seq (.ops [.box 3 (.t 1), .asg 4 (.c (.bool false))]) (.seq (.ops [.mov 5 (.t 0), .mkf 6 38 [(.t 3)], .call 7 37 [(.t 5), (.t 6)], .asg 4 (.t 7)]) .ret))⟩
def fn22 : VFn := ⟨2, 18, [.tmp 4], (.seq (.ops [.asg 4 (.c (.bool false))]) (.seq (.ops [.mov 5 (.t 1), .bin 6 .geq (.t 5) (.c (.int .i64 0)), .mov 7 (.t 6), .grd 7 true (.mov 8 (.t 1)), .grd 7 true (.bin 9 .lss (.t 8) (.c (.int .i64 4096))), .pick 10 (.t 7) (.t 9) (.c (.bool false)), .mov 11 (.t 10), .grd 11 true (.mov 12 (.t 0)), .grd 11 true (.call 13 36 [(.t 12)]), .grd 11 true (.mov 14 (.t 1)), .grd 11 true (.iadr 15 1 (.t 13) (.t 14)), .grd 11 true (.load 16 none (.t 15)), .pick 17 (.t 11) (.t 16) (.c (.bool false)), .asg 4 (.t 17)]) .ret))⟩
def fn23_b0 : VCode := (.seq (.seq (.ops [.fadr 18 (.t 8) 1, .load 19 none (.t 18), .mov 20 (.t 1), .bin 21 .gtr (.t 19) (.t 20)]) (.cond (.t 21) .skip (.exit 2))) (.block 3 (.seq (.ops [.mov 22 (.t 6), .fadr 23 (.t 8) 0, .load 24 none (.t 23), .mov 25 (.t 1), .build 26 [(.int .i64 0), (.int .i64 0)] [(0, 1, (.t 24)), (1, 1, (.t 25))], .mksl 27 2 [(.t 26)], .app 28 2 (.t 22) (.t 27), .asg 6 (.t 28)]) (.ops [.fadr 29 (.t 8) 0, .load 30 none (.t 29), .mov 31 (.t 1), .bin 32 .add (.t 30) (.t 31), .fadr 33 (.t 8) 1, .load 34 none (.t 33), .mov 35 (.t 1), .bin 36 .sub (.t 34) (.t 35), .fadr 37 (.t 8) 0, .store none 1 (.t 37) (.t 32), .fadr 38 (.t 8) 1, .store none 1 (.t 38) (.t 36)]))))
def fn23_l1 : VCode :=
(.clean [1, 6, 8, 12, 13, 14, 28, 42] [1, 4, 5, 6, 8, 12, 13, 14, 28, 42] (.block 2 (.loop [1, 6, 8, 12, 13, 14, 28, 42] fn23_b0)))
def fn23_b2 : VCode := (.seq (.ops [.bin 15 .lss (.t 14) (.t 13)]) (.seq (.cond (.t 15) .skip (.exit 0)) (.seq (.block 1 (.seq (.ops [.iadr 16 2 (.t 12) (.t 14), .load 17 (some 2) (.t 16), .alloc 8 [(.int .i64 0), (.int .i64 0)], .store none 2 (.t 8) (.t 17)]) (.seq
       fn23_l1 (.ops [.mov 39 (.t 6), .load 40 (some 2) (.t 8), .mksl 41 2 [(.t 40)], .app 42 2 (.t 39) (.t 41), .asg 6 (.t 42)])))) (.ops [.bin 43 .add (.t 14) (.c (.int .i64 1)), .mov 14 (.t 43)]))))
def fn23_l3 : VCode :=
(.clean [1, 6, 12, 13, 14, 28, 42] [4, 5, 6] (.block 0 (.loop [1, 6, 12, 13, 14, 28, 42] fn23_b2)))
def fn23 : VFn := ⟨2, 45, [.tmp 4, .tmp 5], (.seq (.ops [.asg 4 (.nil 2), .asg 5 (.c (.int .i64 0))]) (.seq (.seq (.ops [.mov 9 (.t 1), .bin 10 .leq (.t 9) (.c (.int .i64 0))]) (.cond (.t 10) (.seq (.ops [.asg 4 (.nil 2), .asg 5 (.c (.int .i64 1))]) .ret) .skip)) (.seq (.ops [.asg 6 (.nil 2)]) (.seq (.seq (.ops [.mov 11 (.t 0), .call 12 25 [(.t 11), (.nil 2)], .len 13 (.t 12), .mov 14 (.c (.int .i64 0))])
      fn23_l3) (.seq (.ops [.mov 44 (.t 6), .asg 4 (.t 44), .asg 5 (.c (.int .i64 0))]) .ret)))))⟩
def fn24_b0 : VCode := (.seq (.seq (.ops [.fadr 26 (.t 9) 1, .load 27 none (.t 26), .bin 28 .gtr (.t 27) (.c (.int .i64 0))]) (.cond (.t 28) .skip (.exit 2))) (.block 3 (.seq (.ops [.fadr 29 (.t 9) 1, .load 30 none (.t 29), .mov 31 (.t 1), .mn 32 false (.t 30) (.t 31), .asg 10 (.t 32)]) (.seq (.ops [.mov 33 (.t 6), .fadr 34 (.t 9) 0, .load 35 none (.t 34), .mov 36 (.t 10), .build 37 [(.int .i64 0), (.int .i64 0)] [(0, 1, (.t 35)), (1, 1, (.t 36))], .mksl 38 2 [(.t 37)], .app 39 2 (.t 33) (.t 38), .asg 6 (.t 39)]) (.ops [.fadr 40 (.t 9) 0, .load 41 none (.t 40), .mov 42 (.t 10), .bin 43 .add (.t 41) (.t 42), .fadr 44 (.t 9) 1, .load 45 none (.t 44), .mov 46 (.t 10), .bin 47 .sub (.t 45) (.t 46), .build 48 [(.int .i64 0), (.int .i64 0)] [(0, 1, (.t 43)), (1, 1, (.t 47))], .store none 2 (.t 9) (.t 48)])))))
def fn24_l1 : VCode :=
(.clean [1, 6, 7, 8, 9, 15, 39] [1, 4, 5, 6, 7, 8, 15, 39] (.block 2 (.loop [1, 6, 7, 8, 9, 15, 39] fn24_b0)))
def fn24_b2 : VCode := (.seq (.seq (.ops [.mov 16 (.t 8), .mov 17 (.t 7), .len 18 (.t 17), .bin 19 .lss (.t 16) (.t 18)]) (.cond (.t 19) .skip (.exit 0))) (.seq (.block 1 (.seq (.ops [.mov 22 (.t 7), .mov 23 (.t 8), .iadr 24 2 (.t 22) (.t 23), .load 25 (some 2) (.t 24), .alloc 9 [(.int .i64 0), (.int .i64 0)], .store none 2 (.t 9) (.t 25)])
     fn24_l1)) (.ops [.mov 20 (.t 8), .bin 21 .add (.t 20) (.c (.int .i64 1)), .asg 8 (.t 21)])))
def fn24_l3 : VCode :=
(.clean [1, 6, 7, 8, 15, 39] [4, 5, 6] (.block 0 (.loop [1, 6, 7, 8, 15, 39] fn24_b2)))
def fn24 : VFn := ⟨2, 50, [.tmp 4, .tmp 5], (.seq (.ops [.asg 4 (.nil 2), .asg 5 (.c (.int .i64 0))]) (.seq (.seq (.ops [.mov 11 (.t 1), .bin 12 .lss (.t 11) (.c (.int .i64 1))]) (.cond (.t 12) (.seq (.ops [.asg 4 (.nil 2), .asg 5 (.c (.int .i64 1))]) .ret) .skip)) (.seq (.ops [.asg 6 (.nil 2)]) (.seq (.ops [.mov 13 (.t 0), .call 14 36 [(.t 13)], .call 15 35 [(.t 14)], .asg 7 (.t 15)]) (.seq (.seq (.ops [.asg 8 (.c (.int .i64 0))])
       fn24_l3) (.seq (.ops [.mov 49 (.t 6), .asg 4 (.t 49), .asg 5 (.c (.int .i64 0))]) .ret))))))⟩
def fn25 : VFn := ⟨2, 9, [.tmp 4], (.seq (.ops [.asg 4 (.nil 2)]) (.seq (.ops [.mov 5 (.t 0), .mov 6 (.t 1), .call 7 41 [(.t 5), (.t 6), (.c (.func 42 []))], .call 8 40 [(.t 7)], .asg 4 (.t 8)]) .ret))⟩
def fn26_b0 : VCode := (.seq (.seq (.ops [.mov 12 (.t 7), .mov 13 (.t 5), .len 14 (.t 13), .bin 15 .lss (.t 12) (.t 14)]) (.cond (.t 15) .skip (.exit 0))) (.seq (.block 1 (.ops [.mov 18 (.t 5), .mov 19 (.t 7), .mov 20 (.t 5), .mov 21 (.t 7), .iadr 22 1 (.t 20) (.t 21), .load 23 none (.t 22), .mov 24 (.t 23), .grd 24 false (.mov 25 (.t 6)), .grd 24 false (.mov 26 (.t 7)), .grd 24 false (.iadr 27 1 (.t 25) (.t 26)), .grd 24 false (.load 28 none (.t 27)), .pick 29 (.t 24) (.c (.bool true)) (.t 28), .iadr 30 1 (.t 18) (.t 19), .store none 1 (.t 30) (.t 29)])) (.ops [.mov 16 (.t 7), .bin 17 .add (.t 16) (.c (.int .i64 1)), .asg 7 (.t 17)])))
def fn26_l1 : VCode :=
(.clean [5, 6, 7, 9, 11] [4, 5] (.block 0 (.loop [5, 6, 7, 9, 11] fn26_b0)))
def fn26 : VFn := ⟨2, 33, [.tmp 4], (.seq (.ops [.asg 4 (.nil 2)]) (.seq (.ops [.mov 8 (.t 0), .call 9 36 [(.t 8)], .mov 10 (.t 1), .call 11 36 [(.t 10)], .asg 5 (.t 9), .asg 6 (.t 11)]) (.seq (.seq (.ops [.asg 7 (.c (.int .i64 0))])
     fn26_l1) (.seq (.ops [.mov 31 (.t 5), .call 32 35 [(.t 31)], .asg 4 (.t 32)]) .ret))))⟩
def fn27 : VFn := ⟨2, 9, [.tmp 4], (.seq (.ops [.asg 4 (.nil 2)]) (.seq (.ops [.mov 5 (.t 0), .mov 6 (.t 1), .call 7 41 [(.t 5), (.t 6), (.c (.func 43 []))], .call 8 40 [(.t 7)], .asg 4 (.t 8)]) .ret))⟩
def fn28_b0 : VCode := (.seq (.seq (.ops [.mov 12 (.t 7), .mov 13 (.t 5), .len 14 (.t 13), .bin 15 .lss (.t 12) (.t 14)]) (.cond (.t 15) .skip (.exit 0))) (.seq (.block 1 (.ops [.mov 18 (.t 5), .mov 19 (.t 7), .mov 20 (.t 5), .mov 21 (.t 7), .iadr 22 1 (.t 20) (.t 21), .load 23 none (.t 22), .mov 24 (.t 23), .grd 24 true (.mov 25 (.t 6)), .grd 24 true (.mov 26 (.t 7)), .grd 24 true (.iadr 27 1 (.t 25) (.t 26)), .grd 24 true (.load 28 none (.t 27)), .pick 29 (.t 24) (.t 28) (.c (.bool false)), .iadr 30 1 (.t 18) (.t 19), .store none 1 (.t 30) (.t 29)])) (.ops [.mov 16 (.t 7), .bin 17 .add (.t 16) (.c (.int .i64 1)), .asg 7 (.t 17)])))
def fn28_l1 : VCode :=
(.clean [5, 6, 7, 9, 11] [4, 5] (.block 0 (.loop [5, 6, 7, 9, 11] fn28_b0)))
def fn28 : VFn := ⟨2, 33, [.tmp 4], (.seq (.ops [.asg 4 (.nil 2)]) (.seq (.ops [.mov 8 (.t 0), .call 9 36 [(.t 8)], .mov 10 (.t 1), .call 11 36 [(.t 10)], .asg 5 (.t 9), .asg 6 (.t 11)]) (.seq (.seq (.ops [.asg 7 (.c (.int .i64 0))])
     fn28_l1) (.seq (.ops [.mov 31 (.t 5), .call 32 35 [(.t 31)], .asg 4 (.t 32)]) .ret))))⟩
def fn29 : VFn := ⟨2, 9, [.tmp 4], (.seq (.ops [.asg 4 (.nil 2)]) (.seq (.ops [.mov 5 (.t 0), .mov 6 (.t 1), .call 7 41 [(.t 5), (.t 6), (.c (.func 44 []))], .call 8 40 [(.t 7)], .asg 4 (.t 8)]) .ret))⟩
def fn30_b0 : VCode := (.seq (.seq (.ops [.mov 12 (.t 7), .mov 13 (.t 5), .len 14 (.t 13), .bin 15 .lss (.t 12) (.t 14)]) (.cond (.t 15) .skip (.exit 0))) (.seq (.block 1 (.ops [.mov 18 (.t 5), .mov 19 (.t 7), .mov 20 (.t 5), .mov 21 (.t 7), .iadr 22 1 (.t 20) (.t 21), .load 23 none (.t 22), .mov 24 (.t 23), .grd 24 true (.mov 25 (.t 6)), .grd 24 true (.mov 26 (.t 7)), .grd 24 true (.iadr 27 1 (.t 25) (.t 26)), .grd 24 true (.load 28 none (.t 27)), .grd 24 true (.un 29 .not (.t 28)), .pick 30 (.t 24) (.t 29) (.c (.bool false)), .iadr 31 1 (.t 18) (.t 19), .store none 1 (.t 31) (.t 30)])) (.ops [.mov 16 (.t 7), .bin 17 .add (.t 16) (.c (.int .i64 1)), .asg 7 (.t 17)])))
def fn30_l1 : VCode :=
(.clean [5, 6, 7, 9, 11] [4, 5] (.block 0 (.loop [5, 6, 7, 9, 11] fn30_b0)))
def fn30 : VFn := ⟨2, 34, [.tmp 4], (.seq (.ops [.asg 4 (.nil 2)]) (.seq (.ops [.mov 8 (.t 0), .call 9 36 [(.t 8)], .mov 10 (.t 1), .call 11 36 [(.t 10)], .asg 5 (.t 9), .asg 6 (.t 11)]) (.seq (.seq (.ops [.asg 7 (.c (.int .i64 0))])
     fn30_l1) (.seq (.ops [.mov 32 (.t 5), .call 33 35 [(.t 32)], .asg 4 (.t 33)]) .ret))))⟩
def fn31_b0 : VCode := (.seq (.ops [.bin 10 .lss (.t 9) (.t 8)]) (.seq (.cond (.t 10) .skip (.exit 0)) (.seq (.block 1 (.seq (.ops [.iadr 11 2 (.t 7) (.t 9), .load 12 (some 2) (.t 11), .alloc 5 [(.int .i64 0), (.int .i64 0)], .store none 2 (.t 5) (.t 12)]) (.ops [.mov 13 (.t 3), .fadr 14 (.t 5) 1, .load 15 none (.t 14), .bin 16 .add (.t 13) (.t 15), .asg 3 (.t 16)]))) (.ops [.bin 17 .add (.t 9) (.c (.int .i64 1)), .mov 9 (.t 17)]))))
def fn31_l1 : VCode :=
(.clean [3, 7, 8, 9] [2, 3] (.block 0 (.loop [3, 7, 8, 9] fn31_b0)))
def fn31 : VFn := ⟨1, 19, [.tmp 2], (.seq (.ops [.asg 2 (.c (.int .i64 0))]) (.seq (.ops [.asg 3 (.c (.int .i64 0))]) (.seq (.seq (.ops [.mov 6 (.t 0), .call 7 25 [(.t 6), (.nil 2)], .len 8 (.t 7), .mov 9 (.c (.int .i64 0))])
     fn31_l1) (.seq (.ops [.mov 18 (.t 3), .asg 2 (.t 18)]) .ret))))⟩
def fn32_b0 : VCode := (.seq (.seq (.ops [.mov 8 (.t 5), .mov 9 (.t 3), .len 10 (.t 9), .bin 11 .lss (.t 8) (.t 10)]) (.cond (.t 11) .skip (.exit 0))) (.seq (.block 1 (.seq (.ops [.mov 14 (.t 3), .mov 15 (.t 5), .iadr 16 1 (.t 14) (.t 15), .load 17 none (.t 16)]) (.cond (.t 17) (.ops [.mov 18 (.t 4), .bin 19 .add (.t 18) (.c (.int .i64 1)), .asg 4 (.t 19)]) .skip))) (.ops [.mov 12 (.t 5), .bin 13 .add (.t 12) (.c (.int .i64 1)), .asg 5 (.t 13)])))
def fn32_l1 : VCode :=
(.clean [3, 4, 5, 7] [2, 4] (.block 0 (.loop [3, 4, 5, 7] fn32_b0)))
def fn32 : VFn := ⟨1, 21, [.tmp 2], (.seq (.ops [.asg 2 (.c (.int .i64 0))]) (.seq (.ops [.mov 6 (.t 0), .call 7 36 [(.t 6)], .asg 3 (.t 7), .asg 4 (.c (.int .i64 0))]) (.seq (.seq (.ops [.asg 5 (.c (.int .i64 0))])
     fn32_l1) (.seq (.ops [.mov 20 (.t 4), .asg 2 (.t 20)]) .ret))))⟩
def fn33 : VFn := ⟨2, 8, [.cell 4 (some 2)], (.seq (.ops [.alloc 4 [(.int .i64 0), (.int .i64 0)]]) (.seq (.ops [.mov 5 (.t 0), .mov 6 (.t 1), .build 7 [(.int .i64 0), (.int .i64 0)] [(0, 1, (.t 5)), (1, 1, (.t 6))], .store none 2 (.t 4) (.t 7)]) .ret))⟩
def fn34 : VFn := ⟨2, 23, [.tmp 4], (.seq (.ops [.box 2 (.t 0), .asg 4 (.c (.bool false))]) (.seq (.ops [.fadr 5 (.t 2) 0, .load 6 none (.t 5), .bin 7 .geq (.t 6) (.c (.int .i64 0)), .mov 8 (.t 7), .grd 8 true (.fadr 9 (.t 2) 1), .grd 8 true (.load 10 none (.t 9)), .grd 8 true (.mov 11 (.t 1)), .grd 8 true (.bin 12 .leq (.t 10) (.t 11)), .pick 13 (.t 8) (.t 12) (.c (.bool false)), .mov 14 (.t 13), .grd 14 true (.fadr 15 (.t 2) 0), .grd 14 true (.load 16 none (.t 15)), .grd 14 true (.mov 17 (.t 1)), .grd 14 true (.fadr 18 (.t 2) 1), .grd 14 true (.load 19 none (.t 18)), .grd 14 true (.bin 20 .sub (.t 17) (.t 19)), .grd 14 true (.bin 21 .leq (.t 16) (.t 20)), .pick 22 (.t 14) (.t 21) (.c (.bool false)), .asg 4 (.t 22)]) .ret))⟩
def fn35_b0 : VCode := (.seq (.seq (.ops [.mov 5 (.t 4), .mov 6 (.t 0), .len 7 (.t 6), .bin 8 .lss (.t 5) (.t 7)]) (.cond (.t 8) .skip (.exit 0))) (.seq (.block 1 (.seq (.seq (.ops [.mov 11 (.t 0), .mov 12 (.t 4), .iadr 13 1 (.t 11) (.t 12), .load 14 none (.t 13), .un 15 .not (.t 14)]) (.cond (.t 15) (.exit 1) .skip)) (.seq (.ops [.mov 16 (.t 4), .bin 17 .gtr (.t 16) (.c (.int .i64 0)), .mov 18 (.t 17), .grd 18 true (.mov 19 (.t 0)), .grd 18 true (.mov 20 (.t 4)), .grd 18 true (.bin 21 .sub (.t 20) (.c (.int .i64 1))), .grd 18 true (.iadr 22 1 (.t 19) (.t 21)), .grd 18 true (.load 23 none (.t 22)), .pick 24 (.t 18) (.t 23) (.c (.bool false))]) (.cond (.t 24) (.ops [.mov 25 (.t 3), .mov 26 (.t 3), .len 27 (.t 26), .bin 28 .sub (.t 27) (.c (.int .i64 1)), .iadr 29 2 (.t 25) (.t 28), .fadr 30 (.t 29) 1, .load 31 none (.t 30), .bin 32 .add (.t 31) (.c (.int .i64 1)), .iadr 33 2 (.t 25) (.t 28), .fadr 34 (.t 33) 1, .store none 1 (.t 34) (.t 32)]) (.ops [.mov 35 (.t 3), .mov 36 (.t 4), .build 37 [(.int .i64 0), (.int .i64 0)] [(0, 1, (.t 36)), (1, 1, (.c (.int .i64 1)))], .mksl 38 2 [(.t 37)], .app 39 2 (.t 35) (.t 38), .asg 3 (.t 39)]))))) (.ops [.mov 9 (.t 4), .bin 10 .add (.t 9) (.c (.int .i64 1)), .asg 4 (.t 10)])))
def fn35_l1 : VCode :=
(.clean [0, 3, 4, 39] [2, 3] (.block 0 (.loop [0, 3, 4, 39] fn35_b0)))
def fn35 : VFn := ⟨1, 41, [.tmp 2], (.seq (.ops [.asg 2 (.nil 2)]) (.seq (.ops [.asg 3 (.nil 2)]) (.seq (.seq (.ops [.asg 4 (.c (.int .i64 0))])
     fn35_l1) (.seq (.ops [.mov 40 (.t 3), .asg 2 (.t 40)]) .ret))))⟩
def fn36_b0 : VCode := (.seq (.seq (.ops [.mov 6 (.t 4), .mov 7 (.t 0), .len 8 (.t 7), .bin 9 .lss (.t 6) (.t 8)]) (.cond (.t 9) .skip (.exit 0))) (.seq (.block 1 (.ops [.mov 12 (.t 3), .mov 13 (.t 0), .mov 14 (.t 4), .iadr 15 2 (.t 13) (.t 14), .load 16 (some 2) (.t 15), .srt 17 45 (.t 12) (.t 16)])) (.ops [.mov 10 (.t 4), .bin 11 .add (.t 10) (.c (.int .i64 1)), .asg 4 (.t 11)])))
def fn36_l1 : VCode :=
(.clean [0, 3, 4, 5] [2, 3] (.block 0 (.loop [0, 3, 4, 5] fn36_b0)))
def fn36 : VFn := ⟨1, 19, [.tmp 2], (.seq (.ops [.asg 2 (.nil 1)]) (.seq (.ops [.make 5 (.bool false) (.c (.int .i64 4096)) (.c (.int .i64 4096)), .asg 3 (.t 5)]) (.seq (.seq (.ops [.asg 4 (.c (.int .i64 0))])
     fn36_l1) (.seq (.ops [.mov 18 (.t 3), .asg 2 (.t 18)]) .ret))))⟩
def fn37 : VFn := ⟨2, 9, [.tmp 4], (.seq (.ops [.asg 4 (.c (.bool false))]) (.seq (.ops [.mov 5 (.t 0), .mov 6 (.t 1), .call 7 46 [(.t 5), (.t 6)], .bin 8 .geq (.t 7) (.c (.int .i64 0)), .asg 4 (.t 8)]) .ret))⟩
def fn38 : VFn := ⟨2, 24, [.tmp 3], (.seq (.ops [.box 2 (.t 0), .asg 3 (.c (.bool false))]) (.seq (.ops [.load 8 (some 2) (.t 2), .call 9 39 [(.t 8)], .mov 7 (.t 9), .ext 10 (.t 7) 0, .ext 11 (.t 7) 1, .ext 12 (.t 7) 2, .asg 4 (.t 10), .asg 5 (.t 11), .asg 6 (.t 12)]) (.seq (.ops [.mov 13 (.t 6), .mov 14 (.t 13), .grd 14 true (.load 15 none (.t 1)), .grd 14 true (.mov 16 (.t 4)), .grd 14 true (.bin 17 .geq (.t 15) (.t 16)), .pick 18 (.t 14) (.t 17) (.c (.bool false)), .mov 19 (.t 18), .grd 19 true (.load 20 none (.t 1)), .grd 19 true (.mov 21 (.t 5)), .grd 19 true (.bin 22 .lss (.t 20) (.t 21)), .pick 23 (.t 19) (.t 22) (.c (.bool false)), .asg 3 (.t 23)]) .ret)))⟩
def fn39 : VFn := ⟨1, 35, [.tmp 2, .tmp 3, .tmp 4], (.seq (.ops [.box 1 (.t 0), .asg 2 (.c (.int .i64 0)), .asg 3 (.c (.int .i64 0)), .asg 4 (.c (.bool false))]) (.seq (.seq (.ops [.fadr 7 (.t 1) 1, .load 8 none (.t 7), .bin 9 .leq (.t 8) (.c (.int .i64 0))]) (.cond (.t 9) (.seq (.ops [.asg 2 (.c (.int .i64 0)), .asg 3 (.c (.int .i64 0)), .asg 4 (.c (.bool false))]) .ret) .skip)) (.seq (.ops [.fadr 10 (.t 1) 0, .load 11 none (.t 10), .mn 12 true (.t 11) (.c (.int .i64 0)), .asg 5 (.t 12), .asg 6 (.c (.int .i64 4096))]) (.seq (.seq (.ops [.fadr 13 (.t 1) 0, .load 14 none (.t 13), .bin 15 .lss (.t 14) (.c (.int .i64 0)), .mov 16 (.t 15), .grd 16 false (.fadr 17 (.t 1) 1), .grd 16 false (.load 18 none (.t 17)), .grd 16 false (.fadr 19 (.t 1) 0), .grd 16 false (.load 20 none (.t 19)), .grd 16 false (.bin 21 .sub (.c (.int .i64 4096)) (.t 20)), .grd 16 false (.bin 22 .lss (.t 18) (.t 21)), .pick 23 (.t 16) (.c (.bool true)) (.t 22)]) (.cond (.t 23) (.ops [.fadr 24 (.t 1) 0, .load 25 none (.t 24), .fadr 26 (.t 1) 1, .load 27 none (.t 26), .bin 28 .add (.t 25) (.t 27), .mn 29 false (.t 28) (.c (.int .i64 4096)), .asg 6 (.t 29)]) .skip)) (.seq (.ops [.mov 30 (.t 5), .mov 31 (.t 6), .mov 32 (.t 5), .mov 33 (.t 6), .bin 34 .lss (.t 32) (.t 33), .asg 2 (.t 30), .asg 3 (.t 31), .asg 4 (.t 34)]) .ret)))))⟩
def fn40 : VFn := ⟨1, 5, [.tmp 2], (.seq (.ops [.asg 2 (.nil 2)]) (.seq (.ops [.mov 3 (.t 0), .call 4 47 [(.c (.nils 2)), (.t 3)], .asg 2 (.t 4)]) .ret))⟩
def fn41 : VFn := ⟨3, 8, [.tmp 6], (.seq (.ops [.box 3 (.t 0), .box 4 (.t 1), .box 5 (.t 2), .asg 6 (.c .nilf)]) (.seq (.ops [.mkf 7 48 [(.t 3), (.t 4), (.t 5)], .asg 6 (.t 7)]) .ret))⟩
def fn42 : VFn := ⟨2, 9, [.tmp 4], (.seq (.ops [.asg 4 (.c (.bool false))]) (.seq (.ops [.mov 5 (.t 0), .mov 6 (.t 5), .grd 6 false (.mov 7 (.t 1)), .pick 8 (.t 6) (.c (.bool true)) (.t 7), .asg 4 (.t 8)]) .ret))⟩
def fn43 : VFn := ⟨2, 9, [.tmp 4], (.seq (.ops [.asg 4 (.c (.bool false))]) (.seq (.ops [.mov 5 (.t 0), .mov 6 (.t 5), .grd 6 true (.mov 7 (.t 1)), .pick 8 (.t 6) (.t 7) (.c (.bool false)), .asg 4 (.t 8)]) .ret))⟩
def fn44 : VFn := ⟨2, 10, [.tmp 4], (.seq (.ops [.asg 4 (.c (.bool false))]) (.seq (.ops [.mov 5 (.t 0), .mov 6 (.t 5), .grd 6 true (.mov 7 (.t 1)), .grd 6 true (.un 8 .not (.t 7)), .pick 9 (.t 6) (.t 8) (.c (.bool false)), .asg 4 (.t 9)]) .ret))⟩
def fn46_b0 : VCode := (.seq (.ops [.bin 9 .lss (.t 8) (.t 7)]) (.seq (.cond (.t 9) .skip (.exit 0)) (.seq (.block 1 (.seq (.ops [.mov 10 (.t 8), .asg 5 (.t 10)]) (.seq (.ops [.mov 11 (.t 1), .mov 12 (.t 0), .mov 13 (.t 5), .iadr 14 2 (.t 12) (.t 13), .load 15 (some 2) (.t 14), .callv 16 (.t 11) [(.t 15)]]) (.cond (.t 16) (.seq (.ops [.mov 17 (.t 5), .asg 4 (.t 17)]) .ret) .skip)))) (.ops [.bin 18 .add (.t 8) (.c (.int .i64 1)), .mov 8 (.t 18)]))))
def fn46_l1 : VCode :=
(.clean [0, 1, 7, 8] [4] (.block 0 (.loop [0, 1, 7, 8] fn46_b0)))
def fn46 : VFn := ⟨2, 19, [.tmp 4], (.seq (.ops [.asg 4 (.c (.int .i64 0))]) (.seq (.seq (.ops [.mov 6 (.t 0), .len 7 (.t 6), .mov 8 (.c (.int .i64 0))])
    fn46_l1) (.seq (.ops [.asg 4 (.c (.int .i64 (-1)))]) .ret)))⟩
def fn47_b0 : VCode := (.ops [.alloc 5 [(.int .i64 0), (.int .i64 0)], .store none 2 (.t 5) (.t 7)])
def fn47_b1 : VCode := (.block 1 (.ops [.load 8 none (.t 2), .load 9 (some 2) (.t 5), .mksl 10 2 [(.t 9)], .app 11 2 (.t 8) (.t 10), .store none 1 (.t 2) (.t 11)]))
def fn47 : VFn := ⟨2, 13, [.tmp 4], (.seq (.ops [.box 2 (.t 0), .asg 4 (.nil 2)]) (.seq (.seq (.ops [.mov 6 (.t 1)]) (.block 0 (.rng (.t 6) [7] fn47_b0 fn47_b1))) (.seq (.ops [.load 12 none (.t 2), .asg 4 (.t 12)]) .ret)))⟩
def fn48_b0 : VCode := (.seq (.ops [.bin 19 .lss (.t 18) (.t 17)]) (.seq (.cond (.t 19) .skip (.exit 0)) (.seq (.block 1 (.seq (.ops [.mov 20 (.t 18), .iadr 21 3 (.t 16) (.t 18), .load 22 (some 3) (.t 21), .alloc 10 [(.int .i64 0), (.int .i64 0), (.int .i64 0)], .asg 9 (.t 20), .store none 3 (.t 10) (.t 22)]) (.seq (.drw [] [] (some ([0, 1, 2, 3, 4, 5, 6, 7], [], 8, [])) [] [.fadr 23 (.t 10) 1, .load 24 none (.t 23), .aadr 25 (.t 6) (.t 24) 2 1, .load 26 none (.t 25), .fadr 27 (.t 10) 2, .load 28 none (.t 27), .bin 29 .add (.t 26) (.t 28), .aadr 30 (.t 6) (.t 24) 2 1, .store none 1 (.t 30) (.t 29)]) (.seq (.seq (.drw [] [] none [0, 1, 2, 3, 4, 5, 6, 7, 8, 9, 10, 11, 12, 13, 14, 15] [.mov 31 (.t 9), .bin 32 .add (.t 31) (.c (.int .i64 1)), .mov 33 (.t 5), .len 34 (.t 33), .bin 35 .lss (.t 32) (.t 34), .mov 36 (.t 35), .grd 36 true (.mov 37 (.t 5)), .grd 36 true (.mov 38 (.t 9)), .grd 36 true (.bin 39 .add (.t 38) (.c (.int .i64 1))), .grd 36 true (.iadr 40 3 (.t 37) (.t 39)), .grd 36 true (.fadr 41 (.t 40) 0), .grd 36 true (.load 42 none (.t 41)), .grd 36 true (.fadr 43 (.t 10) 0), .grd 36 true (.load 44 none (.t 43)), .grd 36 true (.bin 45 .eql (.t 42) (.t 44)), .pick 46 (.t 36) (.t 45) (.c (.bool false))]) (.cond (.t 46) (.exit 1) .skip)) (.seq (.ops [.load 47 none (.t 3), .aadr 48 (.t 6) (.c (.int .i64 0)) 2 1, .load 49 none (.t 48), .bin 50 .gtr (.t 49) (.c (.int .i64 0)), .aadr 51 (.t 6) (.c (.int .i64 1)) 2 1, .load 52 none (.t 51), .bin 53 .gtr (.t 52) (.c (.int .i64 0)), .callv 54 (.t 47) [(.t 50), (.t 53)], .asg 11 (.t 54)]) (.seq (.seq (.ops [.mov 55 (.t 11), .mov 56 (.t 55), .grd 56 true (.mov 57 (.t 8)), .grd 56 true (.un 58 .not (.t 57)), .pick 59 (.t 56) (.t 58) (.c (.bool false))]) (.cond (.t 59) (.ops [.fadr 60 (.t 10) 0, .load 61 none (.t 60), .asg 7 (.t 61)]) .skip)) (.seq (.seq (.ops [.mov 62 (.t 11), .un 63 .not (.t 62), .mov 64 (.t 63), .grd 64 true (.mov 65 (.t 8)), .pick 66 (.t 64) (.t 65) (.c (.bool false)), .mov 67 (.t 66), .grd 67 true (.mov 68 (.t 0)), .grd 67 true (.mov 69 (.t 7)), .grd 67 true (.fadr 70 (.t 10) 0), .grd 67 true (.load 71 none (.t 70)), .grd 67 true (.mov 72 (.t 7)), .grd 67 true (.bin 73 .sub (.t 71) (.t 72)), .grd 67 true (.build 74 [(.int .i64 0), (.int .i64 0)] [(0, 1, (.t 69)), (1, 1, (.t 73))]), .grd 67 true (.yield 75 (.t 68) [(.t 74)]), .grd 67 true (.un 76 .not (.t 75)), .pick 77 (.t 67) (.t 76) (.c (.bool false))]) (.cond (.t 77) .ret .skip)) (.ops [.mov 78 (.t 11), .asg 8 (.t 78)])))))))) (.ops [.bin 79 .add (.t 18) (.c (.int .i64 1)), .mov 18 (.t 79)]))))
def fn48_l1 : VCode :=
(.clean [0, 3, 5, 6, 7, 8, 15, 16, 17, 18] [] (.block 0 (.loop [0, 3, 5, 6, 7, 8, 15, 16, 17, 18] fn48_b0)))
def fn48 : VFn := ⟨4, 80, [], (.seq (.ops [.load 12 none (.t 1), .load 13 none (.t 2), .mksl 14 1 [(.t 12), (.t 13)], .call 15 49 [(.t 14)], .asg 5 (.t 15)]) (.seq (.ops [.alloc 6 [(.int .i64 0), (.int .i64 0)]]) (.seq (.ops [.asg 7 (.c (.int .i64 0)), .asg 8 (.c (.bool false))]) (.seq (.ops [.mov 16 (.t 5), .len 17 (.t 16), .mov 18 (.c (.int .i64 0))])
     fn48_l1))))⟩
def fn49_b0 : VCode := (.seq (.ops [.bin 21 .lss (.t 20) (.t 19)]) (.seq (.cond (.t 21) .skip (.exit 2)) (.seq (.block 3 (.seq (.ops [.iadr 22 2 (.t 18) (.t 20), .load 23 (some 2) (.t 22), .alloc 7 [(.int .i64 0), (.int .i64 0)], .store none 2 (.t 7) (.t 23)]) (.seq (.ops [.load 25 (some 2) (.t 7), .call 26 39 [(.t 25)], .mov 24 (.t 26), .ext 27 (.t 24) 0, .ext 28 (.t 24) 1, .ext 29 (.t 24) 2, .asg 8 (.t 27), .asg 9 (.t 28), .asg 10 (.t 29)]) (.seq (.ops [.mov 30 (.t 10)]) (.cond (.t 30) (.ops [.mov 31 (.t 3), .mov 32 (.t 8), .mov 33 (.t 4), .build 34 [(.int .i64 0), (.int .i64 0), (.int .i64 0)] [(0, 1, (.t 32)), (1, 1, (.t 33)), (2, 1, (.c (.int .i64 1)))], .mov 35 (.t 9), .mov 36 (.t 4), .build 37 [(.int .i64 0), (.int .i64 0), (.int .i64 0)] [(0, 1, (.t 35)), (1, 1, (.t 36)), (2, 1, (.c (.int .i64 (-1))))], .mksl 38 3 [(.t 34), (.t 37)], .app 39 3 (.t 31) (.t 38), .asg 3 (.t 39)]) .skip))))) (.ops [.bin 40 .add (.t 20) (.c (.int .i64 1)), .mov 20 (.t 40)]))))
def fn49_l1 : VCode :=
(.clean [0, 3, 4, 5, 11, 12, 13, 17, 18, 19, 20, 39] [0, 2, 3, 11, 12, 13, 39] (.block 2 (.loop [0, 3, 4, 5, 11, 12, 13, 17, 18, 19, 20, 39] fn49_b0)))
def fn49_b2 : VCode := (.seq (.ops [.bin 14 .lss (.t 13) (.t 12)]) (.seq (.cond (.t 14) .skip (.exit 0)) (.seq (.block 1 (.seq (.ops [.mov 15 (.t 13), .iadr 16 1 (.t 11) (.t 13), .load 17 none (.t 16), .asg 4 (.t 15), .asg 5 (.t 17)]) (.seq (.ops [.mov 18 (.t 5), .len 19 (.t 18), .mov 20 (.c (.int .i64 0))])
       fn49_l1))) (.ops [.bin 41 .add (.t 13) (.c (.int .i64 1)), .mov 13 (.t 41)]))))
def fn49_l3 : VCode :=
(.clean [0, 3, 11, 12, 13, 39] [2, 3] (.block 0 (.loop [0, 3, 11, 12, 13, 39] fn49_b2)))
def fn49 : VFn := ⟨1, 45, [.tmp 2], (.seq (.ops [.asg 2 (.nil 3)]) (.seq (.ops [.asg 3 (.nil 3)]) (.seq (.seq (.ops [.mov 11 (.t 0), .len 12 (.t 11), .mov 13 (.c (.int .i64 0))])
     fn49_l3) (.seq (.ops [.mov 42 (.t 3), .srt 43 50 (.t 42) (.c (.func 51 []))]) (.seq (.ops [.mov 44 (.t 3), .asg 2 (.t 44)]) .ret)))))⟩
def fn51 : VFn := ⟨2, 10, [.tmp 4], (.seq (.ops [.box 2 (.t 0), .box 3 (.t 1), .asg 4 (.c (.int .i64 0))]) (.seq (.ops [.fadr 5 (.t 2) 0, .load 6 none (.t 5), .fadr 7 (.t 3) 0, .load 8 none (.t 7), .call 9 52 [(.t 6), (.t 8)], .asg 4 (.t 9)]) .ret))⟩
def fn52 : VFn := ⟨2, 20, [.tmp 4], (.seq (.ops [.asg 4 (.c (.int .i64 0))]) (.seq (.ops [.mov 7 (.t 0), .call 8 55 [(.t 7)], .asg 5 (.t 8)]) (.seq (.ops [.mov 9 (.t 1), .call 10 55 [(.t 9)], .asg 6 (.t 10)]) (.seq (.seq (.ops [.mov 11 (.t 5)]) (.cond (.t 11) (.seq (.seq (.ops [.mov 12 (.t 6)]) (.cond (.t 12) (.seq (.ops [.asg 4 (.c (.int .i64 0))]) .ret) .skip)) (.seq (.ops [.asg 4 (.c (.int .i64 (-1)))]) .ret)) .skip)) (.seq (.seq (.ops [.mov 13 (.t 6)]) (.cond (.t 13) (.seq (.ops [.asg 4 (.c (.int .i64 1))]) .ret) .skip)) (.seq (.seq (.ops [.mov 14 (.t 0), .mov 15 (.t 1), .bin 16 .lss (.t 14) (.t 15)]) (.cond (.t 16) (.seq (.ops [.asg 4 (.c (.int .i64 (-1)))]) .ret) .skip)) (.seq (.seq (.ops [.mov 17 (.t 0), .mov 18 (.t 1), .bin 19 .gtr (.t 17) (.t 18)]) (.cond (.t 19) (.seq (.ops [.asg 4 (.c (.int .i64 1))]) .ret) .skip)) (.seq (.ops [.asg 4 (.c (.int .i64 0))]) .ret))))))))⟩
def fn55 : VFn := ⟨1, 6, [.tmp 2], (.seq (.ops [.asg 2 (.c (.bool false))]) (.seq (.ops [.mov 3 (.t 0), .mov 4 (.t 0), .bin 5 .neq (.t 3) (.t 4), .asg 2 (.t 5)]) .ret))⟩

def tab : List (Nat × VDef) := [(3, .code fn3), (4, .code fn4), (5, .code fn5), (6, .code fn6), (7, .code fn7), (8, .code fn8), (9, .code fn9), (10, .code fn10), (11, .code fn11), (12, .code fn12), (13, .code fn13), (14, .code fn14), (15, .code fn15), (16, .code fn16), (17, .code fn17), (18, .code fn18), (19, .code fn19), (20, .code fn20), (21, .code fn21), (22, .code fn22), (23, .code fn23), (24, .code fn24), (25, .code fn25), (26, .code fn26), (27, .code fn27), (28, .code fn28), (29, .code fn29), (30, .code fn30), (31, .code fn31), (32, .code fn32), (33, .code fn33), (34, .code fn34), (35, .code fn35), (36, .code fn36), (37, .code fn37), (38, .code fn38), (39, .code fn39), (40, .code fn40), (41, .code fn41), (42, .code fn42), (43, .code fn43), (44, .code fn44), (45, .srt addX), (46, .code fn46), (47, .code fn47), (48, .code fn48), (49, .code fn49), (50, .srt (sortEndsX 51)), (51, .code fn51), (52, .code fn52), (55, .code fn55)]
def env : Env := fun f => tab.lookup f
theorem env3 : env 3 = some (.code fn3) := rfl
theorem env4 : env 4 = some (.code fn4) := rfl
theorem env5 : env 5 = some (.code fn5) := rfl
theorem env6 : env 6 = some (.code fn6) := rfl
theorem env7 : env 7 = some (.code fn7) := rfl
theorem env8 : env 8 = some (.code fn8) := rfl
theorem env9 : env 9 = some (.code fn9) := rfl
theorem env10 : env 10 = some (.code fn10) := rfl
theorem env11 : env 11 = some (.code fn11) := rfl
theorem env12 : env 12 = some (.code fn12) := rfl
theorem env13 : env 13 = some (.code fn13) := rfl
theorem env14 : env 14 = some (.code fn14) := rfl
theorem env15 : env 15 = some (.code fn15) := rfl
theorem env16 : env 16 = some (.code fn16) := rfl
theorem env17 : env 17 = some (.code fn17) := rfl
theorem env18 : env 18 = some (.code fn18) := rfl
theorem env19 : env 19 = some (.code fn19) := rfl
theorem env20 : env 20 = some (.code fn20) := rfl
theorem env21 : env 21 = some (.code fn21) := rfl
theorem env22 : env 22 = some (.code fn22) := rfl
theorem env23 : env 23 = some (.code fn23) := rfl
theorem env24 : env 24 = some (.code fn24) := rfl
theorem env25 : env 25 = some (.code fn25) := rfl
theorem env26 : env 26 = some (.code fn26) := rfl
theorem env27 : env 27 = some (.code fn27) := rfl
theorem env28 : env 28 = some (.code fn28) := rfl
theorem env29 : env 29 = some (.code fn29) := rfl
theorem env30 : env 30 = some (.code fn30) := rfl
theorem env31 : env 31 = some (.code fn31) := rfl
theorem env32 : env 32 = some (.code fn32) := rfl
theorem env33 : env 33 = some (.code fn33) := rfl
theorem env34 : env 34 = some (.code fn34) := rfl
theorem env35 : env 35 = some (.code fn35) := rfl
theorem env36 : env 36 = some (.code fn36) := rfl
theorem env37 : env 37 = some (.code fn37) := rfl
theorem env38 : env 38 = some (.code fn38) := rfl
theorem env39 : env 39 = some (.code fn39) := rfl
theorem env40 : env 40 = some (.code fn40) := rfl
theorem env41 : env 41 = some (.code fn41) := rfl
theorem env42 : env 42 = some (.code fn42) := rfl
theorem env43 : env 43 = some (.code fn43) := rfl
theorem env44 : env 44 = some (.code fn44) := rfl
theorem env45 : env 45 = some (.srt addX) := rfl
theorem env46 : env 46 = some (.code fn46) := rfl
theorem env47 : env 47 = some (.code fn47) := rfl
theorem env48 : env 48 = some (.code fn48) := rfl
theorem env49 : env 49 = some (.code fn49) := rfl
theorem env50 : env 50 = some (.srt (sortEndsX 51)) := rfl
theorem env51 : env 51 = some (.code fn51) := rfl
theorem env52 : env 52 = some (.code fn52) := rfl
theorem env55 : env 55 = some (.code fn55) := rfl
end Go.Proofs.Ytldmhbkfblbhaaa

namespace Go.Proofs.Ytldmhbkfblbhaaa
set_option linter.all false
def vAll := (And.intro (And.intro (And.intro (And.intro (And.intro (And.intro (And.intro @den_skip @den_ops) (And.intro @den_drw (And.intro @den_seq @den_cond))) (And.intro (And.intro @den_block (And.intro @den_exit @den_ret)) (And.intro @next_normal (And.intro @next_exit @next_ret)))) (And.intro (And.intro (And.intro @endBlock_normal (And.intro @endBlock_ret @endBlock_exit)) (And.intro @tail_normal (And.intro @tail_ret @tail_exit))) (And.intro (And.intro @fin_normal (And.intro @fin_ret @bcase_true)) (And.intro @bcase_false (And.intro @z_bind_some @z_map_some))))) (And.intro (And.intro (And.intro (And.intro @z_bind_none (And.intro @z_map_none @dops_nil)) (And.intro @dops_cons (And.intro @dop_grd @dop_pick))) (And.intro (And.intro @dop_call (And.intro @dop_callv @op1_call)) (And.intro @op1_callv (And.intro @op1_pick @dop_mov)))) (And.intro (And.intro (And.intro @dop_asg (And.intro @dop_bin @dop_eqa)) (And.intro @dop_eqb (And.intro @dop_isn @dop_cut))) (And.intro (And.intro @dop_asl (And.intro @dop_ldz @dop_srt)) (And.intro @dop_mvz (And.intro @dop_un @dop_conv)))))) (And.intro (And.intro (And.intro (And.intro (And.intro @dop_load (And.intro @dop_fadr @dop_aadr)) (And.intro @dop_iadr (And.intro @dop_fld @dop_idx))) (And.intro (And.intro @dop_sli (And.intro @dop_len @dop_lens)) (And.intro @dop_ext (And.intro @dop_build @dop_mn)))) (And.intro (And.intro (And.intro @dop_mkf (And.intro @dop_alloc @dop_box)) (And.intro @dop_store (And.intro @dop_mksl @dop_make))) (And.intro (And.intro @dop_app (And.intro @dop_cpy @dop_yield)) (And.intro @op1_mov (And.intro @op1_asg @op1_bin))))) (And.intro (And.intro (And.intro (And.intro @op1_eqa (And.intro @op1_eqb @op1_isn)) (And.intro @op1_cut (And.intro @op1_asl @op1_ldz))) (And.intro (And.intro @op1_srt (And.intro @op1_mvz @op1_un)) (And.intro @op1_conv (And.intro @op1_load @op1_fadr)))) (And.intro (And.intro (And.intro @op1_aadr (And.intro @op1_iadr @op1_fld)) (And.intro @op1_idx (And.intro @op1_sli @op1_len))) (And.intro (And.intro @op1_lens (And.intro @op1_ext @op1_build)) (And.intro @op1_mn (And.intro @op1_mkf @op1_alloc))))))) (And.intro (And.intro (And.intro (And.intro (And.intro (And.intro @op1_box @op1_store) (And.intro @op1_mksl (And.intro @op1_make @op1_app))) (And.intro (And.intro @op1_cpy (And.intro @op1_yield @Bool.false_eq_true)) (And.intro @z_ite_true (And.intro @z_ite_false @cells_int)))) (And.intro (And.intro (And.intro @cells_bool (And.intro @cells_str @cells_list)) (And.intro @cells_func (And.intro @cells_agg @part_one))) (And.intro (And.intro @part_succ (And.intro @part_more @killS_pv)) (And.intro @killS_any (And.intro @killS_row @killS_pbox))))) (And.intro (And.intro (And.intro (And.intro @killS_fn (And.intro @killS_tup @killS_yld)) (And.intro @killS_refs (And.intro @killS_refc @killS_pels))) (And.intro (And.intro @killS_pelc (And.intro @killc_pv @killc_any)) (And.intro @killc_row (And.intro @killc_pbox @killc_fn)))) (And.intro (And.intro (And.intro @killc_tup (And.intro @killc_yld @killc_refs)) (And.intro @killc_refc (And.intro @killc_pels @killc_pelc))) (And.intro (And.intro @z_bind_eq (And.intro @z_pure @z_map_cons)) (And.intro @z_map_nil (And.intro @z_len_cons @z_len_nil)))))) (And.intro (And.intro (And.intro (And.intro (And.intro @z_nil_app (And.intro @z_cons_app @Nat.zero_add)) (And.intro @Nat.add_zero (And.intro @z_drop_zero @z_drop_succ))) (And.intro (And.intro @z_take_succ (And.intro @z_take_zero @decide_true)) (And.intro @decide_false (And.intro @Bool.not_true @Bool.not_false)))) (And.intro (And.intro (And.intro @Bool.true_eq_false (And.intro @Bool.true_and @Bool.and_true)) (And.intro @Bool.false_and (And.intro @Bool.and_false @Bool.true_or))) (And.intro (And.intro @Bool.false_or (And.intro @Bool.or_false @Bool.or_true)) (And.intro @beq_t (And.intro @beq_f @bcase_not))))) (And.intro (And.intro (And.intro (And.intro @bcase_bne (And.intro @z_getD_zero @z_getD_8)) (And.intro @z_getD_succ (And.intro @z_get_zero @z_get_8))) (And.intro (And.intro @z_get_succ (And.intro @z_set_zero @z_set_8)) (And.intro @z_set_succ (And.intro @afterCall_false @afterCall_true)))) (And.intro (And.intro (And.intro @z_mapM_nil (And.intro @z_any_cons @z_any_nil)) (And.intro @z_all_cons (And.intro @z_all_nil @scal_int))) (And.intro (And.intro @scal_bool (And.intro @scal_str @scal_list)) (And.intro @scal_func (And.intro @z_foldl_cons @z_foldl_nil))))))))
end Go.Proofs.Ytldmhbkfblbhaaa

namespace Go.Proofs.Ytldmhbkfblbhaaa.V
set_option linter.all false

theorem secPV_zero : secPV zSec = [.int .u8 0, .int .u8 0, .int .u8 0, .int .u8 0, .int .u8 0, .int .u8 0, .int .u8 0, .int .u8 0] := rfl
theorem part_sec (x : Sec) : part (secPV x) 0 (some 8) = some (.agg (secPV x)) := by
  simp only [part, secPV_length, Nat.zero_add, List.drop_zero]
  rw [if_pos (Nat.le_refl _), List.take_of_length_le (by rw [secPV_length]; exact Nat.le_refl _)]
theorem eqCells_u8 : ∀ a b : List UInt8, a.length = b.length → eqCells (a.map fun b => .int .u8 (b.toNat : Int)) (b.map fun b => .int .u8 (b.toNat : Int)) = some (decide (a = b))
  | [], [], _ => rfl
  | x :: a, y :: b, h => by
    simp only [List.length_cons, Nat.add_right_cancel_iff] at h
    simp only [List.map_cons, eqCells, if_pos, eqCells_u8 a b h, Option.map_some, List.cons.injEq]
    congr 1
    have : ((x.toNat : Int) == (y.toNat : Int)) = decide (x = y) := by
      by_cases e : x = y
      · subst e; simp
      · have : ¬ x.toNat = y.toNat := fun h => e (UInt8.toNat_inj.1 h)
        simp [e]; omega
    rw [this, Bool.decide_and]
  | [], _ :: _, h => by simp at h
  | _ :: _, [], h => by simp at h
theorem eqCells_sec (a b : Sec) : eqCells (secPV a) (secPV b) = some (decide (a = b)) := by
  unfold secPV
  rw [eqCells_u8 _ _ (by simp)]
  congr 1
  apply decide_eq_decide.2
  exact ⟨fun h => Vector.toList_inj.1 h, fun h => by rw [h]⟩
theorem scal_agg (cs : List PV) : (PV.agg cs).scalar = cs.all fun c => match c with
    | .int _ _ | .bool _ | .str _ => true
    | _ => false := (rfl)
theorem scal_sec (x : Sec) : (PV.agg (secPV x)).scalar = true := by
  rw [scal_agg, List.all_eq_true]
  intro c hc
  obtain ⟨b, _, rfl⟩ := List.mem_map.1 hc
  rfl
end Go.Proofs.Ytldmhbkfblbhaaa.V

namespace Go.Proofs.Ytldmhbkfblbhaaa.V
set_option linter.all false

def idxI {α : Type} (p : α → Bool) (l : List α) : Int := if l.any p then (l.findIdx p : Int) else -1
theorem idxI_nonneg {α : Type} (p : α → Bool) (l : List α) : decide (idxI p l ≥ 0) = l.any p := by
  unfold idxI
  cases l.any p
  · rfl
  · simp only [if_true]; exact decide_eq_true (by omega)
theorem isEqv_cons {α β : Type} (eq : α → β → Bool) (x : α) (y : β) (l : List α) (m : List β) : (l.length = m.length) → ((x :: l).zip (y :: m)).all (fun q => eq q.1 q.2) = (eq x y && (l.zip m).all (fun q => eq q.1 q.2)) := fun _ => by
  simp
def eqF {α β : Type} (eq : α → β → Bool) (l : List α) (m : List β) : Bool := decide (l.length = m.length) && (l.zip m).all fun q => eq q.1 q.2
end Go.Proofs.Ytldmhbkfblbhaaa.V

namespace Go.Proofs.Ytldmhbkfblbhaaa.V
set_option linter.all false

def sizesErr (l : List Int) : Int := if l.length < 1 ∨ 8 < l.length then 6 else if l.any (fun n => decide (n < 1) || decide (n > 4096)) then 2 else 0
def imSizes (im : Img) : List Int := im.map fun v => (v.length : Int)
def imCheck (im : Img) : Int := sizesErr (imSizes im)
def fitsErr (im : Img) (w : Wrt) : Int :=
  if w.volume < 0 ∨ (im.length : Int) ≤ w.volume then 7 else if w.data.length = 0 then 1
  else if w.start < 0 ∨ ((im.getD w.volume.toNat []).length : Int) - w.data.length < w.start then 2 else 0
def imFits (im : Img) (w : Wrt) : Int := if imCheck im ≠ 0 then imCheck im else fitsErr im w
def newImg (l : List Int) : Img := l.map fun n => List.replicate n.toNat zSec

theorem take_map_succ {α β : Type} (f : α → β) {l : List α} {i : Nat} (h : i < l.length) : (l.take i).map f ++ [f l[i]] = (l.take (i + 1)).map f := by
  rw [List.take_succ, List.getElem?_eq_getElem h, List.map_append]; rfl
theorem take_map_len {α β : Type} (f : α → β) {l : List α} {i : Nat} (h : i < l.length) : ((l.take i).map f).length = i := by simp; omega

theorem eqF_eq {α : Type} [DecidableEq α] : ∀ (l m : List α), eqF (fun x y => decide (x = y)) l m = decide (l = m)
  | [], [] => by simp [eqF]
  | [], _ :: _ => by simp [eqF]
  | _ :: _, [] => by simp [eqF]
  | x :: l, y :: m => by
    have := eqF_eq l m
    simp only [eqF, List.length_cons, List.zip_cons_cons, List.all_cons, List.cons.injEq, Bool.decide_and] at *
    rw [← this]
    by_cases h : l.length = m.length <;> simp [h]
end Go.Proofs.Ytldmhbkfblbhaaa.V

namespace Go.Proofs.Ytldmhbkfblbhaaa.V
set_option linter.all false

def few7 (im : Img) : Bool := decide (im.length ≤ 9) && im.all fun v => decide (v.length ≤ 24)
theorem getD_get {α : Type} {l : List α} {i : Nat} {d : α} (h : i < l.length) : l.getD i d = l[i] := by simp [List.getD_eq_getElem?_getD, List.getElem?_eq_getElem h]
def readErr (im : Img) (v : Int) (e : Exn) : Int :=
  if imCheck im ≠ 0 then imCheck im else if v < 0 ∨ (im.length : Int) ≤ v then 7
  else if e.start < 0 ∨ e.count < 0 ∨ ((im.getD v.toNat []).length : Int) < e.start ∨ ((im.getD v.toNat []).length : Int) - e.start < e.count then 2 else 0
def readOut (im : Img) (v : Int) (e : Exn) : List Sec :=
  if readErr im v e = 0 then ((im.getD v.toNat []).drop e.start.toNat).take e.count.toNat else []
end Go.Proofs.Ytldmhbkfblbhaaa.V

namespace Go.Proofs.Ytldmhbkfblbhaaa
set_option linter.all false

noncomputable def iter (env : Env) (f : Nat) (caps : List PV) (stop : Option Nat) : Option (List (List PV)) := iterRes (den env) env f caps stop
def ystart (n : Nat) (caps : List PV) (stop : Option Nat) : St := ⟨.yld :: (caps.map .pv ++ List.replicate (n - (caps.length + 1)) .any), [], [], some stop⟩
def yfin : Ex × St → Option (List (List PV))
  | (.exit _, _) => none
  | (_, st) => some st.ys
section
variable {env : Env}
theorem yfin_normal (st : St) : yfin (.normal, st) = some st.ys := (rfl)
theorem yfin_ret (st : St) : yfin (.ret, st) = some st.ys := (rfl)
theorem iter_code {f : Nat} {fn : VFn} {caps : List PV} {stop : Option Nat} (h : env f = some (.code fn)) (hl : caps.length + 1 = fn.nargs) (hr : fn.results.isEmpty = true) : iter env f caps stop = (den env fn.body (ystart fn.ntmps caps stop)).bind yfin := by
  unfold iter iterRes
  rw [h]
  simp only [if_pos (And.intro hl hr)]
  show (den env fn.body _).bind _ = _
  congr 1
  funext ⟨e, st⟩
  cases e <;> rfl

noncomputable def round1 (env : Env) (slots : List AV) (ps : List Nat) (assign body : VCode) (nb : Nat) (x : List PV) (st : St) : Option (Ex × St) :=
  (setParams slots ps x).bind fun sl => (den env assign { st with slots := sl }).bind fun p => match p with
    | (.normal, st) => (den env body st).bind fun p => match p with
      | (.normal, st) => if nb ≤ st.boxes.length then some (.normal, { st with boxes := st.boxes.take nb }) else none
      | p => some p
    | _ => none
theorem rounds_cons {slots : List AV} {ps : List Nat} {assign body : VCode} {nb k : Nat} {x : List PV} {xs : List (List PV)} {st : St} :
    rounds (den env) slots ps assign body nb k (x :: xs) st = (round1 env slots ps assign body nb x st).bind fun p => match p with
      | (.normal, st) => rounds (den env) slots ps assign body nb (k + 1) xs st
      | (e, st) => some (some (e, k + 1), st) := by
  conv => lhs; unfold rounds
  unfold round1
  show (setParams slots ps x).bind _ = _
  cases setParams slots ps x with
  | none => rfl
  | some sl =>
    simp only [Option.bind_some]
    show (den env assign _).bind _ = _
    cases den env assign { st with slots := sl } with
    | none => rfl
    | some p =>
      obtain ⟨e, s⟩ := p
      simp only [Option.bind_some]
      cases e with
      | normal =>
        simp only
        show (den env body _).bind _ = _
        cases den env body s with
        | none => rfl
        | some p =>
          obtain ⟨e, s⟩ := p
          simp only [Option.bind_some]
          cases e with
          | normal =>
            simp only
            split <;> rfl
          | exit i => rfl
          | ret => rfl
      | exit i => rfl
      | ret => rfl
theorem rounds_take {slots : List AV} {ps : List Nat} {assign body : VCode} {nb : Nat} {e : Ex} {m : Nat} {s : St} : ∀ {xs : List (List PV)} {k : Nat} {st : St}, rounds (den env) slots ps assign body nb k xs st = some (some (e, m), s) →
    k < m ∧ m ≤ k + xs.length ∧ rounds (den env) slots ps assign body nb k (xs.take (m - k)) st = some (some (e, m), s)
  | [], k, st, h => by cases h
  | x :: xs, k, st, h => by
    rw [rounds_cons] at h
    cases hr : round1 env slots ps assign body nb x st with
    | none => rw [hr] at h; cases h
    | some p =>
      obtain ⟨e1, s1⟩ := p
      rw [hr] at h
      simp only [Option.bind_some] at h
      cases e1 with
      | normal =>
        obtain ⟨h1, h2, h3⟩ := rounds_take h
        refine ⟨by omega, by simp only [List.length_cons]; omega, ?_⟩
        rw [show m - k = (m - (k + 1)) + 1 by omega, List.take_succ_cons, rounds_cons, hr]
        exact h3
      | exit i =>
        cases h
        refine ⟨by omega, by simp, ?_⟩
        rw [show k + 1 - k = 0 + 1 by omega, List.take_succ_cons, rounds_cons, hr]
        rfl
      | ret =>
        cases h
        refine ⟨by omega, by simp, ?_⟩
        rw [show k + 1 - k = 0 + 1 by omega, List.take_succ_cons, rounds_cons, hr]
        rfl
theorem rng_all {g : Opd} {ps : List Nat} {assign body : VCode} {st st1 : St} {f : Nat} {caps : List PV} {xs : List (List PV)} (hg : st.pvOf g = some (.func f caps)) (hi : iter env f caps none = some xs)
    (hr : rounds (den env) (st.slots.map AV.froze) ps assign body st.boxes.length 0 xs { st with slots := st.slots.map AV.froze } = some (none, st1)) : den env (.rng g ps assign body) st = some (.normal, { st1 with slots := st.slots.map AV.froze }) := by
  rw [den_eq]
  show ranged (den env) env g ps assign body st = _
  unfold ranged
  rw [hg]
  unfold iter at hi
  simp only [z_bind_eq, Option.bind_some, hi, hr]
theorem rng_out {g : Opd} {ps : List Nat} {assign body : VCode} {st st1 : St} {f : Nat} {caps : List PV} {xs : List (List PV)} {e : Ex} {k : Nat} (hg : st.pvOf g = some (.func f caps)) (hi : iter env f caps none = some xs)
    (hr : rounds (den env) (st.slots.map AV.froze) ps assign body st.boxes.length 0 xs { st with slots := st.slots.map AV.froze } = some (some (e, k), st1)) (hi2 : iter env f caps (some k) = some (xs.take k)) : den env (.rng g ps assign body) st = some (e, { st1 with slots := st.slots.map AV.froze }) := by
  obtain ⟨h1, h2, h3⟩ := rounds_take hr
  rw [den_eq]
  show ranged (den env) env g ps assign body st = _
  unfold ranged
  rw [hg]
  unfold iter at hi hi2
  simp only [Nat.sub_zero] at h3
  have hl : (xs.take k).length = k := by rw [List.length_take]; omega
  simp only [z_bind_eq, Option.bind_some, hi, hr, hi2, h3, hl, and_self, if_true]
def scanR {β : Type} (f : β → List PV → β ⊕ (Ex × St)) : List (List PV) → β → β ⊕ (Ex × St)
  | [], b => .inl b
  | x :: xs, b => match f b x with
    | .inl b => scanR f xs b
    | .inr r => .inr r
theorem rng_scan {β : Type} (B : β → List Box) (F : β → List PV → β ⊕ (Ex × St)) (Pr : β → Prop) (b0 : β) {g : Opd} {ps : List Nat} {assign body : VCode} {st : St} {f : Nat} {caps : List PV} {xs : List (List PV)} (hg : st.pvOf g = some (.func f caps)) (hi : iter env f caps none = some xs)
    (hi2 : ∀ k, 1 ≤ k → k ≤ xs.length → iter env f caps (some k) = some (xs.take k)) (hB : st.boxes = B b0) (hP : Pr b0)
    (h : ∀ b x, Pr b → x ∈ xs → ∀ sl0, match F b x with
      | .inl b' => Pr b' ∧ ∃ sl1, round1 env (st.slots.map AV.froze) ps assign body st.boxes.length x ⟨sl0, B b, st.ys, st.stop⟩ = some (.normal, ⟨sl1, B b', st.ys, st.stop⟩)
      | .inr (e, s) => e ≠ .normal ∧ ∃ sl1, round1 env (st.slots.map AV.froze) ps assign body st.boxes.length x ⟨sl0, B b, st.ys, st.stop⟩ = some (e, { s with slots := sl1 })) :
    den env (.rng g ps assign body) st = match scanR F xs b0 with
      | .inl b => some (.normal, ⟨st.slots.map AV.froze, B b, st.ys, st.stop⟩)
      | .inr (e, s) => some (e, { s with slots := st.slots.map AV.froze }) := by
  have key : ∀ (l : List (List PV)), (∀ x ∈ l, x ∈ xs) → ∀ (b : β), Pr b → ∀ (k : Nat) (sl0 : List AV), match scanR F l b with
      | .inl b' => ∃ sl1, rounds (den env) (st.slots.map AV.froze) ps assign body st.boxes.length k l ⟨sl0, B b, st.ys, st.stop⟩ = some (none, ⟨sl1, B b', st.ys, st.stop⟩)
      | .inr (e, s) => ∃ sl1 m, rounds (den env) (st.slots.map AV.froze) ps assign body st.boxes.length k l ⟨sl0, B b, st.ys, st.stop⟩ = some (some (e, m), { s with slots := sl1 }) := by
    intro l
    induction l with
    | nil => intro _ b _ k sl0; exact ⟨sl0, rfl⟩
    | cons x l ih =>
      intro hl b hb k sl0
      have h1 := h b x hb (hl x (by simp)) sl0
      unfold scanR
      cases hF : F b x with
      | inl b' =>
        rw [hF] at h1
        obtain ⟨q1, sl1, q2⟩ := h1
        have h2 := ih (fun y hy => hl y (by simp [hy])) b' q1 (k + 1) sl1
        simp only
        rw [rounds_cons, q2]
        exact h2
      | inr r =>
        obtain ⟨e, s⟩ := r
        rw [hF] at h1
        obtain ⟨q1, sl1, q2⟩ := h1
        simp only
        rw [rounds_cons, q2]
        cases e with
        | normal => exact absurd rfl q1
        | exit i => exact ⟨sl1, k + 1, rfl⟩
        | ret => exact ⟨sl1, k + 1, rfl⟩
  have h0 := key xs (fun x hx => hx) b0 hP 0 (st.slots.map AV.froze)
  rw [← hB] at h0
  cases hs : scanR F xs b0 with
  | inl b =>
    rw [hs] at h0
    obtain ⟨sl1, h0⟩ := h0
    have r := rng_all hg hi h0
    exact r
  | inr r =>
    obtain ⟨e, s⟩ := r
    rw [hs] at h0
    obtain ⟨sl1, m, h0⟩ := h0
    obtain ⟨q1, q2, _⟩ := rounds_take h0
    have r := rng_out hg hi h0 (hi2 m (by omega) (by omega))
    exact r
theorem rng_fold {β : Type} (B : β → List Box) (F : β → List PV → β) (Pr : β → Prop) (b0 : β) {g : Opd} {ps : List Nat} {assign body : VCode} {st : St} {f : Nat} {caps : List PV} {xs : List (List PV)} (hg : st.pvOf g = some (.func f caps)) (hi : iter env f caps none = some xs)
    (hB : st.boxes = B b0) (hP : Pr b0)
    (h : ∀ b x, Pr b → x ∈ xs → ∀ sl0, Pr (F b x) ∧ ∃ sl1, round1 env (st.slots.map AV.froze) ps assign body st.boxes.length x ⟨sl0, B b, st.ys, st.stop⟩ = some (.normal, ⟨sl1, B (F b x), st.ys, st.stop⟩)) :
    den env (.rng g ps assign body) st = some (.normal, ⟨st.slots.map AV.froze, B (xs.foldl F b0), st.ys, st.stop⟩) := by
  have key : ∀ (l : List (List PV)), (∀ x ∈ l, x ∈ xs) → ∀ (b : β), Pr b → ∀ (k : Nat) (sl0 : List AV), ∃ sl1, rounds (den env) (st.slots.map AV.froze) ps assign body st.boxes.length k l ⟨sl0, B b, st.ys, st.stop⟩ = some (none, ⟨sl1, B (l.foldl F b), st.ys, st.stop⟩) := by
    intro l
    induction l with
    | nil => intro _ b _ k sl0; exact ⟨sl0, rfl⟩
    | cons x l ih =>
      intro hl b hb k sl0
      obtain ⟨q1, sl1, q2⟩ := h b x hb (hl x (by simp)) sl0
      obtain ⟨sl2, h2⟩ := ih (fun y hy => hl y (by simp [hy])) _ q1 (k + 1) sl1
      refine ⟨sl2, ?_⟩
      rw [rounds_cons, q2]
      exact h2
  obtain ⟨sl1, h0⟩ := key xs (fun x hx => hx) b0 hP 0 (st.slots.map AV.froze)
  rw [← hB] at h0
  have r := rng_all hg hi h0
  exact r
theorem rng_idx (B : Nat → List Box) {g : Opd} {ps : List Nat} {assign body : VCode} {st : St} {f : Nat} {caps : List PV} {xs : List (List PV)} (hg : st.pvOf g = some (.func f caps)) (hi : iter env f caps none = some xs) (hB : st.boxes = B 0)
    (h : ∀ j x, xs[j]? = some x → ∀ sl0, ∃ sl1, round1 env (st.slots.map AV.froze) ps assign body st.boxes.length x ⟨sl0, B j, st.ys, st.stop⟩ = some (.normal, ⟨sl1, B (j + 1), st.ys, st.stop⟩)) :
    den env (.rng g ps assign body) st = some (.normal, ⟨st.slots.map AV.froze, B xs.length, st.ys, st.stop⟩) := by
  have key : ∀ (l : List (List PV)) (j : Nat), xs.drop j = l → ∀ (k : Nat) (sl0 : List AV), ∃ sl1, rounds (den env) (st.slots.map AV.froze) ps assign body st.boxes.length k l ⟨sl0, B j, st.ys, st.stop⟩ = some (none, ⟨sl1, B (j + l.length), st.ys, st.stop⟩) := by
    intro l
    induction l with
    | nil => intro j _ k sl0; exact ⟨sl0, rfl⟩
    | cons x l ih =>
      intro j hj k sl0
      have hx : xs[j]? = some x := by rw [← List.head?_drop, hj]; rfl
      have hd : xs.drop (j + 1) = l := by rw [← List.drop_drop, hj]; rfl
      obtain ⟨sl1, q⟩ := h j x hx sl0
      obtain ⟨sl2, q2⟩ := ih (j + 1) hd (k + 1) sl1
      refine ⟨sl2, ?_⟩
      rw [rounds_cons, q]
      simp only [Option.bind_some, q2, List.length_cons]
      rw [show j + 1 + l.length = j + (l.length + 1) by omega]
  obtain ⟨sl1, q⟩ := key xs 0 (by simp) 0 (st.slots.map AV.froze)
  rw [← hB, Nat.zero_add] at q
  have r := rng_all hg hi q
  exact r
theorem rng_idx_out (B : Nat → List Box) (m : Nat) {g : Opd} {ps : List Nat} {assign body : VCode} {st s : St} {e : Ex} {f : Nat} {caps : List PV} {xs : List (List PV)} (hg : st.pvOf g = some (.func f caps)) (hi : iter env f caps none = some xs) (hi2 : iter env f caps (some (m + 1)) = some (xs.take (m + 1))) (hB : st.boxes = B 0) (hm : m < xs.length)
    (h : ∀ j x, j < m → xs[j]? = some x → ∀ sl0, ∃ sl1, round1 env (st.slots.map AV.froze) ps assign body st.boxes.length x ⟨sl0, B j, st.ys, st.stop⟩ = some (.normal, ⟨sl1, B (j + 1), st.ys, st.stop⟩))
    (he : e ≠ .normal) (hl : ∀ x, xs[m]? = some x → ∀ sl0, ∃ sl1, round1 env (st.slots.map AV.froze) ps assign body st.boxes.length x ⟨sl0, B m, st.ys, st.stop⟩ = some (e, { s with slots := sl1 })) :
    den env (.rng g ps assign body) st = some (e, { s with slots := st.slots.map AV.froze }) := by
  have key : ∀ (d j : Nat), j + d = m → ∀ (k : Nat) (sl0 : List AV), ∃ sl1, rounds (den env) (st.slots.map AV.froze) ps assign body st.boxes.length k (xs.drop j) ⟨sl0, B j, st.ys, st.stop⟩ = some (some (e, k + d + 1), { s with slots := sl1 }) := by
    intro d
    induction d with
    | zero =>
      intro j hj k sl0
      obtain rfl : j = m := by omega
      rw [List.drop_eq_getElem_cons hm]
      obtain ⟨sl1, q⟩ := hl _ (List.getElem?_eq_getElem hm) sl0
      refine ⟨sl1, ?_⟩
      rw [rounds_cons, q]
      cases e with
      | normal => exact absurd rfl he
      | exit i => rfl
      | ret => rfl
    | succ d ih =>
      intro j hj k sl0
      have hj' : j < xs.length := by omega
      rw [List.drop_eq_getElem_cons hj']
      obtain ⟨sl1, q⟩ := h j _ (by omega) (List.getElem?_eq_getElem hj') sl0
      obtain ⟨sl2, q2⟩ := ih (j + 1) (by omega) (k + 1) sl1
      refine ⟨sl2, ?_⟩
      rw [rounds_cons, q]
      simp only [Option.bind_some, q2]
      rw [show k + 1 + d + 1 = k + (d + 1) + 1 by omega]
  obtain ⟨sl1, q⟩ := key m 0 (by omega) 0 (st.slots.map AV.froze)
  rw [List.drop_zero, ← hB, Nat.zero_add] at q
  have r := rng_out hg hi q hi2
  exact r
theorem clean_upP {keep post : List Nat} {id nb : Nat} {b : VCode} (n : Nat) (P : Nat → Prop) (S : Nat → St) (R : Nat → Option (Ex × St)) {st : St} (h : st.head keep st.boxes.length = some (S 0)) (hP : P 0) (hS : ∀ i, (S i).boxes.length = nb) (hh : ∀ i, (S i).head keep nb = some (S i))
    (step : ∀ i rb, i < n → P i → (P (i + 1) → ∀ s, s.head keep nb = some (S (i + 1)) → tailOf env id post nb (den env rb s) = R (i + 1)) → tailOf env id post nb ((den env b (S i)).bind (next env rb)) = R i)
    (last : ∀ rb, P n → tailOf env id post nb ((den env b (S n)).bind (next env rb)) = R n) :
    den env (.clean keep post (.block id (.loop keep b))) st = R 0 := by
  refine clean_rec S R (fun i => i ≤ n ∧ P i) (fun i => n - i) 0 h ⟨Nat.zero_le _, hP⟩ hS hh fun i rb hi ih => ?_
  by_cases hn : i = n
  · subst hn; exact last rb hi.2
  · exact step i rb (by omega) hi.2 fun hp s hs => ih (i + 1) (by omega) ⟨by omega, hp⟩ s hs
noncomputable def rassign (env : Env) (body : VCode) (nb : Nat) : Ex × St → Option (Ex × St)
  | (.normal, st) => (den env body st).bind fun p => match p with
    | (.normal, st) => if nb ≤ st.boxes.length then some (.normal, { st with boxes := st.boxes.take nb }) else none
    | p => some p
  | _ => none
def rend (nb : Nat) : Ex × St → Option (Ex × St)
  | (.normal, st) => if nb ≤ st.boxes.length then some (.normal, { st with boxes := st.boxes.take nb }) else none
  | p => some p
theorem round1_eq (slots : List AV) (ps : List Nat) (assign body : VCode) (nb : Nat) (x : List PV) (st : St) : round1 env slots ps assign body nb x st = (setParams slots ps x).bind fun sl => (den env assign { st with slots := sl }).bind (rassign env body nb) := by
  unfold round1
  rfl
theorem rassign_normal (body : VCode) (nb : Nat) (st : St) : rassign env body nb (.normal, st) = (den env body st).bind (rend nb) := by
  rfl
theorem rend_normal (nb : Nat) (st : St) : rend nb (.normal, st) = if nb ≤ st.boxes.length then some (.normal, { st with boxes := st.boxes.take nb }) else none := (rfl)
theorem rend_exit (nb i : Nat) (st : St) : rend nb (.exit i, st) = some (.exit i, st) := (rfl)
theorem rend_ret (nb : Nat) (st : St) : rend nb (.ret, st) = some (.ret, st) := (rfl)
theorem setP_nil (slots : List AV) : setParams slots [] [] = some slots := (rfl)
theorem setP_cons (slots : List AV) (p : Nat) (ps : List Nat) (v : PV) (vs : List PV) : setParams slots (p :: ps) (v :: vs) = setParams (slots.set p (.pv v)) ps vs := (rfl)
theorem froze_pv (v : PV) : AV.froze (.pv v) = .pv v := (rfl)
theorem froze_row (sz : Nat) (es : List PV) : AV.froze (.row sz es) = .pv (.list sz es) := (rfl)
theorem froze_any : AV.froze .any = .any := (rfl)
theorem froze_tup (l : List AV) : AV.froze (.tup l) = .any := (rfl)
theorem froze_ref (r : Root) (i j : Nat) : AV.froze (.ref r i j) = .any := (rfl)
theorem froze_pel (r : Root) (i j : Nat) : AV.froze (.pel r i j) = .any := (rfl)
theorem froze_pbox (i j : Nat) : AV.froze (.pbox i j) = .pbox i j := (rfl)
theorem froze_fn (f : Nat) (l : List AV) : AV.froze (.fn f l) = .fn f l := (rfl)
theorem froze_yld : AV.froze .yld = .yld := (rfl)
end
def vRng := And.intro @round1_eq (And.intro @rassign_normal (And.intro @rend_normal (And.intro @rend_exit (And.intro @rend_ret (And.intro @setP_nil (And.intro @setP_cons (And.intro @froze_pv (And.intro @froze_row (And.intro @froze_any (And.intro @froze_tup (And.intro @froze_ref (And.intro @froze_pel (And.intro @froze_pbox (And.intro @froze_fn (And.intro @froze_yld (And.intro @yfin_normal @yfin_ret))))))))))))))))
end Go.Proofs.Ytldmhbkfblbhaaa

namespace Go.Proofs.Ytldmhbkfblbhaaa.V
set_option linter.all false

def dif (a b : List Sec) (i : Nat) : Bool := decide (a[i]? ≠ b[i]?)
def difN (a b : List Sec) (n : Nat) : List Nat := (List.range n).filter (dif a b)
def difs (a b : List Sec) : List Nat := difN a b a.length
def addAt (out : List Exn) (i : Nat) : List Exn := match out.getLast? with
  | some x => if x.start + x.count = (i : Int) then out.dropLast ++ [⟨x.start, x.count + 1⟩] else out ++ [⟨i, 1⟩]
  | none => [⟨i, 1⟩]
def exts (l : List Nat) : List Exn := l.foldl addAt []
def volDiff (a b : List Sec) : List Exn := exts (difs a b)
theorem difN_succ (a b : List Sec) (n : Nat) : difN a b (n + 1) = if dif a b n then difN a b n ++ [n] else difN a b n := by
  simp only [difN, List.range_succ, List.filter_append, List.filter_cons, List.filter_nil]
  cases dif a b n <;> simp
theorem addAt_snoc (pre : List Exn) (x : Exn) (i : Nat) : addAt (pre ++ [x]) i = if x.start + x.count = (i : Int) then pre ++ [⟨x.start, x.count + 1⟩] else pre ++ [x] ++ [⟨i, 1⟩] := by
  simp [addAt]
theorem exts_snoc (l : List Nat) (i : Nat) : exts (l ++ [i]) = addAt (exts l) i := by simp [exts]
theorem snoc_cases {α : Type} (l : List α) : l = [] ∨ ∃ p x, l = p ++ [x] := by
  rcases List.eq_nil_or_concat l with h | ⟨p, x, h⟩
  · exact .inl h
  · exact .inr ⟨p, x, by rw [h]; simp⟩
theorem exts_last : ∀ (n : Nat) (l : List Nat), l.length = n → ∀ i : Nat, ∃ pre x, exts (l ++ [i]) = pre ++ [x] ∧ x.start + x.count = (i : Int) + 1 ∧ 0 ≤ x.start ∧ 1 ≤ x.count ∧ pre.length ≤ l.length := by
  intro n
  induction n with
  | zero =>
    intro l hl i
    have := List.eq_nil_of_length_eq_zero hl
    subst this
    exact ⟨[], ⟨i, 1⟩, rfl, rfl, by simp, by simp, by simp⟩
  | succ n ih =>
    intro l hl i
    rcases snoc_cases l with rfl | ⟨p, j, rfl⟩
    · simp at hl
    · obtain ⟨pre, x, e, h1, h2, h3, h4⟩ := ih p (by simpa using hl) j
      rw [exts_snoc, e, addAt_snoc]
      split
      · rename_i hx
        exact ⟨pre, _, rfl, by simp; omega, h2, by simp; omega, by simp; omega⟩
      · exact ⟨pre ++ [x], _, rfl, by simp, by simp, by simp, by simp; omega⟩
theorem difN_lt {a b : List Sec} {n i : Nat} (h : i ∈ difN a b n) : i < n := by
  simp [difN] at h; exact h.1
theorem difN_len (a b : List Sec) (n : Nat) : (difN a b n).length ≤ n := by
  have := List.length_filter_le (dif a b) (List.range n); simpa [difN] using this
theorem wrap_pred {n : Nat} (h : n ≤ lim) : IntKind.i64.wrap (((n + 1 : Nat) : Int) - 1) = (n : Int) := by
  rw [i64_fits (by unfold lim at h; omega)]; omega
def yI (l : List Nat) : List (List PV) := l.map fun (i : Nat) => [PV.int .i64 (i : Int)]
theorem yI_snoc (l : List Nat) (i : Nat) : yI (l ++ [i]) = yI l ++ [[.int .i64 (i : Int)]] := by simp [yI]
def endOf (l : List Nat) : Int := match l.getLast? with
  | some i => i + 1
  | none => -1
theorem endOf_snoc (l : List Nat) (i : Nat) : endOf (l ++ [i]) = (i : Int) + 1 := by simp [endOf]
theorem sorted_take {a b : List Sec} {j : Nat} {i : Nat} (h : (difs a b)[j]? = some i) : i < a.length ∧ j ≤ i ∧ ∀ k ∈ (difs a b).take j, k < i := by
  have hs : (difs a b).Pairwise (· < ·) := (List.pairwise_lt_range (n := a.length)).filter _
  obtain ⟨hj, rfl⟩ := List.getElem?_eq_some_iff.1 h
  refine ⟨difN_lt (List.getElem_mem hj), ?_, ?_⟩
  · have : ∀ (l : List Nat), l.Pairwise (· < ·) → ∀ (j : Nat) (hj : j < l.length), j ≤ l[j] := by
      intro l
      induction l with
      | nil => intro _ j hj; simp at hj
      | cons x l ih =>
        intro hp j hj
        cases j with
        | zero => simp
        | succ j =>
          have h1 := ih (List.pairwise_cons.1 hp).2
          simp only [List.length_cons, Nat.add_lt_add_iff_right] at hj
          simp only [List.getElem_cons_succ]
          cases j with
          | zero => have := (List.pairwise_cons.1 hp).1 l[0] (List.getElem_mem hj); omega
          | succ j =>
            have h2 := h1 (j + 1) hj
            have h3 : ∀ (m : Nat) (hm : m < l.length), x + m + 1 ≤ l[m] := by
              intro m
              induction m with
              | zero => intro hm; have := (List.pairwise_cons.1 hp).1 l[0] (List.getElem_mem hm); omega
              | succ m ihm =>
                intro hm
                have := ihm (by omega)
                have h4 := List.pairwise_iff_getElem.1 (List.pairwise_cons.1 hp).2 m (m + 1) (by omega) hm (by omega)
                omega
            have := h3 (j + 1) hj
            omega
    exact this _ hs j hj
  · intro k hk
    obtain ⟨m, hm, rfl⟩ := List.mem_iff_getElem.1 hk
    rw [List.getElem_take]
    simp only [List.length_take] at hm
    exact List.pairwise_iff_getElem.1 hs m j (by omega) hj (by omega)
end Go.Proofs.Ytldmhbkfblbhaaa.V

namespace Go.Proofs.Ytldmhbkfblbhaaa.V
set_option linter.all false
def ext (p : Nat → Bool) (n : Nat) : List Exn := exts ((List.range n).filter p)
theorem ext_zero (p : Nat → Bool) : ext p 0 = [] := rfl
theorem ext_succ (p : Nat → Bool) (n : Nat) : ext p (n + 1) = if p n then addAt (ext p n) n else ext p n := by
  unfold ext
  rw [List.range_succ, List.filter_append]
  cases h : p n
  · simp [h]
  · rw [List.filter_cons_of_pos h, List.filter_nil, exts_snoc]; rfl
theorem ext_new {p : Nat → Bool} {n : Nat} (h : n = 0 ∨ p (n - 1) = false) : addAt (ext p n) n = ext p n ++ [⟨(n : Int), 1⟩] := by
  unfold ext
  rcases snoc_cases ((List.range n).filter p) with h0 | ⟨l, j, h0⟩
  · rw [h0]; rfl
  · obtain ⟨pre, ⟨s, c⟩, e0, h1, h2, h3, h4⟩ := exts_last _ l rfl j
    have hmem : j ∈ (List.range n).filter p := by rw [h0]; simp
    obtain ⟨q1, q2⟩ := List.mem_filter.1 hmem
    have hj := List.mem_range.1 q1
    simp only at h1
    rw [h0, e0, addAt_snoc, if_neg]
    intro hh
    simp only at hh
    have : j = n - 1 := by omega
    rcases h with h | h
    · omega
    · rw [← this, q2] at h; cases h
theorem ext_false {p : Nat → Bool} {a : Nat} : ∀ k, (∀ s, a ≤ s → s < a + k → p s = false) → ext p (a + k) = ext p a
  | 0, _ => rfl
  | k + 1, h => by
    rw [← Nat.add_assoc, ext_succ, h (a + k) (by omega) (by omega), if_neg (by simp)]
    exact ext_false k fun s h1 h2 => h s h1 (by omega)
theorem ext_true {p : Nat → Bool} {a : Nat} {pre : List Exn} {s0 : Int} (h0 : ext p a = pre ++ [⟨s0, a - s0⟩]) : ∀ k, (∀ s, a ≤ s → s < a + k → p s = true) → ext p (a + k) = pre ++ [⟨s0, ((a + k : Nat) : Int) - s0⟩]
  | 0, _ => h0
  | k + 1, h => by
    rw [← Nat.add_assoc, ext_succ, h (a + k) (by omega) (by omega), if_pos rfl, ext_true h0 k fun s h1 h2 => h s h1 (by omega), addAt_snoc, if_pos (by simp only; omega)]
    congr 2
    simp only [Exn.mk.injEq, true_and]
    omega
theorem ext_begin {p : Nat → Bool} {a k : Nat} (hn : a = 0 ∨ p (a - 1) = false) (h : ∀ s, a ≤ s → s < a + (k + 1) → p s = true) : ext p (a + (k + 1)) = ext p a ++ [⟨(a : Int), ((a + (k + 1) : Nat) : Int) - a⟩] := by
  have h1 : ext p (a + 1) = ext p a ++ [⟨(a : Int), ((a + 1 : Nat) : Int) - a⟩] := by
    rw [ext_succ, h a (Nat.le_refl _) (by omega), if_pos rfl, ext_new hn]
    congr 2
    simp only [Exn.mk.injEq, true_and]
    omega
  have := ext_true (a := a + 1) h1 k fun s h2 h3 => h s (by omega) (by omega)
  rw [show a + (k + 1) = a + 1 + k by omega]
  exact this
theorem ext_congr {p q : Nat → Bool} {n : Nat} (h : ∀ s, s < n → p s = q s) : ext p n = ext q n := by
  unfold ext
  rw [List.filter_congr fun s hs => h s (List.mem_range.1 hs)]
def dep (i : Nat) (s : Nat) : List End → Int
  | [] => 0
  | x :: l => (if x.list = i ∧ x.pos ≤ s then x.step else 0) + dep i s l
def tot (i : Nat) : List End → Int
  | [] => 0
  | x :: l => (if x.list = i then x.step else 0) + tot i l
theorem dep_app (i s : Nat) : ∀ l m : List End, dep i s (l ++ m) = dep i s l + dep i s m
  | [], m => by simp [dep]
  | x :: l, m => by simp only [List.cons_append, dep, dep_app i s l m]; omega
theorem dep_all {i s : Nat} : ∀ {l : List End}, (∀ x ∈ l, x.pos ≤ s) → dep i s l = tot i l
  | [], _ => rfl
  | x :: l, h => by
    have h1 := h x (by simp)
    have ih := dep_all (i := i) (s := s) (l := l) fun y hy => h y (by simp [hy])
    simp only [dep, tot, ih, h1, and_true]
theorem dep_none {i s : Nat} : ∀ {l : List End}, (∀ x ∈ l, s < x.pos) → dep i s l = 0
  | [], _ => rfl
  | x :: l, h => by
    have h1 := h x (by simp)
    have ih := dep_none (i := i) (s := s) (l := l) fun y hy => h y (by simp [hy])
    simp only [dep, ih]
    rw [if_neg (by omega)]; rfl
theorem tot_app (i : Nat) : ∀ l m : List End, tot i (l ++ m) = tot i l + tot i m
  | [], m => by simp [tot]
  | x :: l, m => by simp only [List.cons_append, tot, tot_app i l m]; omega
def keepOf (keep : Bool → Bool → Bool) (l : List End) (s : Nat) : Bool := keep (decide (dep 0 s l > 0)) (decide (dep 1 s l > 0))
def nextSame (x : End) : List End → Bool
  | [] => false
  | y :: _ => decide (y.pos = x.pos)
def swGo (keep : Bool → Bool → Bool) : List End → Int → Int → Int → Bool → List Exn
  | [], _, _, _, _ => []
  | x :: l, d0, d1, st, ins =>
    if nextSame x l then swGo keep l (if x.list = 0 then d0 + x.step else d0) (if x.list = 1 then d1 + x.step else d1) st ins
    else
      (if !keep (decide ((if x.list = 0 then d0 + x.step else d0) > 0)) (decide ((if x.list = 1 then d1 + x.step else d1) > 0)) && ins then [⟨st, x.pos - st⟩] else []) ++
      swGo keep l (if x.list = 0 then d0 + x.step else d0) (if x.list = 1 then d1 + x.step else d1)
        (if keep (decide ((if x.list = 0 then d0 + x.step else d0) > 0)) (decide ((if x.list = 1 then d1 + x.step else d1) > 0)) && !ins then x.pos else st)
        (keep (decide ((if x.list = 0 then d0 + x.step else d0) > 0)) (decide ((if x.list = 1 then d1 + x.step else d1) > 0)))
def Asc : List End → Prop
  | [] => True
  | [_] => True
  | x :: y :: l => x.pos ≤ y.pos ∧ Asc (y :: l)
theorem Asc.tail {x : End} {l : List End} (h : Asc (x :: l)) : Asc l := by
  cases l with
  | nil => trivial
  | cons y l => exact h.2
theorem Asc.le {x : End} : ∀ {l : List End}, Asc (x :: l) → ∀ y ∈ l, x.pos ≤ y.pos
  | [], _, y, hy => by cases hy
  | z :: l, h, y, hy => by
    rcases List.mem_cons.1 hy with rfl | hy
    · exact h.1
    · exact Nat.le_trans h.1 (Asc.le h.2 y hy)
def atStart (N : Nat) : List End → Nat → Prop
  | [], a => a = N
  | x :: _, a => a = x.pos
theorem swGo_ok {keep : Bool → Bool → Bool} (hk : keep false false = false) {L : List End} {N : Nat} (hN : ∀ x ∈ L, x.pos ≤ N) (h0 : tot 0 L = 0) (h1 : tot 1 L = 0) :
    ∀ (R P : List End) (out : List Exn) (st : Int) (ins : Bool) (a : Nat), L = P ++ R → Asc R → (∀ x ∈ P, ∀ y ∈ R, x.pos ≤ y.pos) → (∀ x ∈ P, x.pos ≤ a) →
      atStart N R a → ext (keepOf keep L) a = out ++ (if ins then [⟨st, a - st⟩] else []) → (a = 0 ∨ ins = true ∨ keepOf keep L (a - 1) = false) → (R = [] → ins = false) → (a = 0 → ins = false) →
      ext (keepOf keep L) N = out ++ swGo keep R (tot 0 P) (tot 1 P) st ins
  | [], P, out, st, ins, a, hL, _, _, _, ha, he, hi, hr, _ => by
    have ha : a = N := ha
    rw [hr rfl] at he
    rw [ha] at he
    simpa [swGo] using he
  | x :: l, P, out, st, ins, a, hL, hs, hP, hPa, ha, he, hi, _, hz => by
    have ha : a = x.pos := ha
    subst ha
    have hL2 : L = (P ++ [x]) ++ l := by rw [hL]; simp
    have t0 : tot 0 (P ++ [x]) = (if x.list = 0 then tot 0 P + x.step else tot 0 P) := by
      rw [tot_app]; simp only [tot]; split <;> omega
    have t1 : tot 1 (P ++ [x]) = (if x.list = 1 then tot 1 P + x.step else tot 1 P) := by
      rw [tot_app]; simp only [tot]; split <;> omega
    have hP2 : ∀ z ∈ P ++ [x], ∀ y ∈ l, z.pos ≤ y.pos := by
      intro z hz y hy
      rcases List.mem_append.1 hz with hz | hz
      · exact hP z hz y (by simp [hy])
      · simp only [List.mem_singleton] at hz; rw [hz]; exact hs.le y hy
    have hPx : ∀ z ∈ P ++ [x], z.pos ≤ x.pos := by
      intro z hz
      rcases List.mem_append.1 hz with hz | hz
      · exact hP z hz x (by simp)
      · simp only [List.mem_singleton] at hz; rw [hz]; exact Nat.le_refl _
    unfold swGo
    rw [← t0, ← t1]
    by_cases hn : nextSame x l = true
    · rw [if_pos hn]
      cases l with
      | nil => simp [nextSame] at hn
      | cons y l =>
        have hy : y.pos = x.pos := by simpa [nextSame] using hn
        exact swGo_ok hk hN h0 h1 (y :: l) (P ++ [x]) out st ins x.pos hL2 hs.tail hP2 hPx hy.symm he hi (fun e => by cases e) hz
    · rw [if_neg hn]
      -- the next place
      obtain ⟨b, hb, hbl, hbx, hbm⟩ : ∃ b, x.pos ≤ b ∧ (∀ y ∈ l, b ≤ y.pos) ∧ (l ≠ [] → x.pos < b) ∧ atStart N l b := by
        cases l with
        | nil => exact ⟨N, hN x (by rw [hL]; simp), fun y hy => (by cases hy), fun h => absurd rfl h, rfl⟩
        | cons y l =>
          have hy : y.pos ≠ x.pos := by simpa [nextSame] using hn
          have := hs.1
          exact ⟨y.pos, hs.1, fun z hz => by
            rcases List.mem_cons.1 hz with rfl | hz
            · exact Nat.le_refl _
            · exact hs.tail.le z hz, fun _ => by omega, rfl⟩
      have hconst : ∀ s, x.pos ≤ s → s < b → keepOf keep L s = keep (decide (tot 0 (P ++ [x]) > 0)) (decide (tot 1 (P ++ [x]) > 0)) := by
        intro s hs1 hs2
        unfold keepOf
        have e : ∀ i, dep i s L = tot i (P ++ [x]) := by
          intro i
          rw [hL2, dep_app, dep_all (fun z hz => by have := hPx z hz; omega), dep_none (fun z hz => by have := hbl z hz; omega)]
          omega
        rw [e 0, e 1]
      have hlast : l = [] → keep (decide (tot 0 (P ++ [x]) > 0)) (decide (tot 1 (P ++ [x]) > 0)) = false := by
        intro hl
        have e0 : tot 0 (P ++ [x]) = 0 := by rw [← h0, hL2, hl, List.append_nil]
        have e1 : tot 1 (P ++ [x]) = 0 := by rw [← h1, hL2, hl, List.append_nil]
        rw [e0, e1]
        exact hk
      have hPb : ∀ z ∈ P ++ [x], z.pos ≤ b := fun z hz => Nat.le_trans (hPx z hz) hb
      obtain ⟨k, rfl⟩ : ∃ k, b = x.pos + k := ⟨b - x.pos, by omega⟩
      generalize keep (decide (tot 0 (P ++ [x]) > 0)) (decide (tot 1 (P ++ [x]) > 0)) = now at *
      have hprev : k ≠ 0 → keepOf keep L (x.pos + k - 1) = now := fun hk0 => hconst _ (by omega) (by omega)
      cases now with
      | false =>
        have hf := ext_false (p := keepOf keep L) (a := x.pos) k fun s q1 q2 => hconst s q1 q2
        cases ins with
        | false =>
          simp only [Bool.not_false, Bool.and_false, Bool.false_eq_true, if_false, List.nil_append, Bool.and_true, Bool.false_and, List.append_nil, if_true] at he ⊢
          refine swGo_ok hk hN h0 h1 l (P ++ [x]) out _ false (x.pos + k) hL2 hs.tail hP2 hPb hbm ?_ ?_ (fun _ => rfl) (fun _ => rfl)
          · rw [hf, he]; simp
          · by_cases hk0 : k = 0
            · subst hk0
              rcases hi with hi | hi | hi
              · exact .inl hi
              · cases hi
              · exact .inr (.inr hi)
            · exact .inr (.inr (hprev hk0))
        | true =>
          simp only [Bool.not_false, Bool.and_self, if_true, Bool.not_true, Bool.and_false, Bool.false_and, Bool.false_eq_true, if_false] at he ⊢
          rw [← List.append_assoc]
          by_cases hk0 : k = 0
          · subst hk0
            have hl : l = [] := by
              cases l with
              | nil => rfl
              | cons y l => have := hbx (by simp); omega
            subst hl
            have hb2 : x.pos + 0 = N := hbm
            simp only [swGo, List.append_nil]
            rw [← hb2]
            exact he
          · refine swGo_ok hk hN h0 h1 l (P ++ [x]) _ _ false (x.pos + k) hL2 hs.tail hP2 hPb hbm ?_ (.inr (.inr (hprev hk0))) (fun _ => rfl) (fun _ => rfl)
            rw [hf, he]; simp
      | true =>
        have hl : l ≠ [] := fun e => by have := hlast e; cases this
        have hk1 := hbx hl
        obtain ⟨j, rfl⟩ : ∃ j, k = j + 1 := ⟨k - 1, by omega⟩
        cases ins with
        | false =>
          simp only [Bool.not_true, Bool.false_and, Bool.false_eq_true, if_false, List.nil_append, Bool.not_false, Bool.and_self, if_true, List.append_nil] at he ⊢
          refine swGo_ok hk hN h0 h1 l (P ++ [x]) out _ true (x.pos + (j + 1)) hL2 hs.tail hP2 hPb hbm ?_ (.inr (.inl rfl)) (fun e => absurd e hl) (fun e => by omega)
          have hi2 : x.pos = 0 ∨ keepOf keep L (x.pos - 1) = false := by
            rcases hi with hi | hi | hi
            · exact .inl hi
            · cases hi
            · exact .inr hi
          rw [ext_begin hi2 fun s q1 q2 => hconst s q1 q2, he]
          simp
        | true =>
          simp only [Bool.not_true, Bool.false_and, Bool.false_eq_true, if_false, List.nil_append, Bool.and_false, if_true] at he ⊢
          refine swGo_ok hk hN h0 h1 l (P ++ [x]) out st true (x.pos + (j + 1)) hL2 hs.tail hP2 hPb hbm ?_ (.inr (.inl rfl)) (fun e => absurd e hl) (fun e => by omega)
          rw [ext_true he (j + 1) fun s q1 q2 => hconst s q1 q2]
          simp
theorem sweep_ok {keep : Bool → Bool → Bool} (hk : keep false false = false) {L : List End} {N : Nat} (hs : Asc L) (hN : ∀ x ∈ L, x.pos ≤ N) (h0 : tot 0 L = 0) (h1 : tot 1 L = 0) :
    swGo keep L 0 0 0 false = ext (keepOf keep L) N := by
  cases L with
  | nil =>
    have : ext (keepOf keep ([] : List End)) (0 + N) = ext (keepOf keep []) 0 := ext_false N fun s _ _ => hk
    rw [Nat.zero_add] at this
    rw [this]; rfl
  | cons x l =>
    have hb : ext (keepOf keep (x :: l)) (0 + x.pos) = ext (keepOf keep (x :: l)) 0 := ext_false x.pos fun s _ h2 => by
      unfold keepOf
      have e : ∀ i, dep i s (x :: l) = 0 := fun i => dep_none fun y hy => by
        rcases List.mem_cons.1 hy with rfl | hy
        · omega
        · have := hs.le y hy; omega
      rw [e 0, e 1]
      exact hk
    rw [Nat.zero_add] at hb
    have := swGo_ok hk hN h0 h1 (x :: l) [] [] 0 false x.pos rfl hs (fun z hz => by cases hz) (fun z hz => by cases hz) rfl (by rw [hb]; rfl) (by
      by_cases h : x.pos = 0
      · exact .inl h
      · refine .inr (.inr ?_)
        unfold keepOf
        have e : ∀ i, dep i (x.pos - 1) (x :: l) = 0 := fun i => dep_none fun y hy => by
          rcases List.mem_cons.1 hy with rfl | hy
          · omega
          · have := hs.le y hy; omega
        rw [e 0, e 1]
        exact hk) (fun e => by cases e) (fun _ => rfl)
    rw [this]; rfl
end Go.Proofs.Ytldmhbkfblbhaaa.V

namespace Go.Proofs.Ytldmhbkfblbhaaa
set_option linter.all false

def look : List (Nat × AV) → Nat → AV
  | [], _ => .any
  | (j, v) :: l, i => bcase (Nat.beq i j) v (look l i)
def sl (n : Nat) (l : List (Nat × AV)) : List AV := (List.range n).map (look l)
def mapA (f : AV → AV) : List (Nat × AV) → List (Nat × AV)
  | [] => []
  | (j, v) :: l => (j, f v) :: mapA f l
def keepA (l : List (Nat × AV)) : List Nat → List (Nat × AV)
  | [] => []
  | k :: ks => (k, look l k) :: keepA l ks
def argsA : Nat → List PV → List (Nat × AV)
  | _, [] => []
  | k, v :: l => (k, .pv v) :: argsA (k + 1) l
def lowA (nb : Nat) : List (Nat × AV) → Bool
  | [] => true
  | (_, v) :: l => AV.low nb v && lowA nb l
def insA (n : Nat) : List Nat → Bool
  | [] => true
  | k :: ks => decide (k < n) && insA n ks
theorem look_hit (i : Nat) (v : AV) (l : List (Nat × AV)) : look ((i, v) :: l) i = v := by
  show bcase (Nat.beq i i) v _ = v
  rw [Nat.beq_refl]; rfl
theorem look_nil (i : Nat) : look [] i = .any := (rfl)
theorem sl_len (n : Nat) (l : List (Nat × AV)) : (sl n l).length = n := by simp [sl]
theorem sl_get {n i : Nat} {l : List (Nat × AV)} (h' : i < n) : (sl n l).getD i .any = look l i := by
  simp [sl, List.getD_eq_getElem?_getD, h']
theorem sl_some {n i : Nat} {l : List (Nat × AV)} (h' : i < n) : (sl n l)[i]? = some (look l i) := by
  simp [sl, h']
theorem look_cons (l : List (Nat × AV)) (i j : Nat) (v : AV) : look ((j, v) :: l) i = if i = j then v else look l i := by
  show bcase (Nat.beq i j) v _ = _
  by_cases h : i = j
  · subst h; rw [Nat.beq_refl, if_pos rfl]; rfl
  · rw [if_neg h]
    have : Nat.beq i j = false := by
      cases e : Nat.beq i j with
      | false => rfl
      | true => exact absurd (Nat.eq_of_beq_eq_true e) h
    rw [this]; rfl
theorem sl_set (n i : Nat) (v : AV) (l : List (Nat × AV)) : (sl n l).set i v = sl n ((i, v) :: l) := by
  apply List.ext_getElem (by simp [sl])
  intro k h1 h2
  have hk : k < n := by simpa [sl] using h2
  simp only [sl, List.getElem_set, List.getElem_map, List.getElem_range, look_cons]
  by_cases h : i = k
  · subst h; simp
  · rw [if_neg h, if_neg (fun e => h e.symm)]
theorem look_skip {i j : Nat} {v : AV} {l : List (Nat × AV)} (h : (i == j) = false) : look ((j, v) :: l) i = look l i := by
  rw [look_cons, if_neg (by simpa using h)]
theorem look_mapA (f : AV → AV) (hf : f .any = .any) : ∀ (l : List (Nat × AV)) (i : Nat), look (mapA f l) i = f (look l i)
  | [], i => hf.symm
  | (j, v) :: l, i => by
    show look ((j, f v) :: mapA f l) i = _
    rw [look_cons, look_cons, look_mapA f hf l i]
    split <;> rfl
theorem sl_map {f : AV → AV} (hf : f .any = .any) (n : Nat) (l : List (Nat × AV)) : (sl n l).map f = sl n (mapA f l) := by
  unfold sl
  rw [List.map_map]
  apply List.map_congr_left
  intro i _
  exact (look_mapA f hf l i).symm
theorem sl_kill (n d : Nat) (l : List (Nat × AV)) : (sl n l).map (AV.kill d) = sl n (mapA (AV.kill d) l) := sl_map rfl n l
theorem sl_killc (n d : Nat) (l : List (Nat × AV)) : (sl n l).map (AV.killCell d) = sl n (mapA (AV.killCell d) l) := sl_map rfl n l
theorem sl_froze (n : Nat) (l : List (Nat × AV)) : (sl n l).map AV.froze = sl n (mapA AV.froze l) := sl_map rfl n l
theorem mapA_nil (f : AV → AV) : mapA f [] = [] := (rfl)
theorem mapA_cons (f : AV → AV) (j : Nat) (v : AV) (l : List (Nat × AV)) : mapA f ((j, v) :: l) = (j, f v) :: mapA f l := (rfl)
theorem keepA_nil (l : List (Nat × AV)) : keepA l [] = [] := (rfl)
theorem keepA_cons (l : List (Nat × AV)) (k : Nat) (ks : List Nat) : keepA l (k :: ks) = (k, look l k) :: keepA l ks := (rfl)
theorem lowA_nil (nb : Nat) : lowA nb [] = true := (rfl)
theorem lowA_cons (nb k : Nat) (v : AV) (l : List (Nat × AV)) : lowA nb ((k, v) :: l) = (AV.low nb v && lowA nb l) := (rfl)
theorem insA_nil (n : Nat) : insA n [] = true := (rfl)
theorem insA_cons (n k : Nat) (l : List Nat) : insA n (k :: l) = (decide (k < n) && insA n l) := (rfl)
theorem argsA_nil (k : Nat) : argsA k [] = [] := (rfl)
theorem argsA_cons (k : Nat) (v : PV) (l : List PV) : argsA k (v :: l) = (k, .pv v) :: argsA (k + 1) l := (rfl)
theorem look_keepA (l : List (Nat × AV)) : ∀ (ks : List Nat) (i : Nat), look (keepA l ks) i = if ks.contains i then look l i else .any
  | [], i => rfl
  | k :: ks, i => by
    rw [keepA_cons, look_cons, look_keepA l ks i, List.contains_cons]
    by_cases h : i = k
    · subst h; simp
    · have : (i == k) = false := by simpa using h
      rw [if_neg h, this, Bool.false_or]
theorem lowA_iff (nb n : Nat) (l : List (Nat × AV)) : ∀ ks : List Nat, insA n ks = true → (lowA nb (keepA l ks) = true ↔ ∀ k ∈ ks, (look l k).low nb = true)
  | [], _ => by simp [keepA, lowA]
  | k :: ks, h => by
    rw [insA_cons, Bool.and_eq_true] at h
    rw [keepA_cons, lowA_cons, Bool.and_eq_true, lowA_iff nb n l ks h.2]
    simp
theorem insA_iff (n : Nat) : ∀ ks : List Nat, insA n ks = true → ∀ k ∈ ks, k < n
  | [], _, k, hk => by cases hk
  | j :: ks, h, k, hk => by
    rw [insA_cons, Bool.and_eq_true] at h
    rcases List.mem_cons.1 hk with rfl | hk
    · simpa using h.1
    · exact insA_iff n ks h.2 k hk
theorem head_sl {n nb : Nat} {l : List (Nat × AV)} {keep : List Nat} {bx : List Box} {ys : List (List PV)} {sp : Option (Option Nat)} (h : insA n keep = true) (hb : nb ≤ bx.length) (hl : lowA nb (keepA l keep) = true) :
    St.head ⟨sl n l, bx, ys, sp⟩ keep nb = some ⟨sl n (keepA l keep), bx.take nb, ys, sp⟩ := by
  have e : ((sl n l).zipIdx.map fun (v, i) => if keep.contains i then v else AV.any) = sl n (keepA l keep) := by
    apply List.ext_getElem (by simp [sl])
    intro i h1 h2
    simp only [sl, List.getElem_map, List.getElem_zipIdx, List.getElem_range, look_keepA, Nat.zero_add]
  unfold St.head
  simp only
  rw [e, if_pos]
  rw [Bool.and_eq_true, decide_eq_true_eq]
  refine ⟨?_, hb⟩
  rw [List.all_eq_true]
  intro v hv
  unfold sl at hv
  obtain ⟨i, hi, rfl⟩ := List.mem_map.1 hv
  rw [look_keepA]
  split
  · rename_i hc
    exact (lowA_iff nb n l keep h).1 hl i (by simpa using hc)
  · rfl
theorem clean_sl {n nb : Nat} {e : Ex} {l : List (Nat × AV)} {keep : List Nat} {bx : List Box} {ys : List (List PV)} {sp : Option (Option Nat)} (h : insA n keep = true) (hb : nb ≤ bx.length) (hl : lowA nb (keepA l keep) = true) :
    cleanEnd keep nb (e, ⟨sl n l, bx, ys, sp⟩) = some (e, ⟨sl n (keepA l keep), bx.take nb, ys, sp⟩) := by
  unfold cleanEnd
  simp only
  rw [head_sl h hb hl]
  rfl
theorem start_sl {n : Nat} {args : List PV} (hn : args.length ≤ n) : start n args = ⟨sl n (argsA 0 args), [], [], none⟩ := by
  have key : ∀ (l : List PV) (k i : Nat), look (argsA k l) i = if k ≤ i then ((l[i - k]?).map AV.pv).getD .any else .any := by
    intro l
    induction l with
    | nil => intro k i; simp [argsA, look]
    | cons v l ih =>
      intro k i
      rw [argsA_cons, look_cons, ih]
      by_cases h1 : i = k
      · subst h1; simp
      · rw [if_neg h1]
        by_cases h2 : k ≤ i
        · rw [if_pos (by omega), if_pos h2, show i - k = (i - (k + 1)) + 1 by omega, List.getElem?_cons_succ]
        · rw [if_neg (by omega), if_neg h2]
  unfold start
  congr 1
  apply List.ext_getElem (by simp [sl]; omega)
  intro i h1 h2
  simp only [sl, List.getElem_map, List.getElem_range, key, Nat.zero_le, if_true, Nat.sub_zero]
  by_cases hi : i < args.length
  · rw [List.getElem_append_left (by simpa using hi)]
    simp [hi]
  · rw [List.getElem_append_right (by simp; omega)]
    simp [hi]
theorem low_pv (nb : Nat) (v : PV) : AV.low nb (.pv v) = true := (rfl)
theorem low_any (nb : Nat) : AV.low nb .any = true := (rfl)
theorem low_yld (nb : Nat) : AV.low nb .yld = true := (rfl)
theorem low_row (nb sz : Nat) (es : List PV) : AV.low nb (.row sz es) = true := (rfl)
theorem low_pbox (nb o j : Nat) : AV.low nb (.pbox o j) = decide (o < nb) := (rfl)
theorem low_refs (nb t off len : Nat) : AV.low nb (.ref (.slot t) off len) = true := (rfl)
theorem low_refc (nb o j off len : Nat) : AV.low nb (.ref (.cell o j) off len) = decide (o < nb) := (rfl)
theorem low_pels (nb t i j : Nat) : AV.low nb (.pel (.slot t) i j) = true := (rfl)
theorem low_pelc (nb o q i j : Nat) : AV.low nb (.pel (.cell o q) i j) = decide (o < nb) := (rfl)
theorem low_fn (nb f : Nat) (caps : List AV) : AV.low nb (.fn f caps) = caps.all fun c => match c with
    | .pv _ => true
    | .pbox o _ => o < nb
    | _ => false := (rfl)
def slAll := And.intro @look_hit (And.intro @look_skip (And.intro @look_nil (And.intro @sl_get (And.intro @sl_some (And.intro @sl_set (And.intro @sl_kill (And.intro @sl_killc (And.intro @sl_froze (And.intro @mapA_nil (And.intro @mapA_cons (And.intro @keepA_nil (And.intro @keepA_cons (And.intro @lowA_nil (And.intro @lowA_cons (And.intro @insA_nil (And.intro @insA_cons (And.intro @argsA_nil (And.intro @argsA_cons (And.intro @head_sl (And.intro @clean_sl (And.intro @start_sl (And.intro @low_pv (And.intro @low_any (And.intro @low_yld (And.intro @low_row (And.intro @low_pbox (And.intro @low_refs (And.intro @low_refc (And.intro @low_pels (And.intro @low_pelc (@low_fn)))))))))))))))))))))))))))))))
end Go.Proofs.Ytldmhbkfblbhaaa

namespace Go.Proofs.Ytldmhbkfblbhaaa.V
set_option linter.all false
theorem take_snoc1 {α : Type} {l : List α} {i : Nat} (h : i < l.length) : l.take (i + 1) = l.take i ++ [l[i]] := by rw [List.take_succ_eq_append_getElem h]
def okE (x : Exn) : Prop := (-9223372036854775808 ≤ x.start ∧ x.start ≤ 9223372036854775807) ∧ (-9223372036854775808 ≤ x.count ∧ x.count ≤ 9223372036854775807)
def okEs (l : List Exn) : Prop := ∀ x ∈ l, okE x
def wFrom (e : Exn) : Int := max e.start 0
def wTo (e : Exn) : Int := if e.start < 0 ∨ e.count < 4096 - e.start then min (e.start + e.count) 4096 else 4096
def wX (e : Exn) : Int × Int × Bool := if e.count ≤ 0 then (0, 0, false) else (wFrom e, wTo e, decide (wFrom e < wTo e))
def inE (e : Exn) (s : Nat) : Bool := decide (0 < e.count) && (decide (e.start ≤ (s : Int)) && decide ((s : Int) < e.start + e.count))
theorem wX_true {e : Exn} (h : (wX e).2.2 = true) : ∃ n m : Nat, wX e = ((n : Int), (m : Int), true) ∧ n < m ∧ m ≤ 4096 ∧ ∀ s : Nat, s < 4096 → (inE e s = true ↔ n ≤ s ∧ s < m) := by
  unfold wX at h ⊢
  by_cases c : e.count ≤ 0
  · rw [if_pos c] at h; cases h
  · rw [if_neg c] at h ⊢
    have h2 : wFrom e < wTo e := by simpa using h
    have h3 : 0 ≤ wFrom e := by unfold wFrom; omega
    have h4 : wTo e ≤ 4096 := by unfold wTo; split <;> omega
    refine ⟨(wFrom e).toNat, (wTo e).toNat, ?_, by omega, by omega, fun s hs => ?_⟩
    · rw [Int.toNat_of_nonneg h3, Int.toNat_of_nonneg (by omega), decide_eq_true h2]
    · unfold inE
      simp only [Bool.and_eq_true, decide_eq_true_eq]
      have e1 : (wFrom e).toNat ≤ s ↔ wFrom e ≤ (s : Int) := by omega
      have e2 : s < (wTo e).toNat ↔ (s : Int) < wTo e := by omega
      rw [e1, e2]
      unfold wFrom wTo
      split <;> omega
theorem wX_false {e : Exn} (h : (wX e).2.2 = false) {s : Nat} (hs : s < 4096) : inE e s = false := by
  unfold wX at h
  by_cases c : e.count ≤ 0
  · unfold inE
    rw [decide_eq_false (by omega), Bool.false_and]
  · rw [if_neg c] at h
    have h2 : ¬ wFrom e < wTo e := by simpa using h
    unfold inE
    cases hq : (decide (0 < e.count) && (decide (e.start ≤ (s : Int)) && decide ((s : Int) < e.start + e.count))) with
    | false => rfl
    | true =>
      exfalso
      simp only [Bool.and_eq_true, decide_eq_true_eq] at hq
      apply h2
      unfold wFrom wTo
      split <;> omega
theorem cal39 {e : Exn} (ho : okE e) : cal env 39 [eExt e] = some [(.int .i64 (wX e).1, false), (.int .i64 (wX e).2.1, false), (.bool (wX e).2.2, false)] := by
  obtain ⟨⟨o1, o2⟩, o3, o4⟩ := ho
  unfold wX
  simp only [eExt]
  by_cases c : e.count ≤ 0
  · rw [if_pos c]
    rw [cal_code env39 rfl]; simp only [fn39, slAll, Nat.reduceBEq, Nat.reduceLeDiff, Nat.reduceAdd, List.length_cons, List.length_nil]
    simp only [c, slAll, Nat.reduceMul, Nat.reduceBEq, Nat.reduceLT, Nat.reduceLeDiff, Nat.zero_le, List.take_zero, List.take_nil, List.take_succ_cons, List.length_cons, List.length_nil, Nat.le_refl, List.isEmpty_nil, val_pvs, frozen_pvs, msnoc_len, msnoc_get, msnoc_set, msnoc_take, Int.le_refl, take_map_all, Nat.le_refl, St.freezeRows, BV.frozen, List.take_length, List.take_append_drop, z_repl_zero, Int.toNat_zero, true_and, and_true, and_self, eq_self, z_take_zero, List.drop_nil, List.take_nil, vAll, List.foldl_nil, List.foldl_cons, resultsOf, resultList, resultOf, zBV, splice, PV.remade, St.freezeAt, St.freezeBox, St.freezeCap, PV.single, plain, act, dstOf, if_true, if_false, reduceCtorEq, St.get, St.put, St.pvOf, St.putRow, St.consume, St.freeze, St.row, St.elems, St.grab, St.takeRow, St.setRow, St.place, St.optPv, St.setCell, St.setCellRow, binPV, intBin, unPV, BV.val, Nat.reduceEqDiff, bound, consumeAll, buildParts, capsOf, capOf, List.append_nil, Nat.reduceAdd, Nat.reduceLT, Nat.reduceLeDiff, beq_self_eq_true, List.length_map, Nat.beq, dcall, dcallP, List.mapM_cons, St.snapFn, St.snap, St.layAll, St.lay, St.freezeArg, St.freezeArg1]
  · rw [if_neg c]
    unfold wFrom wTo
    have hmin : min (e.start + e.count) 4096 = if 4096 < e.start + e.count then 4096 else e.start + e.count := by split <;> omega
    by_cases c1 : e.start < 0
    · have hmax : max e.start 0 = 0 := by omega
      rw [hmin, hmax]
      have W1 : IntKind.i64.wrap (e.start + e.count) = e.start + e.count := i64_fits (by omega)
      rw [if_pos (.inl c1)]
      rw [cal_code env39 rfl]; simp only [fn39, slAll, Nat.reduceBEq, Nat.reduceLeDiff, Nat.reduceAdd, List.length_cons, List.length_nil]
      simp only [c, c1, W1, slAll, Nat.reduceMul, Nat.reduceBEq, Nat.reduceLT, Nat.reduceLeDiff, Nat.zero_le, List.take_zero, List.take_nil, List.take_succ_cons, List.length_cons, List.length_nil, Nat.le_refl, List.isEmpty_nil, val_pvs, frozen_pvs, msnoc_len, msnoc_get, msnoc_set, msnoc_take, Int.le_refl, take_map_all, Nat.le_refl, St.freezeRows, BV.frozen, List.take_length, List.take_append_drop, z_repl_zero, Int.toNat_zero, true_and, and_true, and_self, eq_self, z_take_zero, List.drop_nil, List.take_nil, vAll, List.foldl_nil, List.foldl_cons, resultsOf, resultList, resultOf, zBV, splice, PV.remade, St.freezeAt, St.freezeBox, St.freezeCap, PV.single, plain, act, dstOf, if_true, if_false, reduceCtorEq, St.get, St.put, St.pvOf, St.putRow, St.consume, St.freeze, St.row, St.elems, St.grab, St.takeRow, St.setRow, St.place, St.optPv, St.setCell, St.setCellRow, binPV, intBin, unPV, BV.val, Nat.reduceEqDiff, bound, consumeAll, buildParts, capsOf, capOf, List.append_nil, Nat.reduceAdd, Nat.reduceLT, Nat.reduceLeDiff, beq_self_eq_true, List.length_map, Nat.beq, dcall, dcallP, List.mapM_cons, St.snapFn, St.snap, St.layAll, St.lay, St.freezeArg, St.freezeArg1]
    · have hmax : max e.start 0 = e.start := by omega
      rw [hmin, hmax]
      have W2 : IntKind.i64.wrap (4096 - e.start) = 4096 - e.start := i64_fits (by omega)
      by_cases c2 : e.count < 4096 - e.start
      · have W1 : IntKind.i64.wrap (e.start + e.count) = e.start + e.count := i64_fits (by omega)
        rw [if_pos (.inr c2)]
        rw [cal_code env39 rfl]; simp only [fn39, slAll, Nat.reduceBEq, Nat.reduceLeDiff, Nat.reduceAdd, List.length_cons, List.length_nil]
        simp only [c, c1, c2, W1, W2, slAll, Nat.reduceMul, Nat.reduceBEq, Nat.reduceLT, Nat.reduceLeDiff, Nat.zero_le, List.take_zero, List.take_nil, List.take_succ_cons, List.length_cons, List.length_nil, Nat.le_refl, List.isEmpty_nil, val_pvs, frozen_pvs, msnoc_len, msnoc_get, msnoc_set, msnoc_take, Int.le_refl, take_map_all, Nat.le_refl, St.freezeRows, BV.frozen, List.take_length, List.take_append_drop, z_repl_zero, Int.toNat_zero, true_and, and_true, and_self, eq_self, z_take_zero, List.drop_nil, List.take_nil, vAll, List.foldl_nil, List.foldl_cons, resultsOf, resultList, resultOf, zBV, splice, PV.remade, St.freezeAt, St.freezeBox, St.freezeCap, PV.single, plain, act, dstOf, if_true, if_false, reduceCtorEq, St.get, St.put, St.pvOf, St.putRow, St.consume, St.freeze, St.row, St.elems, St.grab, St.takeRow, St.setRow, St.place, St.optPv, St.setCell, St.setCellRow, binPV, intBin, unPV, BV.val, Nat.reduceEqDiff, bound, consumeAll, buildParts, capsOf, capOf, List.append_nil, Nat.reduceAdd, Nat.reduceLT, Nat.reduceLeDiff, beq_self_eq_true, List.length_map, Nat.beq, dcall, dcallP, List.mapM_cons, St.snapFn, St.snap, St.layAll, St.lay, St.freezeArg, St.freezeArg1]
      · rw [if_neg (by omega)]
        rw [cal_code env39 rfl]; simp only [fn39, slAll, Nat.reduceBEq, Nat.reduceLeDiff, Nat.reduceAdd, List.length_cons, List.length_nil]
        simp only [c, c1, c2, W2, slAll, Nat.reduceMul, Nat.reduceBEq, Nat.reduceLT, Nat.reduceLeDiff, Nat.zero_le, List.take_zero, List.take_nil, List.take_succ_cons, List.length_cons, List.length_nil, Nat.le_refl, List.isEmpty_nil, val_pvs, frozen_pvs, msnoc_len, msnoc_get, msnoc_set, msnoc_take, Int.le_refl, take_map_all, Nat.le_refl, St.freezeRows, BV.frozen, List.take_length, List.take_append_drop, z_repl_zero, Int.toNat_zero, true_and, and_true, and_self, eq_self, z_take_zero, List.drop_nil, List.take_nil, vAll, List.foldl_nil, List.foldl_cons, resultsOf, resultList, resultOf, zBV, splice, PV.remade, St.freezeAt, St.freezeBox, St.freezeCap, PV.single, plain, act, dstOf, if_true, if_false, reduceCtorEq, St.get, St.put, St.pvOf, St.putRow, St.consume, St.freeze, St.row, St.elems, St.grab, St.takeRow, St.setRow, St.place, St.optPv, St.setCell, St.setCellRow, binPV, intBin, unPV, BV.val, Nat.reduceEqDiff, bound, consumeAll, buildParts, capsOf, capOf, List.append_nil, Nat.reduceAdd, Nat.reduceLT, Nat.reduceLeDiff, beq_self_eq_true, List.length_map, Nat.beq, dcall, dcallP, List.mapM_cons, St.snapFn, St.snap, St.layAll, St.lay, St.freezeArg, St.freezeArg1]

def rawOf (i : Nat) (l : List Exn) : List End := l.flatMap fun e => if (wX e).2.2 then [⟨(wX e).1.toNat, i, 1⟩, ⟨(wX e).2.1.toNat, i, -1⟩] else []
theorem rawOf_snoc (i : Nat) (l : List Exn) (e : Exn) : rawOf i (l ++ [e]) = rawOf i l ++ (if (wX e).2.2 then [⟨(wX e).1.toNat, i, 1⟩, ⟨(wX e).2.1.toNat, i, -1⟩] else []) := by simp [rawOf]
theorem rawOf_len (i : Nat) : ∀ l : List Exn, (rawOf i l).length ≤ 2 * l.length
  | [] => Nat.le_refl _
  | e :: l => by
    have := rawOf_len i l
    have h : rawOf i (e :: l) = (if (wX e).2.2 then [⟨(wX e).1.toNat, i, 1⟩, ⟨(wX e).2.1.toNat, i, -1⟩] else []) ++ rawOf i l := by simp [rawOf]
    rw [h, List.length_append, List.length_cons]
    split <;> simp <;> omega
def rawFrom : Nat → List (List Exn) → List End
  | _, [] => []
  | i, l :: ls => rawOf i l ++ rawFrom (i + 1) ls
theorem rawFrom_snoc : ∀ (ls : List (List Exn)) (i : Nat) (l : List Exn), rawFrom i (ls ++ [l]) = rawFrom i ls ++ rawOf (i + ls.length) l
  | [], i, l => by simp [rawFrom]
  | m :: ls, i, l => by
    simp only [List.cons_append, rawFrom, rawFrom_snoc ls (i + 1) l, List.length_cons, List.append_assoc]
    rw [show i + 1 + ls.length = i + (ls.length + 1) by omega]
theorem rawFrom_len {n : Nat} : ∀ (ls : List (List Exn)) (i : Nat), (∀ l ∈ ls, l.length ≤ n) → (rawFrom i ls).length ≤ 2 * n * ls.length
  | [], i, _ => Nat.zero_le _
  | l :: ls, i, h => by
    have h1 := rawFrom_len ls (i + 1) fun x hx => h x (by simp [hx])
    have h2 := rawOf_len i l
    have h3 := h l (by simp)
    simp only [rawFrom, List.length_append, List.length_cons]
    rw [Nat.mul_add]
    omega
set_option maxRecDepth 20000 in
theorem loop49 {D : PV} {l : List Exn} {pre : List End} {v n : Nat} {q17 : AV} (hq : q17 = .pv (.list 2 (l.map eExt))) (ho : okEs l) (hl : l.length ≤ 100000) (hpre : pre.length ≤ 10000000) {st : St} (h : st.head [0, 3, 4, 5, 11, 12, 13, 17, 18, 19, 20, 39] st.boxes.length = some ⟨sl 45 [(0, .pv D), (3, .row 3 ((pre ++ rawOf v (l.take ((0 : Nat)))).map eEnd)), (4, .pv (.int .i64 v)), (5, .pv (.list 2 (l.map eExt))), (11, .pv D), (12, .pv (.int .i64 n)), (13, .pv (.int .i64 v)), (17, .pv (.list 2 (l.map eExt))), (18, .pv (.list 2 (l.map eExt))), (19, .pv (.int .i64 l.length)), (20, .pv (.int .i64 (0 : Nat))), (39, .any)], [], [], none⟩) :
   den env fn49_l1 st = some (.normal, ⟨sl 45 [(0, .pv D), (2, .any), (3, .row 3 ((pre ++ rawOf v l).map eEnd)), (11, .pv D), (12, .pv (.int .i64 n)), (13, .pv (.int .i64 v)), (39, .any)], [], [], none⟩) := by
  unfold fn49_l1
  refine clean_up (env := env) (l.length) (fun i => ⟨sl 45 [(0, .pv D), (3, .row 3 ((pre ++ rawOf v (l.take (i))).map eEnd)), (4, .pv (.int .i64 v)), (5, .pv (.list 2 (l.map eExt))), (11, .pv D), (12, .pv (.int .i64 n)), (13, .pv (.int .i64 v)), (17, .pv (.list 2 (l.map eExt))), (18, .pv (.list 2 (l.map eExt))), (19, .pv (.int .i64 l.length)), (20, .pv (.int .i64 i)), (39, .any)], [], [], none⟩) (fun i => some (.normal, ⟨sl 45 [(0, .pv D), (2, .any), (3, .row 3 ((pre ++ rawOf v l).map eEnd)), (11, .pv D), (12, .pv (.int .i64 n)), (13, .pv (.int .i64 v)), (39, .any)], [], [], none⟩)) h (fun _ => rfl) (fun _ => by simp only [slAll, Nat.reduceMul, Nat.reduceBEq, Nat.reduceLT, Nat.reduceLeDiff, Nat.zero_le, List.take_zero, List.take_nil, List.take_succ_cons, List.length_cons, List.length_nil, Nat.le_refl, Nat.reduceAdd, decide_true, Bool.and_self, Bool.true_and]) ?_ ?_
  · intro i rb hi ih

    have hlim : lim = 1073741824 := rfl
    have hi1 := i64_next hi (by omega)
    have F1 : ((i : Int) < (l.length : Int)) = True := eq_true (by omega)
    have hx : l[i]? = some l[i] := List.getElem?_eq_getElem hi
    have ht := take_snoc1 hi
    have hox := ho _ (List.getElem_mem hi)
    generalize l[i] = x at *
    have e1 := cal39 hox
    have hrl := rawOf_len v (l.take i)
    rw [List.length_take] at hrl
    have P2 : part [PV.int .i64 x.start, .int .i64 x.count] 0 (some 2) = some (.agg [.int .i64 x.start, .int .i64 x.count]) := rfl
    simp only [eExt] at e1
    cases hw : (wX x).2.2 with
    | false =>
      rw [hw] at e1
      have hs : rawOf v (l.take (i + 1)) = rawOf v (l.take i) := by rw [ht, rawOf_snoc, hw]; simp
      simp only [fn49_b0, F1, hx, e1, eExt, P2, index_nat hi, List.getElem?_map, Option.map_some, List.length_map, List.length_cons, List.length_nil, slAll, Nat.reduceMul, Nat.reduceBEq, Nat.reduceLT, Nat.reduceLeDiff, Nat.zero_le, List.take_zero, List.take_nil, List.take_succ_cons, List.length_cons, List.length_nil, Nat.le_refl, List.isEmpty_nil, val_pvs, frozen_pvs, msnoc_len, msnoc_get, msnoc_set, msnoc_take, Int.le_refl, take_map_all, Nat.le_refl, St.freezeRows, BV.frozen, List.take_length, List.take_append_drop, z_repl_zero, Int.toNat_zero, true_and, and_true, and_self, eq_self, z_take_zero, List.drop_nil, List.take_nil, vAll, List.foldl_nil, List.foldl_cons, resultsOf, resultList, resultOf, zBV, splice, PV.remade, St.freezeAt, St.freezeBox, St.freezeCap, PV.single, plain, act, dstOf, if_true, if_false, reduceCtorEq, St.get, St.put, St.pvOf, St.putRow, St.consume, St.freeze, St.row, St.elems, St.grab, St.takeRow, St.setRow, St.place, St.optPv, St.setCell, St.setCellRow, binPV, intBin, unPV, BV.val, Nat.reduceEqDiff, bound, consumeAll, buildParts, capsOf, capOf, List.append_nil, Nat.reduceAdd, Nat.reduceLT, Nat.reduceLeDiff, beq_self_eq_true, List.length_map, Nat.beq, dcall, dcallP, List.mapM_cons, St.snapFn, St.snap, St.layAll, St.lay, St.freezeArg, St.freezeArg1]
      rw [ih _ (by simp only [hi1, hs, slAll, Nat.reduceMul, Nat.reduceBEq, Nat.reduceLT, Nat.reduceLeDiff, Nat.zero_le, List.take_zero, List.take_nil, List.take_succ_cons, List.length_cons, List.length_nil, Nat.le_refl, List.isEmpty_nil, val_pvs, frozen_pvs, msnoc_len, msnoc_get, msnoc_set, msnoc_take, Int.le_refl, take_map_all, Nat.le_refl, St.freezeRows, BV.frozen, List.take_length, List.take_append_drop, z_repl_zero, Int.toNat_zero, true_and, and_true, and_self, eq_self, z_take_zero, List.drop_nil, List.take_nil, vAll, List.foldl_nil, List.foldl_cons, resultsOf, resultList, resultOf, zBV, splice, PV.remade, St.freezeAt, St.freezeBox, St.freezeCap, PV.single, plain, act, dstOf, if_true, if_false, reduceCtorEq, St.get, St.put, St.pvOf, St.putRow, St.consume, St.freeze, St.row, St.elems, St.grab, St.takeRow, St.setRow, St.place, St.optPv, St.setCell, St.setCellRow, binPV, intBin, unPV, BV.val, Nat.reduceEqDiff, bound, consumeAll, buildParts, capsOf, capOf, List.append_nil, Nat.reduceAdd, Nat.reduceLT, Nat.reduceLeDiff, beq_self_eq_true, List.length_map, Nat.beq, dcall, dcallP, List.mapM_cons, St.snapFn, St.snap, St.layAll, St.lay, St.freezeArg, St.freezeArg1] <;> rfl)]
    | true =>
      obtain ⟨a, b, hab, -, -, -⟩ := wX_true hw
      have hs : rawOf v (l.take (i + 1)) = rawOf v (l.take i) ++ [⟨a, v, 1⟩, ⟨b, v, -1⟩] := by rw [ht, rawOf_snoc, hab]; simp
      rw [hab] at e1
      have F2 : ((pre ++ rawOf v (l.take i)).length + 1 + 1 ≤ lim) = True := eq_true (by rw [List.length_append]; omega)
      have F3 : ((pre ++ rawOf v (l.take i)).length + 2 ≤ lim) = True := eq_true (by rw [List.length_append]; omega)
      simp only [fn49_b0, F1, F2, F3, hx, e1, eExt, P2, index_nat hi, List.getElem?_map, Option.map_some, List.length_map, List.length_cons, List.length_nil, slAll, Nat.reduceMul, Nat.reduceBEq, Nat.reduceLT, Nat.reduceLeDiff, Nat.zero_le, List.take_zero, List.take_nil, List.take_succ_cons, List.length_cons, List.length_nil, Nat.le_refl, List.isEmpty_nil, val_pvs, frozen_pvs, msnoc_len, msnoc_get, msnoc_set, msnoc_take, Int.le_refl, take_map_all, Nat.le_refl, St.freezeRows, BV.frozen, List.take_length, List.take_append_drop, z_repl_zero, Int.toNat_zero, true_and, and_true, and_self, eq_self, z_take_zero, List.drop_nil, List.take_nil, vAll, List.foldl_nil, List.foldl_cons, resultsOf, resultList, resultOf, zBV, splice, PV.remade, St.freezeAt, St.freezeBox, St.freezeCap, PV.single, plain, act, dstOf, if_true, if_false, reduceCtorEq, St.get, St.put, St.pvOf, St.putRow, St.consume, St.freeze, St.row, St.elems, St.grab, St.takeRow, St.setRow, St.place, St.optPv, St.setCell, St.setCellRow, binPV, intBin, unPV, BV.val, Nat.reduceEqDiff, bound, consumeAll, buildParts, capsOf, capOf, List.append_nil, Nat.reduceAdd, Nat.reduceLT, Nat.reduceLeDiff, beq_self_eq_true, List.length_map, Nat.beq, dcall, dcallP, List.mapM_cons, St.snapFn, St.snap, St.layAll, St.lay, St.freezeArg, St.freezeArg1]
      rw [ih _ (by simp only [hi1, hs, ← List.append_assoc, List.map_append, List.map_cons, List.map_nil, eEnd, slAll, Nat.reduceMul, Nat.reduceBEq, Nat.reduceLT, Nat.reduceLeDiff, Nat.zero_le, List.take_zero, List.take_nil, List.take_succ_cons, List.length_cons, List.length_nil, Nat.le_refl, List.isEmpty_nil, val_pvs, frozen_pvs, msnoc_len, msnoc_get, msnoc_set, msnoc_take, Int.le_refl, take_map_all, Nat.le_refl, St.freezeRows, BV.frozen, List.take_length, List.take_append_drop, z_repl_zero, Int.toNat_zero, true_and, and_true, and_self, eq_self, z_take_zero, List.drop_nil, List.take_nil, vAll, List.foldl_nil, List.foldl_cons, resultsOf, resultList, resultOf, zBV, splice, PV.remade, St.freezeAt, St.freezeBox, St.freezeCap, PV.single, plain, act, dstOf, if_true, if_false, reduceCtorEq, St.get, St.put, St.pvOf, St.putRow, St.consume, St.freeze, St.row, St.elems, St.grab, St.takeRow, St.setRow, St.place, St.optPv, St.setCell, St.setCellRow, binPV, intBin, unPV, BV.val, Nat.reduceEqDiff, bound, consumeAll, buildParts, capsOf, capOf, List.append_nil, Nat.reduceAdd, Nat.reduceLT, Nat.reduceLeDiff, beq_self_eq_true, List.length_map, Nat.beq, dcall, dcallP, List.mapM_cons, St.snapFn, St.snap, St.layAll, St.lay, St.freezeArg, St.freezeArg1] <;> rfl)]
  · intro rb

    simp only [fn49_b0, Int.lt_irrefl, List.length_map, List.take_length, slAll, Nat.reduceMul, Nat.reduceBEq, Nat.reduceLT, Nat.reduceLeDiff, Nat.zero_le, List.take_zero, List.take_nil, List.take_succ_cons, List.length_cons, List.length_nil, Nat.le_refl, List.isEmpty_nil, val_pvs, frozen_pvs, msnoc_len, msnoc_get, msnoc_set, msnoc_take, Int.le_refl, take_map_all, Nat.le_refl, St.freezeRows, BV.frozen, List.take_length, List.take_append_drop, z_repl_zero, Int.toNat_zero, true_and, and_true, and_self, eq_self, z_take_zero, List.drop_nil, List.take_nil, vAll, List.foldl_nil, List.foldl_cons, resultsOf, resultList, resultOf, zBV, splice, PV.remade, St.freezeAt, St.freezeBox, St.freezeCap, PV.single, plain, act, dstOf, if_true, if_false, reduceCtorEq, St.get, St.put, St.pvOf, St.putRow, St.consume, St.freeze, St.row, St.elems, St.grab, St.takeRow, St.setRow, St.place, St.optPv, St.setCell, St.setCellRow, binPV, intBin, unPV, BV.val, Nat.reduceEqDiff, bound, consumeAll, buildParts, capsOf, capOf, List.append_nil, Nat.reduceAdd, Nat.reduceLT, Nat.reduceLeDiff, beq_self_eq_true, List.length_map, Nat.beq, dcall, dcallP, List.mapM_cons, St.snapFn, St.snap, St.layAll, St.lay, St.freezeArg, St.freezeArg1]

set_option maxRecDepth 20000 in
theorem loop49l3 {ls : List (List Exn)} (ho : ∀ l ∈ ls, okEs l) (hr : ∀ l ∈ ls, l.length ≤ 100000) (hl : ls.length ≤ 10) {st : St} (h : st.head [0, 3, 11, 12, 13, 39] st.boxes.length = some ⟨sl 45 [(0, .pv (.list 1 (ls.map eExts))), (3, .row 3 ((rawFrom 0 (ls.take ((0 : Nat)))).map eEnd)), (11, .pv (.list 1 (ls.map eExts))), (12, .pv (.int .i64 ls.length)), (13, .pv (.int .i64 (0 : Nat))), (39, .any)], [], [], none⟩) :
   den env fn49_l3 st = some (.normal, ⟨sl 45 [(2, .any), (3, .row 3 ((rawFrom 0 ls).map eEnd))], [], [], none⟩) := by
  unfold fn49_l3
  refine clean_up (env := env) (ls.length) (fun i => ⟨sl 45 [(0, .pv (.list 1 (ls.map eExts))), (3, .row 3 ((rawFrom 0 (ls.take (i))).map eEnd)), (11, .pv (.list 1 (ls.map eExts))), (12, .pv (.int .i64 ls.length)), (13, .pv (.int .i64 i)), (39, .any)], [], [], none⟩) (fun i => some (.normal, ⟨sl 45 [(2, .any), (3, .row 3 ((rawFrom 0 ls).map eEnd))], [], [], none⟩)) h (fun _ => rfl) (fun _ => by simp only [slAll, Nat.reduceMul, Nat.reduceBEq, Nat.reduceLT, Nat.reduceLeDiff, Nat.zero_le, List.take_zero, List.take_nil, List.take_succ_cons, List.length_cons, List.length_nil, Nat.le_refl, Nat.reduceAdd, decide_true, Bool.and_self, Bool.true_and]) ?_ ?_
  · intro i rb hi ih

    have hlim : lim = 1073741824 := rfl
    have hi1 := i64_next hi (by omega)
    have F1 : ((i : Int) < (ls.length : Int)) = True := eq_true (by omega)
    have hx : ls[i]? = some ls[i] := List.getElem?_eq_getElem hi
    have ht := take_snoc1 hi
    have hox := ho _ (List.getElem_mem hi)
    have hrx := hr _ (List.getElem_mem hi)
    have hli : (ls.take i).length = i := by rw [List.length_take]; omega
    have hp := rawFrom_len (n := 100000) (ls.take i) 0 fun l hl => hr l (List.mem_of_mem_take hl)
    rw [hli] at hp
    generalize ls[i] = l at *
    have hs : rawFrom 0 (ls.take (i + 1)) = rawFrom 0 (ls.take i) ++ rawOf i l := by rw [ht, rawFrom_snoc, hli, Nat.zero_add]
    have hr0 : rawOf i ([] : List Exn) = [] := rfl
    simp only [fn49_b2, F1, hx, eExts, index_nat hi, List.getElem?_map, Option.map_some, List.length_map, slAll, Nat.reduceMul, Nat.reduceBEq, Nat.reduceLT, Nat.reduceLeDiff, Nat.zero_le, List.take_zero, List.take_nil, List.take_succ_cons, List.length_cons, List.length_nil, Nat.le_refl, List.isEmpty_nil, val_pvs, frozen_pvs, msnoc_len, msnoc_get, msnoc_set, msnoc_take, Int.le_refl, take_map_all, Nat.le_refl, St.freezeRows, BV.frozen, List.take_length, List.take_append_drop, z_repl_zero, Int.toNat_zero, true_and, and_true, and_self, eq_self, z_take_zero, List.drop_nil, List.take_nil, vAll, List.foldl_nil, List.foldl_cons, resultsOf, resultList, resultOf, zBV, splice, PV.remade, St.freezeAt, St.freezeBox, St.freezeCap, PV.single, plain, act, dstOf, if_true, if_false, reduceCtorEq, St.get, St.put, St.pvOf, St.putRow, St.consume, St.freeze, St.row, St.elems, St.grab, St.takeRow, St.setRow, St.place, St.optPv, St.setCell, St.setCellRow, binPV, intBin, unPV, BV.val, Nat.reduceEqDiff, bound, consumeAll, buildParts, capsOf, capOf, List.append_nil, Nat.reduceAdd, Nat.reduceLT, Nat.reduceLeDiff, beq_self_eq_true, List.length_map, Nat.beq, dcall, dcallP, List.mapM_cons, St.snapFn, St.snap, St.layAll, St.lay, St.freezeArg, St.freezeArg1]
    rw [loop49 (l := l) (pre := rawFrom 0 (ls.take i)) (v := i) (q17 := .pv (.list 2 (l.map eExt))) rfl hox hrx (by omega)]
    rotate_left
    · simp only [z_take_zero, hr0, List.append_nil, eExts, slAll, Nat.reduceMul, Nat.reduceBEq, Nat.reduceLT, Nat.reduceLeDiff, Nat.zero_le, List.take_zero, List.take_nil, List.take_succ_cons, List.length_cons, List.length_nil, Nat.le_refl, List.isEmpty_nil, val_pvs, frozen_pvs, msnoc_len, msnoc_get, msnoc_set, msnoc_take, Int.le_refl, take_map_all, Nat.le_refl, St.freezeRows, BV.frozen, List.take_length, List.take_append_drop, z_repl_zero, Int.toNat_zero, true_and, and_true, and_self, eq_self, z_take_zero, List.drop_nil, List.take_nil, vAll, List.foldl_nil, List.foldl_cons, resultsOf, resultList, resultOf, zBV, splice, PV.remade, St.freezeAt, St.freezeBox, St.freezeCap, PV.single, plain, act, dstOf, if_true, if_false, reduceCtorEq, St.get, St.put, St.pvOf, St.putRow, St.consume, St.freeze, St.row, St.elems, St.grab, St.takeRow, St.setRow, St.place, St.optPv, St.setCell, St.setCellRow, binPV, intBin, unPV, BV.val, Nat.reduceEqDiff, bound, consumeAll, buildParts, capsOf, capOf, List.append_nil, Nat.reduceAdd, Nat.reduceLT, Nat.reduceLeDiff, beq_self_eq_true, List.length_map, Nat.beq, dcall, dcallP, List.mapM_cons, St.snapFn, St.snap, St.layAll, St.lay, St.freezeArg, St.freezeArg1] <;> rfl
    simp only [slAll, Nat.reduceMul, Nat.reduceBEq, Nat.reduceLT, Nat.reduceLeDiff, Nat.zero_le, List.take_zero, List.take_nil, List.take_succ_cons, List.length_cons, List.length_nil, Nat.le_refl, List.isEmpty_nil, val_pvs, frozen_pvs, msnoc_len, msnoc_get, msnoc_set, msnoc_take, Int.le_refl, take_map_all, Nat.le_refl, St.freezeRows, BV.frozen, List.take_length, List.take_append_drop, z_repl_zero, Int.toNat_zero, true_and, and_true, and_self, eq_self, z_take_zero, List.drop_nil, List.take_nil, vAll, List.foldl_nil, List.foldl_cons, resultsOf, resultList, resultOf, zBV, splice, PV.remade, St.freezeAt, St.freezeBox, St.freezeCap, PV.single, plain, act, dstOf, if_true, if_false, reduceCtorEq, St.get, St.put, St.pvOf, St.putRow, St.consume, St.freeze, St.row, St.elems, St.grab, St.takeRow, St.setRow, St.place, St.optPv, St.setCell, St.setCellRow, binPV, intBin, unPV, BV.val, Nat.reduceEqDiff, bound, consumeAll, buildParts, capsOf, capOf, List.append_nil, Nat.reduceAdd, Nat.reduceLT, Nat.reduceLeDiff, beq_self_eq_true, List.length_map, Nat.beq, dcall, dcallP, List.mapM_cons, St.snapFn, St.snap, St.layAll, St.lay, St.freezeArg, St.freezeArg1]
    rw [ih _ (by simp only [hi1, hs, eExts, slAll, Nat.reduceMul, Nat.reduceBEq, Nat.reduceLT, Nat.reduceLeDiff, Nat.zero_le, List.take_zero, List.take_nil, List.take_succ_cons, List.length_cons, List.length_nil, Nat.le_refl, List.isEmpty_nil, val_pvs, frozen_pvs, msnoc_len, msnoc_get, msnoc_set, msnoc_take, Int.le_refl, take_map_all, Nat.le_refl, St.freezeRows, BV.frozen, List.take_length, List.take_append_drop, z_repl_zero, Int.toNat_zero, true_and, and_true, and_self, eq_self, z_take_zero, List.drop_nil, List.take_nil, vAll, List.foldl_nil, List.foldl_cons, resultsOf, resultList, resultOf, zBV, splice, PV.remade, St.freezeAt, St.freezeBox, St.freezeCap, PV.single, plain, act, dstOf, if_true, if_false, reduceCtorEq, St.get, St.put, St.pvOf, St.putRow, St.consume, St.freeze, St.row, St.elems, St.grab, St.takeRow, St.setRow, St.place, St.optPv, St.setCell, St.setCellRow, binPV, intBin, unPV, BV.val, Nat.reduceEqDiff, bound, consumeAll, buildParts, capsOf, capOf, List.append_nil, Nat.reduceAdd, Nat.reduceLT, Nat.reduceLeDiff, beq_self_eq_true, List.length_map, Nat.beq, dcall, dcallP, List.mapM_cons, St.snapFn, St.snap, St.layAll, St.lay, St.freezeArg, St.freezeArg1] <;> rfl)]
  · intro rb

    simp only [fn49_b2, Int.lt_irrefl, List.length_map, List.take_length, slAll, Nat.reduceMul, Nat.reduceBEq, Nat.reduceLT, Nat.reduceLeDiff, Nat.zero_le, List.take_zero, List.take_nil, List.take_succ_cons, List.length_cons, List.length_nil, Nat.le_refl, List.isEmpty_nil, val_pvs, frozen_pvs, msnoc_len, msnoc_get, msnoc_set, msnoc_take, Int.le_refl, take_map_all, Nat.le_refl, St.freezeRows, BV.frozen, List.take_length, List.take_append_drop, z_repl_zero, Int.toNat_zero, true_and, and_true, and_self, eq_self, z_take_zero, List.drop_nil, List.take_nil, vAll, List.foldl_nil, List.foldl_cons, resultsOf, resultList, resultOf, zBV, splice, PV.remade, St.freezeAt, St.freezeBox, St.freezeCap, PV.single, plain, act, dstOf, if_true, if_false, reduceCtorEq, St.get, St.put, St.pvOf, St.putRow, St.consume, St.freeze, St.row, St.elems, St.grab, St.takeRow, St.setRow, St.place, St.optPv, St.setCell, St.setCellRow, binPV, intBin, unPV, BV.val, Nat.reduceEqDiff, bound, consumeAll, buildParts, capsOf, capOf, List.append_nil, Nat.reduceAdd, Nat.reduceLT, Nat.reduceLeDiff, beq_self_eq_true, List.length_map, Nat.beq, dcall, dcallP, List.mapM_cons, St.snapFn, St.snap, St.layAll, St.lay, St.freezeArg, St.freezeArg1]

def endsOf (ls : List (List Exn)) : List End := sortE (rawFrom 0 ls)
theorem cal49 {ls : List (List Exn)} (ho : ∀ l ∈ ls, okEs l) (hr : ∀ l ∈ ls, l.length ≤ 10000) (hl : ls.length ≤ 2) (hsl : (endsOf ls).length = (rawFrom 0 ls).length) : cal env 49 [.list 1 (ls.map eExts)] = some [(.list 3 ((endsOf ls).map eEnd), true)] := by
  have hp := rawFrom_len (n := 10000) ls 0 hr
  have hp2 : (rawFrom 0 ls).length ≤ 1000000 := by
    have : 2 * 10000 * ls.length ≤ 2 * 10000 * 2 := Nat.mul_le_mul_left _ hl
    omega
  have h1 := sortEndsX_enc (g := 51) (l := rawFrom 0 ls) hp2
  have h2 : ((sortE (rawFrom 0 ls)).map eEnd).length = ((rawFrom 0 ls).map eEnd).length := by
    rw [List.length_map, List.length_map]; exact hsl
  unfold endsOf
  have hcond : (0 = 0 ∧ (rawFrom 0 ls).length = ((rawFrom 0 ls).map eEnd).length ∧ ((sortE (rawFrom 0 ls)).map eEnd).length = ((rawFrom 0 ls).map eEnd).length) = True := eq_true ⟨rfl, by simp, h2⟩
  rw [cal_code env49 rfl]; simp only [fn49, slAll, Nat.reduceBEq, Nat.reduceLeDiff, Nat.reduceAdd, List.length_cons, List.length_nil]
  simp only [List.length_map, env50, h1, hsl, slAll, Nat.reduceMul, Nat.reduceBEq, Nat.reduceLT, Nat.reduceLeDiff, Nat.zero_le, List.take_zero, List.take_nil, List.take_succ_cons, List.length_cons, List.length_nil, Nat.le_refl, List.isEmpty_nil, val_pvs, frozen_pvs, msnoc_len, msnoc_get, msnoc_set, msnoc_take, Int.le_refl, take_map_all, Nat.le_refl, St.freezeRows, BV.frozen, List.take_length, List.take_append_drop, z_repl_zero, Int.toNat_zero, true_and, and_true, and_self, eq_self, z_take_zero, List.drop_nil, List.take_nil, vAll, List.foldl_nil, List.foldl_cons, resultsOf, resultList, resultOf, zBV, splice, PV.remade, St.freezeAt, St.freezeBox, St.freezeCap, PV.single, plain, act, dstOf, if_true, if_false, reduceCtorEq, St.get, St.put, St.pvOf, St.putRow, St.consume, St.freeze, St.row, St.elems, St.grab, St.takeRow, St.setRow, St.place, St.optPv, St.setCell, St.setCellRow, binPV, intBin, unPV, BV.val, Nat.reduceEqDiff, bound, consumeAll, buildParts, capsOf, capOf, List.append_nil, Nat.reduceAdd, Nat.reduceLT, Nat.reduceLeDiff, beq_self_eq_true, List.length_map, Nat.beq, dcall, dcallP, List.mapM_cons, St.snapFn, St.snap, St.layAll, St.lay, St.freezeArg, St.freezeArg1]
  rw [loop49l3 ho (fun l h => by have := hr l h; omega) (by omega) (by simp only [z_take_zero, rawFrom, List.map_nil, slAll, Nat.reduceMul, Nat.reduceBEq, Nat.reduceLT, Nat.reduceLeDiff, Nat.zero_le, List.take_zero, List.take_nil, List.take_succ_cons, List.length_cons, List.length_nil, Nat.le_refl, List.isEmpty_nil, val_pvs, frozen_pvs, msnoc_len, msnoc_get, msnoc_set, msnoc_take, Int.le_refl, take_map_all, Nat.le_refl, St.freezeRows, BV.frozen, List.take_length, List.take_append_drop, z_repl_zero, Int.toNat_zero, true_and, and_true, and_self, eq_self, z_take_zero, List.drop_nil, List.take_nil, vAll, List.foldl_nil, List.foldl_cons, resultsOf, resultList, resultOf, zBV, splice, PV.remade, St.freezeAt, St.freezeBox, St.freezeCap, PV.single, plain, act, dstOf, if_true, if_false, reduceCtorEq, St.get, St.put, St.pvOf, St.putRow, St.consume, St.freeze, St.row, St.elems, St.grab, St.takeRow, St.setRow, St.place, St.optPv, St.setCell, St.setCellRow, binPV, intBin, unPV, BV.val, Nat.reduceEqDiff, bound, consumeAll, buildParts, capsOf, capOf, List.append_nil, Nat.reduceAdd, Nat.reduceLT, Nat.reduceLeDiff, beq_self_eq_true, List.length_map, Nat.beq, dcall, dcallP, List.mapM_cons, St.snapFn, St.snap, St.layAll, St.lay, St.freezeArg, St.freezeArg1] <;> rfl)]
  simp only [h2, List.length_map, env50, h1, hsl, slAll, Nat.reduceMul, Nat.reduceBEq, Nat.reduceLT, Nat.reduceLeDiff, Nat.zero_le, List.take_zero, List.take_nil, List.take_succ_cons, List.length_cons, List.length_nil, Nat.le_refl, List.isEmpty_nil, val_pvs, frozen_pvs, msnoc_len, msnoc_get, msnoc_set, msnoc_take, Int.le_refl, take_map_all, Nat.le_refl, St.freezeRows, BV.frozen, List.take_length, List.take_append_drop, z_repl_zero, Int.toNat_zero, true_and, and_true, and_self, eq_self, z_take_zero, List.drop_nil, List.take_nil, vAll, List.foldl_nil, List.foldl_cons, resultsOf, resultList, resultOf, zBV, splice, PV.remade, St.freezeAt, St.freezeBox, St.freezeCap, PV.single, plain, act, dstOf, if_true, if_false, reduceCtorEq, St.get, St.put, St.pvOf, St.putRow, St.consume, St.freeze, St.row, St.elems, St.grab, St.takeRow, St.setRow, St.place, St.optPv, St.setCell, St.setCellRow, binPV, intBin, unPV, BV.val, Nat.reduceEqDiff, bound, consumeAll, buildParts, capsOf, capOf, List.append_nil, Nat.reduceAdd, Nat.reduceLT, Nat.reduceLeDiff, beq_self_eq_true, List.length_map, Nat.beq, dcall, dcallP, List.mapM_cons, St.snapFn, St.snap, St.layAll, St.lay, St.freezeArg, St.freezeArg1]
  rw [← hsl]
  unfold endsOf
  rw [take_map_all]
end Go.Proofs.Ytldmhbkfblbhaaa.V

namespace Go.Proofs
open Go.Shelf
def Try.sortEnd_ren : Go.Shelf.Ren := ⟨fun | 6 => 50 | 15 => 54 | 14 => 53 | 28 => 64 | 29 => 65 | 20 => 56 | 21 => 57 | 22 => 58 | 23 => 59 | 24 => 60 | 25 => 61 | 26 => 62 | 27 => 63 | 46 => 66 | 47 => 67 | 48 => 68 | 49 => 69 | 50 => 70 | 57 => 71 | n => n, fun | 22 => 63 | 24 => 67 | 25 => 71 | 3 => 3 | 39 => 74 | 0 => 0 | 53 => 85 | 55 => 87 | 4 => 4 | 46 => 78 | 45 => 77 | 50 => 82 | 5 => 5 | 9 => 9 | 66 => 88 | 70 => 92 | 76 => 94 | 77 => 95 | n => n, fun | n => n⟩
theorem Try.sortEnd : Go.Proofs.SlLaysF0.n6 Try.prog Try.sortEnd_ren := {
  mixed := by kernel_rfl
  f6 := ⟨Try.f50.name, by decide, Try.func50.trans (congrArg some (by kernel_rfl))⟩
  f14 := ⟨Try.f53.name, by decide, Try.func53.trans (congrArg some (by kernel_rfl))⟩
  f15 := Try.func54.trans (congrArg some (by kernel_rfl))
  f20 := ⟨Try.f56.name, by decide, Try.func56.trans (congrArg some (by kernel_rfl))⟩
  f21 := ⟨Try.f57.name, by decide, Try.func57.trans (congrArg some (by kernel_rfl))⟩
  f22 := ⟨Try.f58.name, by decide, Try.func58.trans (congrArg some (by kernel_rfl))⟩
  f23 := ⟨Try.f59.name, by decide, Try.func59.trans (congrArg some (by kernel_rfl))⟩
  f24 := ⟨Try.f60.name, by decide, Try.func60.trans (congrArg some (by kernel_rfl))⟩
  f25 := ⟨Try.f61.name, by decide, Try.func61.trans (congrArg some (by kernel_rfl))⟩
  f26 := ⟨Try.f62.name, by decide, Try.func62.trans (congrArg some (by kernel_rfl))⟩
  f27 := ⟨Try.f63.name, by decide, Try.func63.trans (congrArg some (by kernel_rfl))⟩
  f28 := Try.func64.trans (congrArg some (by kernel_rfl))
  f29 := Try.func65.trans (congrArg some (by kernel_rfl))
  f46 := ⟨Try.f66.name, by decide, Try.func66.trans (congrArg some (by kernel_rfl))⟩
  f47 := Try.func67.trans (congrArg some (by kernel_rfl))
  f48 := Try.func68.trans (congrArg some (by kernel_rfl))
  f49 := ⟨Try.f69.name, by decide, Try.func69.trans (congrArg some (by kernel_rfl))⟩
  f50 := ⟨Try.f70.name, by decide, Try.func70.trans (congrArg some (by kernel_rfl))⟩
  f57 := ⟨Try.f71.name, by decide, Try.func71.trans (congrArg some (by kernel_rfl))⟩
  t0 := Try.underlying0
  a0 := Try.isAgg0
  z0 := Try.sizeOf0
  v0 := Try.zeroValue0
  t3 := Try.underlying3
  a3 := Try.isAgg3
  z3 := Try.sizeOf3
  v3 := Try.zeroValue3
  t4 := Try.underlying4
  a4 := Try.isAgg4
  z4 := Try.sizeOf4
  v4 := Try.zeroValue4
  t5 := Try.underlying5
  a5 := Try.isAgg5
  z5 := Try.sizeOf5
  v5 := Try.zeroValue5
  t9 := Try.underlying9
  a9 := Try.isAgg9
  z9 := Try.sizeOf9
  v9 := Try.zeroValue9
  t22 := Try.underlying63
  a22 := Try.isAgg63
  z22 := Try.sizeOf63
  v22 := Try.zeroValue63
  t25 := Try.underlying71
  a25 := Try.isAgg71
  z25 := Try.sizeOf71
  v25 := Try.zeroValue71
  t39 := Try.underlying74
  a39 := Try.isAgg74
  z39 := Try.sizeOf74
  v39 := Try.zeroValue74
  t45 := Try.underlying77
  a45 := Try.isAgg77
  z45 := Try.sizeOf77
  v45 := Try.zeroValue77
  t46 := Try.underlying78
  a46 := Try.isAgg78
  z46 := Try.sizeOf78
  v46 := Try.zeroValue78
  t50 := Try.underlying82
  a50 := Try.isAgg82
  z50 := Try.sizeOf82
  v50 := Try.zeroValue82
  t53 := Try.underlying85
  a53 := Try.isAgg85
  z53 := Try.sizeOf85
  v53 := Try.zeroValue85
  t55 := Try.underlying87
  a55 := Try.isAgg87
  z55 := Try.sizeOf87
  v55 := Try.zeroValue87
  t66 := Try.underlying88
  a66 := Try.isAgg88
  z66 := Try.sizeOf88
  v66 := Try.zeroValue88
  t70 := Try.underlying92
  a70 := Try.isAgg92
  z70 := Try.sizeOf92
  v70 := Try.zeroValue92
  t76 := Try.underlying94
  a76 := Try.isAgg94
  z76 := Try.sizeOf94
  v76 := Try.zeroValue94
  t77 := Try.underlying95
  a77 := Try.isAgg95
  z77 := Try.sizeOf95
  v77 := Try.zeroValue95 }
def Try.cmpInt_ren : Go.Shelf.Ren := ⟨fun | 5 => 52 | 7 => 55 | n => n, fun | 22 => 3 | 3 => 3 | 4 => 4 | n => n, fun | n => n⟩
theorem Try.cmpInt : Go.Proofs.SlLaysC2.n5 Try.prog Try.cmpInt_ren := {
  mixed := by kernel_rfl
  f5 := ⟨Try.f52.name, by decide, Try.func52.trans (congrArg some (by kernel_rfl))⟩
  f7 := ⟨Try.f55.name, by decide, Try.func55.trans (congrArg some (by kernel_rfl))⟩
  t3 := Try.underlying3
  a3 := Try.isAgg3
  z3 := Try.sizeOf3
  v3 := Try.zeroValue3
  t4 := Try.underlying4
  a4 := Try.isAgg4
  z4 := Try.sizeOf4
  v4 := Try.zeroValue4
  t22 := Try.underlying3
  a22 := Try.isAgg3
  z22 := Try.sizeOf3
  v22 := Try.zeroValue3 }
end Go.Proofs
