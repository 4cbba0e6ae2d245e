/-
  Part 6 of the texts that the statement stands on.
-/
import Derived.Test.YtldnpgbacakfeaaZ5
import Derived.ProofKit
import Derived.SizedLaws
import Derived.OpenShut
import Derived.Deep.Strs
set_option linter.all false
namespace Go.Proofs.Ytldnpgbacakfeaa

def fn3 : VFn := ⟨2, 50, [.tmp 4], (.seq (.ops [.asg 4 (.c (.bool false))]) (.seq (.seq (.ops [.mov 9 (.t 1), .call 10 11 [(.t 9)], .un 11 .not (.t 10), .mov 12 (.t 11), .grd 12 false (.mov 13 (.t 0)), .grd 12 false (.len 14 (.t 13)), .grd 12 false (.bin 15 .gtr (.t 14) (.c (.int .i64 20))), .pick 16 (.t 12) (.c (.bool true)) (.t 15), .mov 17 (.t 16), .grd 17 false (.mov 18 (.t 0)), .grd 17 false (.call 19 12 [(.t 18), (.c (.func 13 []))]), .pick 20 (.t 17) (.c (.bool true)) (.t 19)]) (.cond (.t 20) (.seq (.ops [.call 21 14 [], .asg 4 (.t 21)]) .ret) .skip)) (.seq (.ops [.mov 23 (.t 0), .call 24 15 [(.t 23)], .mov 22 (.t 24), .ext 25 (.t 22) 0, .ext 26 (.t 22) 1, .asg 5 (.t 25), .asg 6 (.t 26)]) (.seq (.ops [.mov 28 (.t 0), .call 29 16 [(.t 28)], .mov 27 (.t 29), .ext 30 (.t 27) 0, .ext 31 (.t 27) 1, .asg 7 (.t 30), .asg 8 (.t 31)]) (.seq (.ops [.mov 32 (.t 6), .mov 33 (.t 8), .bin 34 .eql (.t 32) (.t 33), .mov 35 (.t 34), .grd 35 true (.mov 36 (.t 5)), .grd 35 true (.mov 37 (.t 7)), .grd 35 true (.call 38 17 [(.t 36), (.t 37)]), .pick 39 (.t 35) (.t 38) (.c (.bool false)), .mov 40 (.t 39), .grd 40 true (.mov 41 (.t 1)), .grd 40 true (.call 42 18 [(.t 41)]), .grd 40 true (.mov 43 (.t 1)), .grd 40 true (.call 44 19 [(.t 43)]), .grd 40 true (.bin 45 .eql (.t 42) (.t 44)), .pick 46 (.t 40) (.t 45) (.c (.bool false)), .mov 47 (.t 46), .grd 47 true (.call 48 14 []), .pick 49 (.t 47) (.t 48) (.c (.bool false)), .asg 4 (.t 49)]) .ret)))))⟩
def fn4_b0 : VCode := (.seq (.ops [.bin 25 .lss (.t 24) (.t 23)]) (.seq (.cond (.t 25) .skip (.exit 0)) (.seq (.block 1 (.seq (.ops [.iadr 26 3 (.t 22) (.t 24), .load 27 (some 3) (.t 26), .alloc 6 [(.int .i64 0), (.int .i64 0), (.list 0 [])], .store none 3 (.t 6) (.t 27)]) (.seq (.drw [] [([0, 1, 3, 4], 2), ([], 5)] none [6] [.mov 28 (.t 0), .load 29 (some 3) (.t 6), .mov 31 (.t 0), .load 32 (some 3) (.t 6), .call 30 21 [(.t 28), (.t 29)], .call 33 22 [(.t 31), (.t 32)], .bin 34 .neq (.t 30) (.t 33)]) (.cond (.t 34) (.seq (.ops [.asg 4 (.c (.bool false))]) .ret) .skip)))) (.ops [.bin 35 .add (.t 24) (.c (.int .i64 1)), .mov 24 (.t 35)]))))
def fn4_l1 : VCode :=
(.clean [0, 1, 22, 23, 24] [0, 1, 4] (.block 0 (.loop [0, 1, 22, 23, 24] fn4_b0)))
def fn4 : VFn := ⟨2, 66, [.tmp 4], (.seq (.ops [.asg 4 (.c (.bool false))]) (.seq (.seq (.ops [.mov 13 (.t 0), .call 14 11 [(.t 13)], .un 15 .not (.t 14), .mov 16 (.t 15), .grd 16 false (.mov 17 (.t 1)), .grd 16 false (.call 18 20 [(.t 17)]), .grd 16 false (.un 19 .not (.t 18)), .pick 20 (.t 16) (.c (.bool true)) (.t 19)]) (.cond (.t 20) (.seq (.ops [.call 21 14 [], .asg 4 (.t 21)]) .ret) .skip)) (.seq (.seq (.ops [.mov 22 (.t 1), .len 23 (.t 22), .mov 24 (.c (.int .i64 0))])
     fn4_l1) (.seq (.ops [.mov 37 (.t 0), .mov 38 (.t 1), .call 39 23 [(.t 37), (.t 38)], .mov 36 (.t 39), .ext 40 (.t 36) 0, .ext 41 (.t 36) 1, .ext 42 (.t 36) 2, .asg 7 (.t 40), .asg 8 (.t 41), .asg 9 (.t 42)]) (.seq (.ops [.mov 44 (.t 0), .mov 45 (.t 1), .call 46 24 [(.t 44), (.t 45)], .mov 43 (.t 46), .ext 47 (.t 43) 0, .ext 48 (.t 43) 1, .ext 49 (.t 43) 2, .asg 10 (.t 47), .asg 11 (.t 48), .asg 12 (.t 49)]) (.seq (.ops [.mov 50 (.t 7), .mov 51 (.t 10), .call 52 17 [(.t 50), (.t 51)], .mov 53 (.t 52), .grd 53 true (.mov 54 (.t 8)), .grd 53 true (.mov 55 (.t 11)), .grd 53 true (.bin 56 .eql (.t 54) (.t 55)), .pick 57 (.t 53) (.t 56) (.c (.bool false)), .mov 58 (.t 57), .grd 58 true (.mov 59 (.t 9)), .grd 58 true (.mov 60 (.t 12)), .grd 58 true (.bin 61 .eql (.t 59) (.t 60)), .pick 62 (.t 58) (.t 61) (.c (.bool false)), .mov 63 (.t 62), .grd 63 true (.call 64 14 []), .pick 65 (.t 63) (.t 64) (.c (.bool false)), .asg 4 (.t 65)]) .ret))))))⟩
def fn5_b0 : VCode := (.seq (.ops [.bin 85 .lss (.t 84) (.t 83)]) (.seq (.cond (.t 85) .skip (.exit 4)) (.seq (.block 5 (.seq (.ops [.iadr 86 3 (.t 82) (.t 84), .load 87 (some 3) (.t 86), .alloc 13 [(.int .i64 0), (.int .i64 0), (.list 0 [])], .store none 3 (.t 13) (.t 87)]) (.seq (.ops [.fadr 88 (.t 13) 0, .load 89 none (.t 88), .mov 90 (.t 9), .bin 91 .eql (.t 89) (.t 90), .mov 92 (.t 91), .grd 92 true (.mov 93 (.t 10)), .grd 92 true (.fadr 94 (.t 13) 1), .grd 92 true (.load 95 none (.t 94)), .grd 92 true (.bin 96 .geq (.t 93) (.t 95)), .pick 97 (.t 92) (.t 96) (.c (.bool false)), .mov 98 (.t 97), .grd 98 true (.mov 99 (.t 10)), .grd 98 true (.fadr 100 (.t 13) 1), .grd 98 true (.load 101 none (.t 100)), .grd 98 true (.bin 102 .sub (.t 99) (.t 101)), .grd 98 true (.fadr 103 (.t 13) 2), .grd 98 true (.load 104 none (.t 103)), .grd 98 true (.len 105 (.t 104)), .grd 98 true (.bin 106 .lss (.t 102) (.t 105)), .pick 107 (.t 98) (.t 106) (.c (.bool false))]) (.cond (.t 107) (.ops [.fadr 108 (.t 13) 2, .load 109 none (.t 108), .mov 110 (.t 10), .fadr 111 (.t 13) 1, .load 112 none (.t 111), .bin 113 .sub (.t 110) (.t 112), .iadr 114 8 (.t 109) (.t 113), .load 115 (some 8) (.t 114), .store none 8 (.t 11) (.t 115)]) .skip)))) (.ops [.bin 116 .add (.t 84) (.c (.int .i64 1)), .mov 84 (.t 116)]))))
def fn5_l1 : VCode :=
(.clean [1, 5, 6, 9, 10, 11, 24, 29, 52, 53, 71, 72, 82, 83, 84] [1, 4, 5, 6, 9, 10, 11, 24, 29, 52, 53, 71, 72] (.block 4 (.loop [1, 5, 6, 9, 10, 11, 24, 29, 52, 53, 71, 72, 82, 83, 84] fn5_b0)))
def fn5_b2 : VCode := (.seq (.ops [.bin 73 .lss (.t 72) (.t 71)]) (.seq (.cond (.t 73) .skip (.exit 2)) (.seq (.block 3 (.seq (.ops [.mov 74 (.t 72), .asg 10 (.t 74)]) (.seq (.ops [.mov 75 (.t 5), .mov 76 (.t 9), .iadr 77 1 (.t 75) (.t 76), .load 78 none (.t 77), .mov 79 (.t 10), .iadr 80 8 (.t 78) (.t 79), .load 81 (some 8) (.t 80), .alloc 11 [(.int .u8 0), (.int .u8 0), (.int .u8 0), (.int .u8 0), (.int .u8 0), (.int .u8 0), (.int .u8 0), (.int .u8 0)], .store none 8 (.t 11) (.t 81)]) (.seq (.seq (.ops [.mov 82 (.t 1), .len 83 (.t 82), .mov 84 (.c (.int .i64 0))])
         fn5_l1) (.seq (.drw [] [] none [0, 1, 2, 3, 4, 5, 6, 7, 8] [.mov 117 (.t 6), .mov 118 (.t 9), .iadr 119 1 (.t 117) (.t 118), .load 120 none (.t 119), .mov 121 (.t 10), .iadr 122 8 (.t 120) (.t 121), .load 123 (some 8) (.t 122), .load 124 (some 8) (.t 11), .eqa 125 true 8 (.t 123) (.t 124)]) (.cond (.t 125) (.seq (.ops [.asg 4 (.c (.bool false))]) .ret) .skip)))))) (.ops [.bin 126 .add (.t 72) (.c (.int .i64 1)), .mov 72 (.t 126)]))))
def fn5_l3 : VCode :=
(.clean [1, 5, 6, 9, 24, 29, 52, 53, 71, 72] [1, 4, 5, 6, 24, 29, 52, 53] (.block 2 (.loop [1, 5, 6, 9, 24, 29, 52, 53, 71, 72] fn5_b2)))
def fn5_b4 : VCode := (.seq (.ops [.bin 54 .lss (.t 53) (.t 52)]) (.seq (.cond (.t 54) .skip (.exit 0)) (.seq (.block 1 (.seq (.ops [.mov 55 (.t 53), .asg 9 (.t 55)]) (.seq (.seq (.drw [] [] none [0, 1, 2, 3, 4, 5, 6, 7, 8, 9, 10] [.mov 56 (.t 6), .mov 57 (.t 9), .iadr 58 1 (.t 56) (.t 57), .load 59 none (.t 58), .len 60 (.t 59), .mov 61 (.t 5), .mov 62 (.t 9), .iadr 63 1 (.t 61) (.t 62), .load 64 none (.t 63), .len 65 (.t 64), .bin 66 .neq (.t 60) (.t 65)]) (.cond (.t 66) (.seq (.ops [.asg 4 (.c (.bool false))]) .ret) .skip)) (.seq (.ops [.mov 67 (.t 5), .mov 68 (.t 9), .iadr 69 1 (.t 67) (.t 68), .load 70 none (.t 69), .len 71 (.t 70), .mov 72 (.c (.int .i64 0))])
        fn5_l3)))) (.ops [.bin 127 .add (.t 53) (.c (.int .i64 1)), .mov 53 (.t 127)]))))
def fn5_l5 : VCode :=
(.clean [1, 5, 6, 24, 29, 52, 53] [4] (.block 0 (.loop [1, 5, 6, 24, 29, 52, 53] fn5_b4)))
def fn5 : VFn := ⟨2, 129, [.tmp 4], (.seq (.ops [.asg 4 (.c (.bool false))]) (.seq (.seq (.ops [.mov 14 (.t 0), .call 15 11 [(.t 14)], .un 16 .not (.t 15), .mov 17 (.t 16), .grd 17 false (.mov 18 (.t 1)), .grd 17 false (.call 19 20 [(.t 18)]), .grd 17 false (.un 20 .not (.t 19)), .pick 21 (.t 17) (.c (.bool true)) (.t 20)]) (.cond (.t 21) (.seq (.ops [.call 22 14 [], .asg 4 (.t 22)]) .ret) .skip)) (.seq (.ops [.mov 23 (.t 0), .call 24 25 [(.t 23)], .asg 5 (.t 24)]) (.seq (.ops [.mov 26 (.t 0), .mov 27 (.t 1), .call 28 23 [(.t 26), (.t 27)], .mov 25 (.t 28), .ext 29 (.t 25) 0, .ext 30 (.t 25) 1, .ext 31 (.t 25) 2, .asg 6 (.t 29), .asg 7 (.t 30), .asg 8 (.t 31)]) (.seq (.seq (.ops [.mov 32 (.t 8), .bin 33 .neq (.t 32) (.c (.int .i64 0))]) (.cond (.t 33) (.seq (.ops [.mov 34 (.t 6), .len 35 (.t 34), .bin 36 .eql (.t 35) (.c (.int .i64 0)), .mov 37 (.t 36), .grd 37 true (.call 38 14 []), .pick 39 (.t 37) (.t 38) (.c (.bool false)), .asg 4 (.t 39)]) .ret) .skip)) (.seq (.seq (.ops [.mov 40 (.t 0), .mov 41 (.t 5), .call 42 17 [(.t 40), (.t 41)], .un 43 .not (.t 42), .mov 44 (.t 43), .grd 44 false (.mov 45 (.t 6)), .grd 44 false (.len 46 (.t 45)), .grd 44 false (.mov 47 (.t 5)), .grd 44 false (.len 48 (.t 47)), .grd 44 false (.bin 49 .neq (.t 46) (.t 48)), .pick 50 (.t 44) (.c (.bool true)) (.t 49)]) (.cond (.t 50) (.seq (.ops [.asg 4 (.c (.bool false))]) .ret) .skip)) (.seq (.seq (.ops [.mov 51 (.t 5), .len 52 (.t 51), .mov 53 (.c (.int .i64 0))])
         fn5_l5) (.seq (.ops [.call 128 14 [], .asg 4 (.t 128)]) .ret))))))))⟩
def fn6 : VFn := ⟨3, 125, [.tmp 6], (.seq (.ops [.asg 6 (.c (.bool false))]) (.seq (.seq (.ops [.mov 21 (.t 0), .call 22 11 [(.t 21)], .un 23 .not (.t 22), .mov 24 (.t 23), .grd 24 false (.mov 25 (.t 1)), .grd 24 false (.call 26 20 [(.t 25)]), .grd 24 false (.un 27 .not (.t 26)), .pick 28 (.t 24) (.c (.bool true)) (.t 27)]) (.cond (.t 28) (.seq (.ops [.call 29 14 [], .asg 6 (.t 29)]) .ret) .skip)) (.seq (.ops [.mov 30 (.t 2), .conv 31 .i64 (.t 30), .mov 32 (.t 1), .len 33 (.t 32), .bin 34 .add (.t 33) (.c (.int .i64 1)), .bin 35 .rem (.t 31) (.t 34), .asg 7 (.t 35)]) (.seq (.ops [.mov 37 (.t 0), .mov 38 (.t 1), .call 39 23 [(.t 37), (.t 38)], .mov 36 (.t 39), .ext 40 (.t 36) 0, .ext 41 (.t 36) 1, .ext 42 (.t 36) 2, .asg 8 (.t 40), .asg 9 (.t 41), .asg 10 (.t 42)]) (.seq (.ops [.mov 44 (.t 0), .mov 45 (.t 1), .mov 46 (.t 7), .sli 47 3 (.t 45) none (some (.t 46)), .call 48 23 [(.t 44), (.t 47)], .mov 43 (.t 48), .ext 49 (.t 43) 0, .ext 50 (.t 43) 1, .ext 51 (.t 43) 2, .asg 11 (.t 49), .asg 12 (.t 50), .asg 13 (.t 51)]) (.seq (.seq (.ops [.mov 52 (.t 13), .bin 53 .neq (.t 52) (.c (.int .i64 0))]) (.cond (.t 53) (.seq (.ops [.mov 54 (.t 10), .mov 55 (.t 13), .bin 56 .eql (.t 54) (.t 55), .mov 57 (.t 56), .grd 57 true (.mov 58 (.t 12)), .grd 57 true (.mov 59 (.t 7)), .grd 57 true (.mn 60 true (.t 59) (.c (.int .i64 1))), .grd 57 true (.bin 61 .lss (.t 58) (.t 60)), .pick 62 (.t 57) (.t 61) (.c (.bool false)), .mov 63 (.t 62), .grd 63 true (.call 64 14 []), .pick 65 (.t 63) (.t 64) (.c (.bool false)), .asg 6 (.t 65)]) .ret) .skip)) (.seq (.ops [.mov 67 (.t 11), .mov 68 (.t 1), .mov 69 (.t 7), .sli 70 3 (.t 68) (some (.t 69)) none, .call 71 23 [(.t 67), (.t 70)], .mov 66 (.t 71), .ext 72 (.t 66) 0, .ext 73 (.t 66) 1, .ext 74 (.t 66) 2, .asg 14 (.t 72), .asg 15 (.t 73), .asg 16 (.t 74)]) (.seq (.seq (.ops [.mov 75 (.t 10), .mov 76 (.t 16), .bin 77 .neq (.t 75) (.t 76), .mov 78 (.t 77), .grd 78 false (.mov 79 (.t 8)), .grd 78 false (.mov 80 (.t 14)), .grd 78 false (.call 81 17 [(.t 79), (.t 80)]), .grd 78 false (.un 82 .not (.t 81)), .pick 83 (.t 78) (.c (.bool true)) (.t 82), .mov 84 (.t 83), .grd 84 false (.mov 85 (.t 10)), .grd 84 false (.bin 86 .neq (.t 85) (.c (.int .i64 0))), .grd 84 false (.mov 87 (.t 86)), .grd 87 true (.mov 88 (.t 15)), .grd 87 true (.mov 89 (.t 1)), .grd 87 true (.len 90 (.t 89)), .grd 87 true (.mov 91 (.t 7)), .grd 87 true (.bin 92 .sub (.t 90) (.t 91)), .grd 87 true (.bin 93 .geq (.t 88) (.t 92)), .grd 84 false (.pick 94 (.t 87) (.t 93) (.c (.bool false))), .pick 95 (.t 84) (.c (.bool true)) (.t 94)]) (.cond (.t 95) (.seq (.ops [.asg 6 (.c (.bool false))]) .ret) .skip)) (.seq (.seq (.ops [.mov 96 (.t 10), .bin 97 .neq (.t 96) (.c (.int .i64 0))]) (.cond (.t 97) (.seq (.ops [.call 98 14 [], .asg 6 (.t 98)]) .ret) .skip)) (.seq (.ops [.mov 100 (.t 0), .mov 101 (.t 8), .call 102 26 [(.t 100), (.t 101)], .mov 99 (.t 102), .ext 103 (.t 99) 0, .ext 104 (.t 99) 1, .asg 17 (.t 103), .asg 18 (.t 104)]) (.seq (.ops [.mov 106 (.t 8), .mov 107 (.t 0), .call 108 26 [(.t 106), (.t 107)], .mov 105 (.t 108), .ext 109 (.t 105) 0, .ext 110 (.t 105) 1, .asg 19 (.t 109), .asg 20 (.t 110)]) (.seq (.ops [.mov 111 (.t 18), .bin 112 .eql (.t 111) (.c (.int .i64 0)), .mov 113 (.t 112), .grd 113 true (.mov 114 (.t 20)), .grd 113 true (.bin 115 .eql (.t 114) (.c (.int .i64 0))), .pick 116 (.t 113) (.t 115) (.c (.bool false)), .mov 117 (.t 116), .grd 117 true (.mov 118 (.t 17)), .grd 117 true (.mov 119 (.t 19)), .grd 117 true (.call 120 27 [(.t 118), (.t 119)]), .pick 121 (.t 117) (.t 120) (.c (.bool false)), .mov 122 (.t 121), .grd 122 true (.call 123 14 []), .pick 124 (.t 122) (.t 123) (.c (.bool false)), .asg 6 (.t 124)]) .ret))))))))))))⟩
def fn7 : VFn := ⟨3, 40, [.tmp 6], (.seq (.ops [.box 5 (.t 2), .asg 6 (.c (.bool false))]) (.seq (.seq (.ops [.mov 11 (.t 0), .call 12 11 [(.t 11)], .un 13 .not (.t 12)]) (.cond (.t 13) (.seq (.ops [.call 14 14 [], .asg 6 (.t 14)]) .ret) .skip)) (.seq (.ops [.mov 16 (.t 0), .mov 17 (.t 1), .load 18 (some 2) (.t 5), .call 19 28 [(.t 16), (.t 17), (.t 18)], .mov 15 (.t 19), .ext 20 (.t 15) 0, .ext 21 (.t 15) 1, .asg 7 (.t 20), .asg 8 (.t 21)]) (.seq (.ops [.mov 23 (.t 0), .mov 24 (.t 1), .load 25 (some 2) (.t 5), .call 26 29 [(.t 23), (.t 24), (.t 25)], .mov 22 (.t 26), .ext 27 (.t 22) 0, .ext 28 (.t 22) 1, .asg 9 (.t 27), .asg 10 (.t 28)]) (.seq (.ops [.mov 29 (.t 7), .mov 30 (.t 9), .call 31 30 [(.t 29), (.t 30)], .mov 32 (.t 31), .grd 32 true (.mov 33 (.t 8)), .grd 32 true (.mov 34 (.t 10)), .grd 32 true (.bin 35 .eql (.t 33) (.t 34)), .pick 36 (.t 32) (.t 35) (.c (.bool false)), .mov 37 (.t 36), .grd 37 true (.call 38 14 []), .pick 39 (.t 37) (.t 38) (.c (.bool false)), .asg 6 (.t 39)]) .ret)))))⟩
def fn8 : VFn := ⟨2, 76, [.tmp 4], (.seq (.ops [.asg 4 (.c (.bool false))]) (.seq (.seq (.ops [.mov 13 (.t 0), .call 14 11 [(.t 13)], .un 15 .not (.t 14), .mov 16 (.t 15), .grd 16 false (.mov 17 (.t 1)), .grd 16 false (.call 18 11 [(.t 17)]), .grd 16 false (.un 19 .not (.t 18)), .pick 20 (.t 16) (.c (.bool true)) (.t 19)]) (.cond (.t 20) (.seq (.ops [.call 21 14 [], .asg 4 (.t 21)]) .ret) .skip)) (.seq (.ops [.mov 23 (.t 0), .mov 24 (.t 1), .call 25 26 [(.t 23), (.t 24)], .mov 22 (.t 25), .ext 26 (.t 22) 0, .ext 27 (.t 22) 1, .asg 5 (.t 26), .asg 6 (.t 27)]) (.seq (.ops [.mov 29 (.t 0), .mov 30 (.t 1), .call 31 31 [(.t 29), (.t 30)], .mov 28 (.t 31), .ext 32 (.t 28) 0, .ext 33 (.t 28) 1, .asg 7 (.t 32), .asg 8 (.t 33)]) (.seq (.ops [.mov 35 (.t 0), .mov 36 (.t 1), .call 37 32 [(.t 35), (.t 36)], .mov 34 (.t 37), .ext 38 (.t 34) 0, .ext 39 (.t 34) 1, .asg 9 (.t 38), .asg 10 (.t 39)]) (.seq (.ops [.mov 41 (.t 0), .mov 42 (.t 1), .call 43 33 [(.t 41), (.t 42)], .mov 40 (.t 43), .ext 44 (.t 40) 0, .ext 45 (.t 40) 1, .asg 11 (.t 44), .asg 12 (.t 45)]) (.seq (.ops [.mov 46 (.t 0), .mov 47 (.t 1), .call 48 34 [(.t 46), (.t 47)], .mov 49 (.t 0), .mov 50 (.t 1), .call 51 17 [(.t 49), (.t 50)], .eqb 52 false (.t 48) (.t 51), .mov 53 (.t 52), .grd 53 true (.mov 54 (.t 5)), .grd 53 true (.mov 55 (.t 7)), .grd 53 true (.call 56 27 [(.t 54), (.t 55)]), .pick 57 (.t 53) (.t 56) (.c (.bool false)), .mov 58 (.t 57), .grd 58 true (.mov 59 (.t 6)), .grd 58 true (.mov 60 (.t 8)), .grd 58 true (.bin 61 .eql (.t 59) (.t 60)), .pick 62 (.t 58) (.t 61) (.c (.bool false)), .mov 63 (.t 62), .grd 63 true (.mov 64 (.t 9)), .grd 63 true (.mov 65 (.t 11)), .grd 63 true (.call 66 35 [(.t 64), (.t 65)]), .pick 67 (.t 63) (.t 66) (.c (.bool false)), .mov 68 (.t 67), .grd 68 true (.mov 69 (.t 10)), .grd 68 true (.mov 70 (.t 12)), .grd 68 true (.bin 71 .eql (.t 69) (.t 70)), .pick 72 (.t 68) (.t 71) (.c (.bool false)), .mov 73 (.t 72), .grd 73 true (.call 74 14 []), .pick 75 (.t 73) (.t 74) (.c (.bool false)), .asg 4 (.t 75)]) .ret)))))))⟩
def fn9_b0 : VCode := (.seq (.ops [.bin 89 .lss (.t 88) (.t 87)]) (.seq (.cond (.t 89) .skip (.exit 2)) (.seq (.block 3 (.seq (.ops [.mov 90 (.t 88), .asg 14 (.t 90)]) (.seq (.drw [] [] none [0, 1, 2, 3, 4, 5, 6, 7, 8, 9, 10, 11, 12, 13, 14] [.mov 91 (.t 0), .mov 92 (.t 12), .iadr 93 1 (.t 91) (.t 92), .load 94 none (.t 93), .mov 95 (.t 14), .iadr 96 8 (.t 94) (.t 95), .load 97 (some 8) (.t 96), .mov 98 (.t 1), .mov 99 (.t 12), .iadr 100 1 (.t 98) (.t 99), .load 101 none (.t 100), .mov 102 (.t 14), .iadr 103 8 (.t 101) (.t 102), .load 104 (some 8) (.t 103), .eqa 105 true 8 (.t 97) (.t 104)]) (.cond (.t 105) (.ops [.mov 106 (.t 10), .bin 107 .add (.t 106) (.c (.int .i64 1)), .asg 10 (.t 107)]) .skip)))) (.ops [.bin 108 .add (.t 88) (.c (.int .i64 1)), .mov 88 (.t 108)]))))
def fn9_l1 : VCode :=
(.clean [0, 1, 5, 10, 11, 12, 43, 79, 80, 81, 87, 88] [0, 1, 4, 5, 10, 11, 43, 79, 80, 81] (.block 2 (.loop [0, 1, 5, 10, 11, 12, 43, 79, 80, 81, 87, 88] fn9_b0)))
def fn9_b2 : VCode := (.seq (.ops [.bin 82 .lss (.t 81) (.t 80)]) (.seq (.cond (.t 82) .skip (.exit 0)) (.seq (.block 1 (.seq (.ops [.mov 83 (.t 81), .iadr 84 1 (.t 79) (.t 81), .load 85 none (.t 84), .asg 12 (.t 83), .asg 13 (.t 85)]) (.seq (.ops [.mov 86 (.t 13), .len 87 (.t 86), .mov 88 (.c (.int .i64 0))])
       fn9_l1))) (.ops [.bin 109 .add (.t 81) (.c (.int .i64 1)), .mov 81 (.t 109)]))))
def fn9_l3 : VCode :=
(.clean [0, 1, 5, 10, 11, 43, 79, 80, 81] [4, 5, 10, 11, 43] (.block 0 (.loop [0, 1, 5, 10, 11, 43, 79, 80, 81] fn9_b2)))
def fn9_b4 : VCode := (.seq (.ops [.bin 113 .lss (.t 112) (.t 111)]) (.seq (.cond (.t 113) .skip (.exit 4)) (.seq (.block 5 (.seq (.ops [.iadr 114 3 (.t 110) (.t 112), .load 115 (some 3) (.t 114), .alloc 16 [(.int .i64 0), (.int .i64 0), (.list 0 [])], .store none 3 (.t 16) (.t 115)]) (.ops [.mov 116 (.t 11), .fadr 117 (.t 16) 2, .load 118 none (.t 117), .len 119 (.t 118), .bin 120 .add (.t 116) (.t 119), .asg 11 (.t 120)]))) (.ops [.bin 121 .add (.t 112) (.c (.int .i64 1)), .mov 112 (.t 121)]))))
def fn9_l5 : VCode :=
(.clean [5, 10, 11, 43, 110, 111, 112] [4, 10, 11] (.block 4 (.loop [5, 10, 11, 43, 110, 111, 112] fn9_b4)))
def fn9 : VFn := ⟨2, 128, [.tmp 4], (.seq (.ops [.asg 4 (.c (.bool false))]) (.seq (.seq (.ops [.mov 17 (.t 0), .call 18 11 [(.t 17)], .un 19 .not (.t 18), .mov 20 (.t 19), .grd 20 false (.mov 21 (.t 1)), .grd 20 false (.call 22 11 [(.t 21)]), .grd 20 false (.un 23 .not (.t 22)), .pick 24 (.t 20) (.c (.bool true)) (.t 23), .mov 25 (.t 24), .grd 25 false (.mov 26 (.t 0)), .grd 25 false (.call 27 18 [(.t 26)]), .grd 25 false (.bin 28 .neq (.t 27) (.c (.int .i64 0))), .pick 29 (.t 25) (.c (.bool true)) (.t 28), .mov 30 (.t 29), .grd 30 false (.mov 31 (.t 0)), .grd 30 false (.call 32 37 [(.t 31)]), .grd 30 false (.mov 33 (.t 1)), .grd 30 false (.call 34 37 [(.t 33)]), .grd 30 false (.call 35 36 [(.t 32), (.t 34)]), .grd 30 false (.un 36 .not (.t 35)), .pick 37 (.t 30) (.c (.bool true)) (.t 36)]) (.cond (.t 37) (.seq (.ops [.call 38 14 [], .asg 4 (.t 38)]) .ret) .skip)) (.seq (.ops [.mov 40 (.t 0), .mov 41 (.t 1), .call 42 32 [(.t 40), (.t 41)], .mov 39 (.t 42), .ext 43 (.t 39) 0, .ext 44 (.t 39) 1, .asg 5 (.t 43), .asg 6 (.t 44)]) (.seq (.ops [.mov 46 (.t 0), .mov 47 (.t 5), .call 48 23 [(.t 46), (.t 47)], .mov 45 (.t 48), .ext 49 (.t 45) 0, .ext 50 (.t 45) 1, .ext 51 (.t 45) 2, .asg 7 (.t 49), .asg 8 (.t 50), .asg 9 (.t 51)]) (.seq (.seq (.ops [.mov 52 (.t 6), .bin 53 .neq (.t 52) (.c (.int .i64 0)), .mov 54 (.t 53), .grd 54 false (.mov 55 (.t 9)), .grd 54 false (.bin 56 .neq (.t 55) (.c (.int .i64 0))), .pick 57 (.t 54) (.c (.bool true)) (.t 56), .mov 58 (.t 57), .grd 58 false (.mov 59 (.t 7)), .grd 58 false (.mov 60 (.t 1)), .grd 58 false (.call 61 34 [(.t 59), (.t 60)]), .grd 58 false (.un 62 .not (.t 61)), .pick 63 (.t 58) (.c (.bool true)) (.t 62), .mov 64 (.t 63), .grd 64 false (.mov 65 (.t 7)), .grd 64 false (.mov 66 (.t 1)), .grd 64 false (.call 67 17 [(.t 65), (.t 66)]), .grd 64 false (.un 68 .not (.t 67)), .pick 69 (.t 64) (.c (.bool true)) (.t 68), .mov 70 (.t 69), .grd 70 false (.mov 71 (.t 5)), .grd 70 false (.len 72 (.t 71)), .grd 70 false (.bin 73 .eql (.t 72) (.c (.int .i64 0))), .grd 70 false (.mov 74 (.t 0)), .grd 70 false (.mov 75 (.t 1)), .grd 70 false (.call 76 34 [(.t 74), (.t 75)]), .grd 70 false (.eqb 77 true (.t 73) (.t 76)), .pick 78 (.t 70) (.c (.bool true)) (.t 77)]) (.cond (.t 78) (.seq (.ops [.asg 4 (.c (.bool false))]) .ret) .skip)) (.seq (.ops [.asg 10 (.c (.int .i64 0)), .asg 11 (.c (.int .i64 0))]) (.seq (.seq (.ops [.mov 79 (.t 0), .len 80 (.t 79), .mov 81 (.c (.int .i64 0))])
         fn9_l3) (.seq (.seq (.ops [.mov 110 (.t 5), .len 111 (.t 110), .mov 112 (.c (.int .i64 0))])
          fn9_l5) (.seq (.ops [.mov 122 (.t 10), .mov 123 (.t 11), .bin 124 .eql (.t 122) (.t 123), .mov 125 (.t 124), .grd 125 true (.call 126 14 []), .pick 127 (.t 125) (.t 126) (.c (.bool false)), .asg 4 (.t 127)]) .ret)))))))))⟩
def fn10 : VFn := ⟨1, 15, [.tmp 2], (.seq (.ops [.asg 2 (.c (.bool false))]) (.seq (.seq (.ops [.mov 3 (.t 0), .call 4 11 [(.t 3)], .un 5 .not (.t 4)]) (.cond (.t 5) (.seq (.ops [.call 6 14 [], .asg 2 (.t 6)]) .ret) .skip)) (.seq (.ops [.mov 7 (.t 0), .call 8 38 [(.t 7)], .mov 9 (.t 0), .call 10 39 [(.t 9)], .bin 11 .eql (.t 8) (.t 10), .mov 12 (.t 11), .grd 12 true (.call 13 14 []), .pick 14 (.t 12) (.t 13) (.c (.bool false)), .asg 2 (.t 14)]) .ret)))⟩
def fn11_b0 : VCode := (.seq (.seq (.ops [.mov 7 (.t 3), .mov 8 (.t 0), .len 9 (.t 8), .bin 10 .lss (.t 7) (.t 9)]) (.cond (.t 10) .skip (.exit 0))) (.seq (.block 1 (.seq (.ops [.mov 13 (.t 0), .mov 14 (.t 3), .iadr 15 1 (.t 13) (.t 14), .load 16 none (.t 15), .len 17 (.t 16), .bin 18 .gtr (.t 17) (.c (.int .i64 24))]) (.cond (.t 18) (.seq (.ops [.asg 2 (.c (.bool false))]) .ret) .skip))) (.ops [.mov 11 (.t 3), .bin 12 .add (.t 11) (.c (.int .i64 1)), .asg 3 (.t 12)])))
def fn11_l1 : VCode :=
(.clean [0, 3] [2] (.block 0 (.loop [0, 3] fn11_b0)))
def fn11 : VFn := ⟨1, 19, [.tmp 2], (.seq (.ops [.asg 2 (.c (.bool false))]) (.seq (.seq (.ops [.mov 4 (.t 0), .len 5 (.t 4), .bin 6 .gtr (.t 5) (.c (.int .i64 9))]) (.cond (.t 6) (.seq (.ops [.asg 2 (.c (.bool false))]) .ret) .skip)) (.seq (.seq (.ops [.asg 3 (.c (.int .i64 0))])
     fn11_l1) (.seq (.ops [.asg 2 (.c (.bool true))]) .ret))))⟩
def fn12 : VFn := ⟨2, 9, [.tmp 4], (.seq (.ops [.asg 4 (.c (.bool false))]) (.seq (.ops [.mov 5 (.t 0), .mov 6 (.t 1), .call 7 40 [(.t 5), (.t 6)], .bin 8 .geq (.t 7) (.c (.int .i64 0)), .asg 4 (.t 8)]) .ret))⟩
def fn13 : VFn := ⟨1, 9, [.tmp 2], (.seq (.ops [.asg 2 (.c (.bool false))]) (.seq (.ops [.mov 3 (.t 0), .bin 4 .gtr (.t 3) (.c (.int .i64 100)), .mov 5 (.t 4), .grd 5 true (.mov 6 (.t 0)), .grd 5 true (.bin 7 .lss (.t 6) (.c (.int .i64 4096))), .pick 8 (.t 5) (.t 7) (.c (.bool false)), .asg 2 (.t 8)]) .ret))⟩
def fn14 : VFn := ⟨0, 135, [.tmp 0], (.seq (.ops [.asg 0 (.c (.bool false))]) (.seq (.ops [.mksl 14 1 [(.c (.int .i64 4)), (.c (.int .i64 2))], .call 15 15 [(.t 14)], .mov 13 (.t 15), .ext 16 (.t 13) 0, .ext 17 (.t 13) 1, .asg 1 (.t 16), .asg 2 (.t 17)]) (.seq (.ops [.mov 19 (.t 1), .call 20 41 [(.c (.int .u8 1))], .call 21 41 [(.c (.int .u8 2))], .mksl 22 8 [(.t 20), (.t 21)], .build 23 [(.int .i64 0), (.int .i64 0), (.list 0 [])] [(1, 1, (.c (.int .i64 1))), (2, 1, (.t 22))], .call 24 41 [(.c (.int .u8 3))], .mksl 25 8 [(.t 24)], .build 26 [(.int .i64 0), (.int .i64 0), (.list 0 [])] [(1, 1, (.c (.int .i64 2))), (2, 1, (.t 25))], .mksl 27 3 [(.t 23), (.t 26)], .call 28 23 [(.t 19), (.t 27)], .mov 18 (.t 28), .ext 29 (.t 18) 0, .ext 30 (.t 18) 1, .ext 31 (.t 18) 2, .asg 3 (.t 29), .asg 4 (.t 30), .asg 5 (.t 31)]) (.seq (.ops [.mov 33 (.t 1), .mov 34 (.t 3), .call 35 26 [(.t 33), (.t 34)], .mov 32 (.t 35), .ext 36 (.t 32) 0, .ext 37 (.t 32) 1, .asg 6 (.t 36), .asg 7 (.t 37)]) (.seq (.ops [.mov 39 (.t 1), .mov 40 (.t 3), .call 41 32 [(.t 39), (.t 40)], .mov 38 (.t 41), .ext 42 (.t 38) 0, .ext 43 (.t 38) 1, .asg 8 (.t 42), .asg 9 (.t 43)]) (.seq (.seq (.ops [.mov 44 (.t 2), .bin 45 .neq (.t 44) (.c (.int .i64 0)), .mov 46 (.t 45), .grd 46 false (.mov 47 (.t 5)), .grd 46 false (.bin 48 .neq (.t 47) (.c (.int .i64 0))), .pick 49 (.t 46) (.c (.bool true)) (.t 48), .mov 50 (.t 49), .grd 50 false (.mov 51 (.t 7)), .grd 50 false (.bin 52 .neq (.t 51) (.c (.int .i64 0))), .pick 53 (.t 50) (.c (.bool true)) (.t 52), .mov 54 (.t 53), .grd 54 false (.mov 55 (.t 9)), .grd 54 false (.bin 56 .neq (.t 55) (.c (.int .i64 0))), .pick 57 (.t 54) (.c (.bool true)) (.t 56), .mov 58 (.t 57), .grd 58 false (.mov 59 (.t 3)), .grd 58 false (.len 60 (.t 59)), .grd 58 false (.bin 61 .neq (.t 60) (.c (.int .i64 2))), .pick 62 (.t 58) (.c (.bool true)) (.t 61), .mov 63 (.t 62), .grd 63 false (.mov 64 (.t 6)), .grd 63 false (.len 65 (.t 64)), .grd 63 false (.bin 66 .neq (.t 65) (.c (.int .i64 2))), .pick 67 (.t 63) (.c (.bool true)) (.t 66), .mov 68 (.t 67), .grd 68 false (.mov 69 (.t 8)), .grd 68 false (.len 70 (.t 69)), .grd 68 false (.bin 71 .neq (.t 70) (.c (.int .i64 1))), .pick 72 (.t 68) (.c (.bool true)) (.t 71), .mov 73 (.t 72), .grd 73 false (.mov 74 (.t 8)), .grd 73 false (.iadr 75 3 (.t 74) (.c (.int .i64 0))), .grd 73 false (.fadr 76 (.t 75) 2), .grd 73 false (.load 77 none (.t 76)), .grd 73 false (.len 78 (.t 77)), .grd 73 false (.bin 79 .neq (.t 78) (.c (.int .i64 2))), .pick 80 (.t 73) (.c (.bool true)) (.t 79)]) (.cond (.t 80) (.seq (.ops [.asg 0 (.c (.bool false))]) .ret) .skip)) (.seq (.ops [.mov 81 (.t 1), .make 82 (.agg [(.int .u8 0), (.int .u8 0), (.int .u8 0), (.int .u8 0), (.int .u8 0), (.int .u8 0), (.int .u8 0), (.int .u8 0)]) (.c (.int .i64 3)) (.c (.int .i64 3)), .build 83 [(.int .i64 0), (.int .i64 0), (.list 0 [])] [(1, 1, (.c (.int .i64 2))), (2, 1, (.t 82))], .call 84 21 [(.t 81), (.t 83)], .asg 10 (.t 84)]) (.seq (.ops [.mov 85 (.t 1), .make 86 (.agg [(.int .u8 0), (.int .u8 0), (.int .u8 0), (.int .u8 0), (.int .u8 0), (.int .u8 0), (.int .u8 0), (.int .u8 0)]) (.c (.int .i64 1)) (.c (.int .i64 1)), .build 87 [(.int .i64 0), (.int .i64 0), (.list 0 [])] [(0, 1, (.c (.int .i64 2))), (2, 1, (.t 86))], .call 88 21 [(.t 85), (.t 87)], .asg 11 (.t 88)]) (.seq (.ops [.mov 89 (.t 1), .build 90 [(.int .i64 0), (.int .i64 0), (.list 0 [])] [(0, 1, (.c (.int .i64 1)))], .call 91 21 [(.t 89), (.t 90)], .asg 12 (.t 91)]) (.seq (.drw [] [([0, 1, 2, 3, 6], 4), ([], 5), ([], 7), ([], 8), ([9, 10, 11, 12, 13], 14), ([], 15)] none [16, 17, 18, 19, 20, 21, 22, 23, 24, 25, 26, 27, 28, 29, 30, 31, 32, 33, 34, 35, 36, 37, 38, 39, 40, 41, 42, 43] [.mov 92 (.t 3), .iadr 93 1 (.t 92) (.c (.int .i64 0)), .load 94 none (.t 93), .build 95 [(.int .u8 0), (.int .u8 0), (.int .u8 0), (.int .u8 0), (.int .u8 0), (.int .u8 0), (.int .u8 0), (.int .u8 0)] [], .build 98 [(.int .u8 0), (.int .u8 0), (.int .u8 0), (.int .u8 0), (.int .u8 0), (.int .u8 0), (.int .u8 0), (.int .u8 0)] [], .call 96 41 [(.c (.int .u8 1))], .call 97 41 [(.c (.int .u8 3))], .mksl 99 8 [(.t 95), (.t 96), (.t 97), (.t 98)], .call 100 30 [(.t 94), (.t 99)], .mov 101 (.t 100), .grd 101 true (.mov 102 (.t 6)), .grd 101 true (.iadr 103 1 (.t 102) (.c (.int .i64 0))), .grd 101 true (.load 104 none (.t 103)), .grd 101 true (.build 105 [(.int .i64 0), (.int .i64 0)] [(0, 1, (.c (.int .i64 1))), (1, 1, (.c (.int .i64 2)))]), .grd 101 true (.mksl 106 2 [(.t 105)]), .grd 101 true (.call 107 42 [(.t 104), (.t 106)]), .pick 108 (.t 101) (.t 107) (.c (.bool false)), .mov 109 (.t 108), .grd 109 true (.mov 110 (.t 6)), .grd 109 true (.iadr 111 1 (.t 110) (.c (.int .i64 1))), .grd 109 true (.load 112 none (.t 111)), .grd 109 true (.len 113 (.t 112)), .grd 109 true (.bin 114 .eql (.t 113) (.c (.int .i64 0))), .pick 115 (.t 109) (.t 114) (.c (.bool false)), .mov 116 (.t 115), .grd 116 true (.mov 117 (.t 8)), .grd 116 true (.iadr 118 3 (.t 117) (.c (.int .i64 0))), .grd 116 true (.fadr 119 (.t 118) 1), .grd 116 true (.load 120 none (.t 119)), .grd 116 true (.bin 121 .eql (.t 120) (.c (.int .i64 1))), .pick 122 (.t 116) (.t 121) (.c (.bool false)), .mov 123 (.t 122), .grd 123 true (.mov 124 (.t 10)), .grd 123 true (.bin 125 .eql (.t 124) (.c (.int .i64 2))), .pick 126 (.t 123) (.t 125) (.c (.bool false)), .mov 127 (.t 126), .grd 127 true (.mov 128 (.t 11)), .grd 127 true (.bin 129 .eql (.t 128) (.c (.int .i64 7))), .pick 130 (.t 127) (.t 129) (.c (.bool false)), .mov 131 (.t 130), .grd 131 true (.mov 132 (.t 12)), .grd 131 true (.bin 133 .eql (.t 132) (.c (.int .i64 1))), .pick 134 (.t 131) (.t 133) (.c (.bool false)), .asg 0 (.t 134)]) .ret))))))))))⟩
def fn15 : VFn := ⟨1, 12, [.tmp 2, .tmp 3], (.seq (.ops [.asg 2 (.nil 1), .asg 3 (.c (.int .i64 0))]) (.seq (.seq (.ops [.mov 5 (.t 0), .call 6 43 [(.t 5)], .asg 4 (.t 6)]) (.seq (.ops [.mov 7 (.t 4), .bin 8 .neq (.t 7) (.c (.int .i64 0))]) (.cond (.t 8) (.seq (.ops [.mov 9 (.t 4), .asg 2 (.nil 1), .asg 3 (.t 9)]) .ret) .skip))) (.seq (.ops [.mov 10 (.t 0), .call 11 44 [(.t 10), (.c (.func 45 []))], .asg 2 (.t 11), .asg 3 (.c (.int .i64 0))]) .ret)))⟩
def fn16_b0 : VCode := (.seq (.seq (.ops [.mov 12 (.t 6), .mov 13 (.t 0), .len 14 (.t 13), .bin 15 .lss (.t 12) (.t 14)]) (.cond (.t 15) .skip (.exit 0))) (.seq (.block 1 (.ops [.mov 18 (.t 5), .mov 19 (.t 0), .mov 20 (.t 6), .iadr 21 1 (.t 19) (.t 20), .load 22 none (.t 21), .make 23 (.agg [(.int .u8 0), (.int .u8 0), (.int .u8 0), (.int .u8 0), (.int .u8 0), (.int .u8 0), (.int .u8 0), (.int .u8 0)]) (.t 22) (.t 22), .mksl 24 1 [(.t 23)], .app 25 1 (.t 18) (.t 24), .asg 5 (.t 25)])) (.ops [.mov 16 (.t 6), .bin 17 .add (.t 16) (.c (.int .i64 1)), .asg 6 (.t 17)])))
def fn16_l1 : VCode :=
(.clean [0, 5, 6, 25] [2, 3, 5] (.block 0 (.loop [0, 5, 6, 25] fn16_b0)))
def fn16 : VFn := ⟨1, 27, [.tmp 2, .tmp 3], (.seq (.ops [.asg 2 (.nil 1), .asg 3 (.c (.int .i64 0))]) (.seq (.seq (.ops [.mov 7 (.t 0), .call 8 46 [(.t 7)], .asg 4 (.t 8)]) (.seq (.ops [.mov 9 (.t 4), .bin 10 .neq (.t 9) (.c (.int .i64 0))]) (.cond (.t 10) (.seq (.ops [.mov 11 (.t 4), .asg 2 (.nil 1), .asg 3 (.t 11)]) .ret) .skip))) (.seq (.ops [.asg 5 (.nil 1)]) (.seq (.seq (.ops [.asg 6 (.c (.int .i64 0))])
      fn16_l1) (.seq (.ops [.mov 26 (.t 5), .asg 2 (.t 26), .asg 3 (.c (.int .i64 0))]) .ret)))))⟩
def fn17_b0 : VCode := (.seq (.seq (.ops [.mov 11 (.t 5), .mov 12 (.t 0), .len 13 (.t 12), .bin 14 .lss (.t 11) (.t 13)]) (.cond (.t 14) .skip (.exit 0))) (.seq (.block 1 (.seq (.drw [] [([0, 1, 2, 3, 4, 5, 6, 7], 8)] none [9] [.mov 17 (.t 0), .mov 18 (.t 5), .iadr 19 1 (.t 17) (.t 18), .load 20 none (.t 19), .mov 21 (.t 1), .mov 22 (.t 5), .iadr 23 1 (.t 21) (.t 22), .load 24 none (.t 23), .call 25 47 [(.t 20), (.t 24)], .un 26 .not (.t 25)]) (.cond (.t 26) (.seq (.ops [.asg 4 (.c (.bool false))]) .ret) .skip))) (.ops [.mov 15 (.t 5), .bin 16 .add (.t 15) (.c (.int .i64 1)), .asg 5 (.t 16)])))
def fn17_l1 : VCode :=
(.clean [0, 1, 5] [4] (.block 0 (.loop [0, 1, 5] fn17_b0)))
def fn17 : VFn := ⟨2, 27, [.tmp 4], (.seq (.ops [.asg 4 (.c (.bool false))]) (.seq (.seq (.ops [.mov 6 (.t 0), .len 7 (.t 6), .mov 8 (.t 1), .len 9 (.t 8), .bin 10 .neq (.t 7) (.t 9)]) (.cond (.t 10) (.seq (.ops [.asg 4 (.c (.bool false))]) .ret) .skip)) (.seq (.seq (.ops [.asg 5 (.c (.int .i64 0))])
     fn17_l1) (.seq (.ops [.asg 4 (.c (.bool true))]) .ret))))⟩
def fn18 : VFn := ⟨1, 6, [.tmp 2], (.seq (.ops [.asg 2 (.c (.int .i64 0))]) (.seq (.ops [.mov 3 (.t 0), .call 4 48 [(.t 3)], .call 5 43 [(.t 4)], .asg 2 (.t 5)]) .ret))⟩
def fn19 : VFn := ⟨1, 6, [.tmp 2], (.seq (.ops [.asg 2 (.c (.int .i64 0))]) (.seq (.ops [.mov 3 (.t 0), .call 4 37 [(.t 3)], .call 5 46 [(.t 4)], .asg 2 (.t 5)]) .ret))⟩
def fn20 : VFn := ⟨1, 11, [.tmp 2], (.seq (.ops [.asg 2 (.c (.bool false))]) (.seq (.ops [.mov 3 (.t 0), .len 4 (.t 3), .bin 5 .leq (.t 4) (.c (.int .i64 40)), .mov 6 (.t 5), .grd 6 true (.mov 7 (.t 0)), .grd 6 true (.call 8 49 [(.t 7), (.c (.func 50 []))]), .grd 6 true (.un 9 .not (.t 8)), .pick 10 (.t 6) (.t 9) (.c (.bool false)), .asg 2 (.t 10)]) .ret))⟩
def fn21 : VFn := ⟨2, 14, [.tmp 4], (.seq (.ops [.box 3 (.t 1), .asg 4 (.c (.int .i64 0))]) (.seq (.seq (.ops [.mov 6 (.t 0), .call 7 18 [(.t 6)], .asg 5 (.t 7)]) (.seq (.ops [.mov 8 (.t 5), .bin 9 .neq (.t 8) (.c (.int .i64 0))]) (.cond (.t 9) (.seq (.ops [.mov 10 (.t 5), .asg 4 (.t 10)]) .ret) .skip))) (.seq (.ops [.mov 11 (.t 0), .load 12 (some 3) (.t 3), .call 13 51 [(.t 11), (.t 12)], .asg 4 (.t 13)]) .ret)))⟩
def fn22 : VFn := ⟨2, 15, [.tmp 4], (.seq (.ops [.box 3 (.t 1), .asg 4 (.c (.int .i64 0))]) (.seq (.seq (.ops [.mov 6 (.t 0), .call 7 19 [(.t 6)], .asg 5 (.t 7)]) (.seq (.ops [.mov 8 (.t 5), .bin 9 .neq (.t 8) (.c (.int .i64 0))]) (.cond (.t 9) (.seq (.ops [.mov 10 (.t 5), .asg 4 (.t 10)]) .ret) .skip))) (.seq (.drw [] [([0, 2], 1), ([], 3)] none [4] [.mov 11 (.t 0), .load 13 (some 3) (.t 3), .call 12 37 [(.t 11)], .call 14 52 [(.t 12), (.t 13)], .asg 4 (.t 14)]) .ret)))⟩
def fn23_b0 : VCode := (.seq (.ops [.bin 22 .lss (.t 21) (.t 20)]) (.seq (.cond (.t 22) .skip (.exit 0)) (.seq (.block 1 (.seq (.ops [.mov 23 (.t 21), .iadr 24 3 (.t 19) (.t 21), .load 25 (some 3) (.t 24), .alloc 10 [(.int .i64 0), (.int .i64 0), (.list 0 [])], .asg 9 (.t 23), .store none 3 (.t 10) (.t 25)]) (.seq (.seq (.ops [.mov 26 (.t 8), .load 27 (some 3) (.t 10), .call 28 51 [(.t 26), (.t 27)], .asg 11 (.t 28)]) (.seq (.ops [.mov 29 (.t 11), .bin 30 .neq (.t 29) (.c (.int .i64 0))]) (.cond (.t 30) (.seq (.ops [.mov 31 (.t 9), .mov 32 (.t 11), .asg 4 (.nil 1), .asg 5 (.t 31), .asg 6 (.t 32)]) .ret) .skip))) (.drw [] [] (some ([0, 1, 2, 3, 4, 5, 6, 7, 8, 9], [], 10, [])) [] [.mov 33 (.t 8), .fadr 34 (.t 10) 0, .load 35 none (.t 34), .iadr 36 1 (.t 33) (.t 35), .load 37 none (.t 36), .fadr 38 (.t 10) 1, .load 39 none (.t 38), .sli 40 8 (.t 37) (some (.t 39)) none, .fadr 41 (.t 10) 2, .load 42 none (.t 41), .cpy 43 8 (.t 40) (.t 42)])))) (.ops [.bin 44 .add (.t 21) (.c (.int .i64 1)), .mov 21 (.t 44)]))))
def fn23_l1 : VCode :=
(.clean [1, 8, 18, 19, 20, 21] [4, 5, 6, 8] (.block 0 (.loop [1, 8, 18, 19, 20, 21] fn23_b0)))
def fn23 : VFn := ⟨2, 46, [.tmp 4, .tmp 5, .tmp 6], (.seq (.ops [.asg 4 (.nil 1), .asg 5 (.c (.int .i64 0)), .asg 6 (.c (.int .i64 0))]) (.seq (.seq (.ops [.mov 12 (.t 0), .call 13 18 [(.t 12)], .asg 7 (.t 13)]) (.seq (.ops [.mov 14 (.t 7), .bin 15 .neq (.t 14) (.c (.int .i64 0))]) (.cond (.t 15) (.seq (.ops [.mov 16 (.t 7), .asg 4 (.nil 1), .asg 5 (.c (.int .i64 0)), .asg 6 (.t 16)]) .ret) .skip))) (.seq (.ops [.mov 17 (.t 0), .call 18 53 [(.t 17)], .asg 8 (.t 18)]) (.seq (.seq (.ops [.mov 19 (.t 1), .len 20 (.t 19), .mov 21 (.c (.int .i64 0))])
      fn23_l1) (.seq (.ops [.mov 45 (.t 8), .asg 4 (.t 45), .asg 5 (.c (.int .i64 0)), .asg 6 (.c (.int .i64 0))]) .ret)))))⟩
def fn24_b0 : VCode := (.seq (.seq (.ops [.mov 35 (.t 11), .mov 36 (.t 1), .mov 37 (.t 9), .iadr 38 3 (.t 36) (.t 37), .fadr 39 (.t 38) 2, .load 40 none (.t 39), .len 41 (.t 40), .bin 42 .lss (.t 35) (.t 41)]) (.cond (.t 42) .skip (.exit 2))) (.seq (.block 3 (.drw [] [] (some ([0, 1, 2, 3, 4, 5, 6, 7, 8, 9, 10, 11, 12, 13, 14, 15, 16, 17, 18, 19, 20, 21, 22, 23], [], 24, [])) [] [.mov 45 (.t 8), .mov 46 (.t 1), .mov 47 (.t 9), .iadr 48 3 (.t 46) (.t 47), .fadr 49 (.t 48) 0, .load 50 none (.t 49), .iadr 51 1 (.t 45) (.t 50), .load 52 none (.t 51), .mov 53 (.t 1), .mov 54 (.t 9), .iadr 55 3 (.t 53) (.t 54), .fadr 56 (.t 55) 1, .load 57 none (.t 56), .mov 58 (.t 11), .bin 59 .add (.t 57) (.t 58), .mov 60 (.t 1), .mov 61 (.t 9), .iadr 62 3 (.t 60) (.t 61), .fadr 63 (.t 62) 2, .load 64 none (.t 63), .mov 65 (.t 11), .iadr 66 8 (.t 64) (.t 65), .load 67 (some 8) (.t 66), .iadr 68 8 (.t 52) (.t 59), .store none 8 (.t 68) (.t 67)])) (.ops [.mov 43 (.t 11), .bin 44 .add (.t 43) (.c (.int .i64 1)), .asg 11 (.t 44)])))
def fn24_l1 : VCode :=
(.clean [0, 1, 8, 9, 11, 18] [0, 1, 4, 5, 6, 8, 9, 18] (.block 2 (.loop [0, 1, 8, 9, 11, 18] fn24_b0)))
def fn24_b2 : VCode := (.seq (.seq (.ops [.mov 19 (.t 9), .mov 20 (.t 1), .len 21 (.t 20), .bin 22 .lss (.t 19) (.t 21)]) (.cond (.t 22) .skip (.exit 0))) (.seq (.block 1 (.seq (.seq (.ops [.mov 25 (.t 0), .mov 26 (.t 1), .mov 27 (.t 9), .iadr 28 3 (.t 26) (.t 27), .load 29 (some 3) (.t 28), .call 30 22 [(.t 25), (.t 29)], .asg 10 (.t 30)]) (.seq (.ops [.mov 31 (.t 10), .bin 32 .neq (.t 31) (.c (.int .i64 0))]) (.cond (.t 32) (.seq (.ops [.mov 33 (.t 9), .mov 34 (.t 10), .asg 4 (.nil 1), .asg 5 (.t 33), .asg 6 (.t 34)]) .ret) .skip))) (.seq (.ops [.asg 11 (.c (.int .i64 0))])
      fn24_l1))) (.ops [.mov 23 (.t 9), .bin 24 .add (.t 23) (.c (.int .i64 1)), .asg 9 (.t 24)])))
def fn24_l3 : VCode :=
(.clean [0, 1, 8, 9, 18] [4, 5, 6, 8] (.block 0 (.loop [0, 1, 8, 9, 18] fn24_b2)))
def fn24 : VFn := ⟨2, 70, [.tmp 4, .tmp 5, .tmp 6], (.seq (.ops [.asg 4 (.nil 1), .asg 5 (.c (.int .i64 0)), .asg 6 (.c (.int .i64 0))]) (.seq (.seq (.ops [.mov 12 (.t 0), .call 13 19 [(.t 12)], .asg 7 (.t 13)]) (.seq (.ops [.mov 14 (.t 7), .bin 15 .neq (.t 14) (.c (.int .i64 0))]) (.cond (.t 15) (.seq (.ops [.mov 16 (.t 7), .asg 4 (.nil 1), .asg 5 (.c (.int .i64 0)), .asg 6 (.t 16)]) .ret) .skip))) (.seq (.ops [.mov 17 (.t 0), .call 18 25 [(.t 17)], .asg 8 (.t 18)]) (.seq (.seq (.ops [.asg 9 (.c (.int .i64 0))])
      fn24_l3) (.seq (.ops [.mov 69 (.t 8), .asg 4 (.t 69), .asg 5 (.c (.int .i64 0)), .asg 6 (.c (.int .i64 0))]) .ret)))))⟩
def fn25_b0 : VCode := (.seq (.seq (.ops [.mov 6 (.t 4), .mov 7 (.t 0), .len 8 (.t 7), .bin 9 .lss (.t 6) (.t 8)]) (.cond (.t 9) .skip (.exit 0))) (.seq (.block 1 (.seq (.ops [.asg 5 (.nil 8)]) (.ops [.mov 12 (.t 3), .mov 13 (.t 5), .mov 14 (.t 0), .mov 15 (.t 4), .iadr 16 1 (.t 14) (.t 15), .load 17 none (.t 16), .app 18 8 (.t 13) (.t 17), .mksl 19 1 [(.t 18)], .app 20 1 (.t 12) (.t 19), .asg 3 (.t 20)]))) (.ops [.mov 10 (.t 4), .bin 11 .add (.t 10) (.c (.int .i64 1)), .asg 4 (.t 11)])))
def fn25_l1 : VCode :=
(.clean [0, 3, 4, 20] [2, 3] (.block 0 (.loop [0, 3, 4, 20] fn25_b0)))
def fn25 : VFn := ⟨1, 22, [.tmp 2], (.seq (.ops [.asg 2 (.nil 1)]) (.seq (.ops [.asg 3 (.nil 1)]) (.seq (.seq (.ops [.asg 4 (.c (.int .i64 0))])
     fn25_l1) (.seq (.ops [.mov 21 (.t 3), .asg 2 (.t 21)]) .ret))))⟩
def fn26_b0 : VCode := (.seq (.ops [.bin 18 .lss (.t 17) (.t 16)]) (.seq (.cond (.t 18) .skip (.exit 0)) (.seq (.block 1 (.seq (.ops [.mov 19 (.t 17), .asg 8 (.t 19)]) (.drw [] [([0, 1, 2, 3, 4, 5, 6, 7, 8], 9), ([], 10)] (some ([], [], 11, [])) [12] [.mov 20 (.t 7), .mov 21 (.t 0), .mov 22 (.t 8), .iadr 23 1 (.t 21) (.t 22), .load 24 none (.t 23), .mov 25 (.t 1), .mov 26 (.t 8), .iadr 27 1 (.t 25) (.t 26), .load 28 none (.t 27), .call 29 55 [(.t 24), (.t 28)], .mksl 30 1 [(.t 29)], .app 31 1 (.t 20) (.t 30), .asg 7 (.t 31)]))) (.ops [.bin 32 .add (.t 17) (.c (.int .i64 1)), .mov 17 (.t 32)]))))
def fn26_l1 : VCode :=
(.clean [0, 1, 7, 16, 17, 31] [4, 5, 7] (.block 0 (.loop [0, 1, 7, 16, 17, 31] fn26_b0)))
def fn26 : VFn := ⟨2, 34, [.tmp 4, .tmp 5], (.seq (.ops [.asg 4 (.nil 1), .asg 5 (.c (.int .i64 0))]) (.seq (.seq (.ops [.mov 9 (.t 0), .mov 10 (.t 1), .call 11 54 [(.t 9), (.t 10)], .asg 6 (.t 11)]) (.seq (.ops [.mov 12 (.t 6), .bin 13 .neq (.t 12) (.c (.int .i64 0))]) (.cond (.t 13) (.seq (.ops [.mov 14 (.t 6), .asg 4 (.nil 1), .asg 5 (.t 14)]) .ret) .skip))) (.seq (.ops [.asg 7 (.nil 1)]) (.seq (.seq (.ops [.mov 15 (.t 0), .len 16 (.t 15), .mov 17 (.c (.int .i64 0))])
      fn26_l1) (.seq (.ops [.mov 33 (.t 7), .asg 4 (.t 33), .asg 5 (.c (.int .i64 0))]) .ret)))))⟩
def fn27 : VFn := ⟨2, 8, [.tmp 4], (.seq (.ops [.asg 4 (.c (.bool false))]) (.seq (.ops [.mov 5 (.t 0), .mov 6 (.t 1), .call 7 56 [(.t 5), (.t 6), (.c (.func 57 []))], .asg 4 (.t 7)]) .ret))⟩
def fn28 : VFn := ⟨3, 62, [.tmp 6, .tmp 7], (.seq (.ops [.box 5 (.t 2), .asg 6 (.nil 8), .asg 7 (.c (.int .i64 0))]) (.seq (.seq (.ops [.mov 10 (.t 0), .call 11 18 [(.t 10)], .asg 8 (.t 11)]) (.seq (.ops [.mov 12 (.t 8), .bin 13 .neq (.t 12) (.c (.int .i64 0))]) (.cond (.t 13) (.seq (.ops [.mov 14 (.t 8), .asg 6 (.nil 8), .asg 7 (.t 14)]) .ret) .skip))) (.seq (.seq (.ops [.mov 15 (.t 1), .bin 16 .lss (.t 15) (.c (.int .i64 0)), .mov 17 (.t 16), .grd 17 false (.mov 18 (.t 1)), .grd 17 false (.mov 19 (.t 0)), .grd 17 false (.len 20 (.t 19)), .grd 17 false (.bin 21 .geq (.t 18) (.t 20)), .pick 22 (.t 17) (.c (.bool true)) (.t 21)]) (.cond (.t 22) (.seq (.ops [.asg 6 (.nil 8), .asg 7 (.c (.int .i64 7))]) .ret) .skip)) (.seq (.ops [.mov 23 (.t 0), .mov 24 (.t 1), .iadr 25 1 (.t 23) (.t 24), .load 26 none (.t 25), .asg 9 (.t 26)]) (.seq (.seq (.ops [.fadr 27 (.t 5) 0, .load 28 none (.t 27), .bin 29 .lss (.t 28) (.c (.int .i64 0)), .mov 30 (.t 29), .grd 30 false (.fadr 31 (.t 5) 1), .grd 30 false (.load 32 none (.t 31)), .grd 30 false (.bin 33 .lss (.t 32) (.c (.int .i64 0))), .pick 34 (.t 30) (.c (.bool true)) (.t 33), .mov 35 (.t 34), .grd 35 false (.fadr 36 (.t 5) 0), .grd 35 false (.load 37 none (.t 36)), .grd 35 false (.mov 38 (.t 9)), .grd 35 false (.len 39 (.t 38)), .grd 35 false (.bin 40 .gtr (.t 37) (.t 39)), .pick 41 (.t 35) (.c (.bool true)) (.t 40), .mov 42 (.t 41), .grd 42 false (.fadr 43 (.t 5) 1), .grd 42 false (.load 44 none (.t 43)), .grd 42 false (.mov 45 (.t 9)), .grd 42 false (.len 46 (.t 45)), .grd 42 false (.fadr 47 (.t 5) 0), .grd 42 false (.load 48 none (.t 47)), .grd 42 false (.bin 49 .sub (.t 46) (.t 48)), .grd 42 false (.bin 50 .gtr (.t 44) (.t 49)), .pick 51 (.t 42) (.c (.bool true)) (.t 50)]) (.cond (.t 51) (.seq (.ops [.asg 6 (.nil 8), .asg 7 (.c (.int .i64 2))]) .ret) .skip)) (.seq (.ops [.mov 52 (.t 9), .fadr 53 (.t 5) 0, .load 54 none (.t 53), .fadr 55 (.t 5) 0, .load 56 none (.t 55), .fadr 57 (.t 5) 1, .load 58 none (.t 57), .bin 59 .add (.t 56) (.t 58), .sli 60 8 (.t 52) (some (.t 54)) (some (.t 59)), .call 61 58 [(.t 60)], .asg 6 (.t 61), .asg 7 (.c (.int .i64 0))]) .ret))))))⟩
def fn29 : VFn := ⟨3, 66, [.tmp 6, .tmp 7], (.seq (.ops [.box 5 (.t 2), .asg 6 (.nil 8), .asg 7 (.c (.int .i64 0))]) (.seq (.seq (.ops [.mov 11 (.t 0), .call 12 19 [(.t 11)], .asg 8 (.t 12)]) (.seq (.ops [.mov 13 (.t 8), .bin 14 .neq (.t 13) (.c (.int .i64 0))]) (.cond (.t 14) (.seq (.ops [.mov 15 (.t 8), .asg 6 (.nil 8), .asg 7 (.t 15)]) .ret) .skip))) (.seq (.seq (.ops [.mov 16 (.t 1), .bin 17 .lss (.t 16) (.c (.int .i64 0)), .mov 18 (.t 17), .grd 18 false (.mov 19 (.t 1)), .grd 18 false (.mov 20 (.t 0)), .grd 18 false (.len 21 (.t 20)), .grd 18 false (.bin 22 .geq (.t 19) (.t 21)), .pick 23 (.t 18) (.c (.bool true)) (.t 22)]) (.cond (.t 23) (.seq (.ops [.asg 6 (.nil 8), .asg 7 (.c (.int .i64 7))]) .ret) .skip)) (.seq (.ops [.mov 24 (.t 0), .mov 25 (.t 1), .iadr 26 1 (.t 24) (.t 25), .load 27 none (.t 26), .len 28 (.t 27), .asg 9 (.t 28)]) (.seq (.seq (.ops [.fadr 29 (.t 5) 0, .load 30 none (.t 29), .bin 31 .lss (.t 30) (.c (.int .i64 0)), .mov 32 (.t 31), .grd 32 false (.fadr 33 (.t 5) 1), .grd 32 false (.load 34 none (.t 33)), .grd 32 false (.bin 35 .lss (.t 34) (.c (.int .i64 0))), .pick 36 (.t 32) (.c (.bool true)) (.t 35), .mov 37 (.t 36), .grd 37 false (.fadr 38 (.t 5) 0), .grd 37 false (.load 39 none (.t 38)), .grd 37 false (.mov 40 (.t 9)), .grd 37 false (.bin 41 .gtr (.t 39) (.t 40)), .pick 42 (.t 37) (.c (.bool true)) (.t 41), .mov 43 (.t 42), .grd 43 false (.fadr 44 (.t 5) 1), .grd 43 false (.load 45 none (.t 44)), .grd 43 false (.mov 46 (.t 9)), .grd 43 false (.fadr 47 (.t 5) 0), .grd 43 false (.load 48 none (.t 47)), .grd 43 false (.bin 49 .sub (.t 46) (.t 48)), .grd 43 false (.bin 50 .gtr (.t 45) (.t 49)), .pick 51 (.t 43) (.c (.bool true)) (.t 50)]) (.cond (.t 51) (.seq (.ops [.asg 6 (.nil 8), .asg 7 (.c (.int .i64 2))]) .ret) .skip)) (.seq (.ops [.asg 10 (.nil 8)]) (.seq (.drw [] [] (some ([0, 1, 2, 3, 4, 5, 6, 7, 8, 9, 10, 11, 12], [], 13, [])) [14, 15] [.mov 52 (.t 10), .mov 53 (.t 0), .mov 54 (.t 1), .iadr 55 1 (.t 53) (.t 54), .load 56 none (.t 55), .fadr 57 (.t 5) 0, .load 58 none (.t 57), .fadr 59 (.t 5) 0, .load 60 none (.t 59), .fadr 61 (.t 5) 1, .load 62 none (.t 61), .bin 63 .add (.t 60) (.t 62), .sli 64 8 (.t 56) (some (.t 58)) (some (.t 63)), .app 65 8 (.t 52) (.t 64), .asg 6 (.t 65), .asg 7 (.c (.int .i64 0))]) .ret)))))))⟩
def fn30_b0 : VCode := (.seq (.ops [.bin 14 .lss (.t 13) (.t 12)]) (.seq (.cond (.t 14) .skip (.exit 0)) (.seq (.block 1 (.seq (.ops [.mov 15 (.t 13), .asg 5 (.t 15)]) (.seq (.drw [] [] none [0, 1, 2, 3, 4, 5, 6, 7, 8] [.mov 16 (.t 0), .mov 17 (.t 5), .iadr 18 8 (.t 16) (.t 17), .load 19 (some 8) (.t 18), .mov 20 (.t 1), .mov 21 (.t 5), .iadr 22 8 (.t 20) (.t 21), .load 23 (some 8) (.t 22), .eqa 24 true 8 (.t 19) (.t 23)]) (.cond (.t 24) (.seq (.ops [.asg 4 (.c (.bool false))]) .ret) .skip)))) (.ops [.bin 25 .add (.t 13) (.c (.int .i64 1)), .mov 13 (.t 25)]))))
def fn30_l1 : VCode :=
(.clean [0, 1, 12, 13] [4] (.block 0 (.loop [0, 1, 12, 13] fn30_b0)))
def fn30 : VFn := ⟨2, 26, [.tmp 4], (.seq (.ops [.asg 4 (.c (.bool false))]) (.seq (.seq (.ops [.mov 6 (.t 0), .len 7 (.t 6), .mov 8 (.t 1), .len 9 (.t 8), .bin 10 .neq (.t 7) (.t 9)]) (.cond (.t 10) (.seq (.ops [.asg 4 (.c (.bool false))]) .ret) .skip)) (.seq (.seq (.ops [.mov 11 (.t 0), .len 12 (.t 11), .mov 13 (.c (.int .i64 0))])
     fn30_l1) (.seq (.ops [.asg 4 (.c (.bool true))]) .ret))))⟩
def fn31_b0 : VCode := (.seq (.seq (.ops [.mov 15 (.t 8), .mov 16 (.t 0), .len 17 (.t 16), .bin 18 .lss (.t 15) (.t 17)]) (.cond (.t 18) .skip (.exit 0))) (.seq (.block 1 (.drw [] [([0, 1, 2, 3, 4, 5, 6, 7, 8], 9), ([], 10)] (some ([], [], 11, [])) [12] [.mov 21 (.t 7), .mov 22 (.t 0), .mov 23 (.t 8), .iadr 24 1 (.t 22) (.t 23), .load 25 none (.t 24), .mov 26 (.t 1), .mov 27 (.t 8), .iadr 28 1 (.t 26) (.t 27), .load 29 none (.t 28), .call 30 60 [(.t 25), (.t 29)], .mksl 31 1 [(.t 30)], .app 32 1 (.t 21) (.t 31), .asg 7 (.t 32)])) (.ops [.mov 19 (.t 8), .bin 20 .add (.t 19) (.c (.int .i64 1)), .asg 8 (.t 20)])))
def fn31_l1 : VCode :=
(.clean [0, 1, 7, 8, 32] [4, 5, 7] (.block 0 (.loop [0, 1, 7, 8, 32] fn31_b0)))
def fn31 : VFn := ⟨2, 34, [.tmp 4, .tmp 5], (.seq (.ops [.asg 4 (.nil 1), .asg 5 (.c (.int .i64 0))]) (.seq (.seq (.ops [.mov 9 (.t 0), .mov 10 (.t 1), .call 11 59 [(.t 9), (.t 10)], .asg 6 (.t 11)]) (.seq (.ops [.mov 12 (.t 6), .bin 13 .neq (.t 12) (.c (.int .i64 0))]) (.cond (.t 13) (.seq (.ops [.mov 14 (.t 6), .asg 4 (.nil 1), .asg 5 (.t 14)]) .ret) .skip))) (.seq (.ops [.asg 7 (.nil 1)]) (.seq (.seq (.ops [.asg 8 (.c (.int .i64 0))])
      fn31_l1) (.seq (.ops [.mov 33 (.t 7), .asg 4 (.t 33), .asg 5 (.c (.int .i64 0))]) .ret)))))⟩
def fn32_b0 : VCode := (.seq (.ops [.bin 23 .lss (.t 22) (.t 21)]) (.seq (.cond (.t 23) .skip (.exit 0)) (.seq (.block 1 (.seq (.ops [.mov 24 (.t 22), .iadr 25 1 (.t 20) (.t 22), .load 26 none (.t 25), .alloc 9 [(.int .i64 0)], .store none 1 (.t 9) (.t 24), .asg 10 (.t 26)]) (.ops [.mov 27 (.t 8), .mov 28 (.t 10), .mkf 29 62 [(.t 9), (.t 3)], .call 30 61 [(.t 28), (.t 29)], .app 31 3 (.t 27) (.t 30), .asg 8 (.t 31)]))) (.ops [.bin 32 .add (.t 22) (.c (.int .i64 1)), .mov 22 (.t 32)]))))
def fn32_l1 : VCode :=
(.clean [3, 6, 8, 15, 20, 21, 22, 31] [4, 5, 8] (.block 0 (.loop [3, 6, 8, 15, 20, 21, 22, 31] fn32_b0)))
def fn32 : VFn := ⟨2, 34, [.tmp 4, .tmp 5], (.seq (.ops [.box 3 (.t 1), .asg 4 (.nil 3), .asg 5 (.c (.int .i64 0))]) (.seq (.ops [.mov 12 (.t 0), .load 13 none (.t 3), .call 14 26 [(.t 12), (.t 13)], .mov 11 (.t 14), .ext 15 (.t 11) 0, .ext 16 (.t 11) 1, .asg 6 (.t 15), .asg 7 (.t 16)]) (.seq (.seq (.ops [.mov 17 (.t 7), .bin 18 .neq (.t 17) (.c (.int .i64 0))]) (.cond (.t 18) (.seq (.ops [.mov 19 (.t 7), .asg 4 (.nil 3), .asg 5 (.t 19)]) .ret) .skip)) (.seq (.ops [.asg 8 (.nil 3)]) (.seq (.seq (.ops [.mov 20 (.t 6), .len 21 (.t 20), .mov 22 (.c (.int .i64 0))])
       fn32_l1) (.seq (.ops [.mov 33 (.t 8), .asg 4 (.t 33), .asg 5 (.c (.int .i64 0))]) .ret))))))⟩
def fn33_b0 : VCode := (.seq (.seq (.ops [.mov 28 (.t 10), .mov 29 (.t 6), .mov 30 (.t 9), .iadr 31 1 (.t 29) (.t 30), .load 32 none (.t 31), .len 33 (.t 32), .bin 34 .lss (.t 28) (.t 33)]) (.cond (.t 34) .skip (.exit 2))) (.seq (.block 3 (.seq (.ops [.mov 37 (.t 6), .mov 38 (.t 9), .iadr 39 1 (.t 37) (.t 38), .load 40 none (.t 39), .mov 41 (.t 10), .iadr 42 2 (.t 40) (.t 41), .load 43 (some 2) (.t 42), .alloc 11 [(.int .i64 0), (.int .i64 0)], .store none 2 (.t 11) (.t 43)]) (.seq (.ops [.asg 12 (.nil 8)]) (.seq (.drw [] [] (some ([0, 1, 2, 3, 4, 5, 6, 7, 8, 9, 10, 11, 12], [], 13, [])) [14] [.mov 44 (.t 12), .mov 45 (.t 1), .mov 46 (.t 9), .iadr 47 1 (.t 45) (.t 46), .load 48 none (.t 47), .fadr 49 (.t 11) 0, .load 50 none (.t 49), .fadr 51 (.t 11) 0, .load 52 none (.t 51), .fadr 53 (.t 11) 1, .load 54 none (.t 53), .bin 55 .add (.t 52) (.t 54), .sli 56 8 (.t 48) (some (.t 50)) (some (.t 55)), .app 57 8 (.t 44) (.t 56), .asg 12 (.t 57)]) (.ops [.mov 58 (.t 8), .mov 59 (.t 9), .fadr 60 (.t 11) 0, .load 61 none (.t 60), .mov 62 (.t 12), .build 63 [(.int .i64 0), (.int .i64 0), (.list 0 [])] [(0, 1, (.t 59)), (1, 1, (.t 61)), (2, 1, (.t 62))], .mksl 64 3 [(.t 63)], .app 65 3 (.t 58) (.t 64), .asg 8 (.t 65)]))))) (.ops [.mov 35 (.t 10), .bin 36 .add (.t 35) (.c (.int .i64 1)), .asg 10 (.t 36)])))
def fn33_l1 : VCode :=
(.clean [1, 6, 8, 9, 10, 17, 65] [1, 4, 5, 6, 8, 9, 17, 65] (.block 2 (.loop [1, 6, 8, 9, 10, 17, 65] fn33_b0)))
def fn33_b2 : VCode := (.seq (.seq (.ops [.mov 22 (.t 9), .mov 23 (.t 6), .len 24 (.t 23), .bin 25 .lss (.t 22) (.t 24)]) (.cond (.t 25) .skip (.exit 0))) (.seq (.block 1 (.seq (.ops [.asg 10 (.c (.int .i64 0))])
     fn33_l1)) (.ops [.mov 26 (.t 9), .bin 27 .add (.t 26) (.c (.int .i64 1)), .asg 9 (.t 27)])))
def fn33_l3 : VCode :=
(.clean [1, 6, 8, 9, 17, 65] [4, 5, 8] (.block 0 (.loop [1, 6, 8, 9, 17, 65] fn33_b2)))
def fn33 : VFn := ⟨2, 67, [.tmp 4, .tmp 5], (.seq (.ops [.asg 4 (.nil 3), .asg 5 (.c (.int .i64 0))]) (.seq (.ops [.mov 14 (.t 0), .mov 15 (.t 1), .call 16 31 [(.t 14), (.t 15)], .mov 13 (.t 16), .ext 17 (.t 13) 0, .ext 18 (.t 13) 1, .asg 6 (.t 17), .asg 7 (.t 18)]) (.seq (.seq (.ops [.mov 19 (.t 7), .bin 20 .neq (.t 19) (.c (.int .i64 0))]) (.cond (.t 20) (.seq (.ops [.mov 21 (.t 7), .asg 4 (.nil 3), .asg 5 (.t 21)]) .ret) .skip)) (.seq (.ops [.asg 8 (.nil 3)]) (.seq (.seq (.ops [.asg 9 (.c (.int .i64 0))])
       fn33_l3) (.seq (.ops [.mov 66 (.t 8), .asg 4 (.t 66), .asg 5 (.c (.int .i64 0))]) .ret))))))⟩
def fn34 : VFn := ⟨2, 8, [.tmp 4], (.seq (.ops [.asg 4 (.c (.bool false))]) (.seq (.ops [.mov 5 (.t 0), .mov 6 (.t 1), .call 7 63 [(.t 5), (.t 6), (.c (.func 30 []))], .asg 4 (.t 7)]) .ret))⟩
def fn35_b0 : VCode := (.seq (.seq (.ops [.mov 11 (.t 5), .mov 12 (.t 0), .len 13 (.t 12), .bin 14 .lss (.t 11) (.t 13)]) (.cond (.t 14) .skip (.exit 0))) (.seq (.block 1 (.seq (.drw [] [([0, 1, 2, 3, 4, 5, 6, 7, 8, 9, 10, 11, 12, 13, 14, 15, 16, 17, 18, 19, 20, 21, 22, 23, 24, 25, 26, 27, 28, 29, 30, 31, 32, 33, 34], 35)] none [36, 37] [.mov 17 (.t 0), .mov 18 (.t 5), .iadr 19 3 (.t 17) (.t 18), .fadr 20 (.t 19) 0, .load 21 none (.t 20), .mov 22 (.t 1), .mov 23 (.t 5), .iadr 24 3 (.t 22) (.t 23), .fadr 25 (.t 24) 0, .load 26 none (.t 25), .bin 27 .neq (.t 21) (.t 26), .mov 28 (.t 27), .grd 28 false (.mov 29 (.t 0)), .grd 28 false (.mov 30 (.t 5)), .grd 28 false (.iadr 31 3 (.t 29) (.t 30)), .grd 28 false (.fadr 32 (.t 31) 1), .grd 28 false (.load 33 none (.t 32)), .grd 28 false (.mov 34 (.t 1)), .grd 28 false (.mov 35 (.t 5)), .grd 28 false (.iadr 36 3 (.t 34) (.t 35)), .grd 28 false (.fadr 37 (.t 36) 1), .grd 28 false (.load 38 none (.t 37)), .grd 28 false (.bin 39 .neq (.t 33) (.t 38)), .pick 40 (.t 28) (.c (.bool true)) (.t 39), .mov 41 (.t 40), .grd 41 false (.mov 42 (.t 0)), .grd 41 false (.mov 43 (.t 5)), .grd 41 false (.iadr 44 3 (.t 42) (.t 43)), .grd 41 false (.fadr 45 (.t 44) 2), .grd 41 false (.load 46 none (.t 45)), .grd 41 false (.mov 47 (.t 1)), .grd 41 false (.mov 48 (.t 5)), .grd 41 false (.iadr 49 3 (.t 47) (.t 48)), .grd 41 false (.fadr 50 (.t 49) 2), .grd 41 false (.load 51 none (.t 50)), .grd 41 false (.call 52 64 [(.t 46), (.t 51)]), .grd 41 false (.un 53 .not (.t 52)), .pick 54 (.t 41) (.c (.bool true)) (.t 53)]) (.cond (.t 54) (.seq (.ops [.asg 4 (.c (.bool false))]) .ret) .skip))) (.ops [.mov 15 (.t 5), .bin 16 .add (.t 15) (.c (.int .i64 1)), .asg 5 (.t 16)])))
def fn35_l1 : VCode :=
(.clean [0, 1, 5] [4] (.block 0 (.loop [0, 1, 5] fn35_b0)))
def fn35 : VFn := ⟨2, 55, [.tmp 4], (.seq (.ops [.asg 4 (.c (.bool false))]) (.seq (.seq (.ops [.mov 6 (.t 0), .len 7 (.t 6), .mov 8 (.t 1), .len 9 (.t 8), .bin 10 .neq (.t 7) (.t 9)]) (.cond (.t 10) (.seq (.ops [.asg 4 (.c (.bool false))]) .ret) .skip)) (.seq (.seq (.ops [.asg 5 (.c (.int .i64 0))])
     fn35_l1) (.seq (.ops [.asg 4 (.c (.bool true))]) .ret))))⟩
def fn36_b0 : VCode := (.seq (.ops [.bin 14 .lss (.t 13) (.t 12)]) (.seq (.cond (.t 14) .skip (.exit 0)) (.seq (.block 1 (.seq (.ops [.mov 15 (.t 13), .asg 5 (.t 15)]) (.seq (.drw [] [] none [0, 1, 2, 3, 4, 5, 6, 7, 8] [.mov 16 (.t 0), .mov 17 (.t 5), .iadr 18 1 (.t 16) (.t 17), .load 19 none (.t 18), .mov 20 (.t 1), .mov 21 (.t 5), .iadr 22 1 (.t 20) (.t 21), .load 23 none (.t 22), .bin 24 .neq (.t 19) (.t 23)]) (.cond (.t 24) (.seq (.ops [.asg 4 (.c (.bool false))]) .ret) .skip)))) (.ops [.bin 25 .add (.t 13) (.c (.int .i64 1)), .mov 13 (.t 25)]))))
def fn36_l1 : VCode :=
(.clean [0, 1, 12, 13] [4] (.block 0 (.loop [0, 1, 12, 13] fn36_b0)))
def fn36 : VFn := ⟨2, 26, [.tmp 4], (.seq (.ops [.asg 4 (.c (.bool false))]) (.seq (.seq (.ops [.mov 6 (.t 0), .len 7 (.t 6), .mov 8 (.t 1), .len 9 (.t 8), .bin 10 .neq (.t 7) (.t 9)]) (.cond (.t 10) (.seq (.ops [.asg 4 (.c (.bool false))]) .ret) .skip)) (.seq (.seq (.ops [.mov 11 (.t 0), .len 12 (.t 11), .mov 13 (.c (.int .i64 0))])
     fn36_l1) (.seq (.ops [.asg 4 (.c (.bool true))]) .ret))))⟩
def fn37_b0 : VCode := (.seq (.seq (.ops [.mov 5 (.t 4), .mov 6 (.t 0), .len 7 (.t 6), .bin 8 .lss (.t 5) (.t 7)]) (.cond (.t 8) .skip (.exit 0))) (.seq (.block 1 (.ops [.mov 11 (.t 3), .mov 12 (.t 0), .mov 13 (.t 4), .iadr 14 1 (.t 12) (.t 13), .load 15 none (.t 14), .len 16 (.t 15), .mksl 17 1 [(.t 16)], .app 18 1 (.t 11) (.t 17), .asg 3 (.t 18)])) (.ops [.mov 9 (.t 4), .bin 10 .add (.t 9) (.c (.int .i64 1)), .asg 4 (.t 10)])))
def fn37_l1 : VCode :=
(.clean [0, 3, 4, 18] [2, 3] (.block 0 (.loop [0, 3, 4, 18] fn37_b0)))
def fn37 : VFn := ⟨1, 20, [.tmp 2], (.seq (.ops [.asg 2 (.nil 1)]) (.seq (.ops [.asg 3 (.nil 1)]) (.seq (.seq (.ops [.asg 4 (.c (.int .i64 0))])
     fn37_l1) (.seq (.ops [.mov 19 (.t 3), .asg 2 (.t 19)]) .ret))))⟩
def fn38_b0 : VCode := (.seq (.ops [.bin 10 .lss (.t 9) (.t 8)]) (.seq (.cond (.t 10) .skip (.exit 0)) (.seq (.block 1 (.seq (.ops [.iadr 11 1 (.t 7) (.t 9), .load 12 none (.t 11), .asg 5 (.t 12)]) (.ops [.mov 13 (.t 3), .mov 14 (.t 5), .call 15 65 [(.t 14)], .call 16 66 [(.t 13), (.t 15)], .asg 3 (.t 16)]))) (.ops [.bin 17 .add (.t 9) (.c (.int .i64 1)), .mov 9 (.t 17)]))))
def fn38_l1 : VCode :=
(.clean [0, 3, 7, 8, 9] [2, 3] (.block 0 (.loop [0, 3, 7, 8, 9] fn38_b0)))
def fn38 : VFn := ⟨1, 19, [.tmp 2], (.seq (.ops [.asg 2 (.c (.int .u64 0))]) (.seq (.ops [.call 6 65 [(.nil 8)], .asg 3 (.t 6)]) (.seq (.seq (.ops [.mov 7 (.t 0), .len 8 (.t 7), .mov 9 (.c (.int .i64 0))])
     fn38_l1) (.seq (.ops [.mov 18 (.t 3), .asg 2 (.t 18)]) .ret))))⟩
def fn39_b0 : VCode := (.seq (.seq (.ops [.mov 6 (.t 4), .mov 7 (.t 0), .len 8 (.t 7), .bin 9 .lss (.t 6) (.t 8)]) (.cond (.t 9) .skip (.exit 0))) (.seq (.block 1 (.ops [.mov 12 (.t 3), .mov 13 (.t 0), .mov 14 (.t 4), .iadr 15 1 (.t 13) (.t 14), .load 16 none (.t 15), .call 17 67 [(.t 16)], .call 18 68 [(.t 12), (.t 17)], .asg 3 (.t 18)])) (.ops [.mov 10 (.t 4), .bin 11 .add (.t 10) (.c (.int .i64 1)), .asg 4 (.t 11)])))
def fn39_l1 : VCode :=
(.clean [0, 3, 4] [2, 3] (.block 0 (.loop [0, 3, 4] fn39_b0)))
def fn39 : VFn := ⟨1, 20, [.tmp 2], (.seq (.ops [.asg 2 (.c (.int .u64 0))]) (.seq (.ops [.call 5 67 [(.nil 8)], .asg 3 (.t 5)]) (.seq (.seq (.ops [.asg 4 (.c (.int .i64 0))])
     fn39_l1) (.seq (.ops [.mov 19 (.t 3), .asg 2 (.t 19)]) .ret))))⟩
def fn40_b0 : VCode := (.seq (.ops [.bin 9 .lss (.t 8) (.t 7)]) (.seq (.cond (.t 9) .skip (.exit 0)) (.seq (.block 1 (.seq (.ops [.mov 10 (.t 8), .asg 5 (.t 10)]) (.seq (.ops [.mov 11 (.t 1), .mov 12 (.t 0), .mov 13 (.t 5), .iadr 14 1 (.t 12) (.t 13), .load 15 none (.t 14), .callv 16 (.t 11) [(.t 15)]]) (.cond (.t 16) (.seq (.ops [.mov 17 (.t 5), .asg 4 (.t 17)]) .ret) .skip)))) (.ops [.bin 18 .add (.t 8) (.c (.int .i64 1)), .mov 8 (.t 18)]))))
def fn40_l1 : VCode :=
(.clean [0, 1, 7, 8] [4] (.block 0 (.loop [0, 1, 7, 8] fn40_b0)))
def fn40 : VFn := ⟨2, 19, [.tmp 4], (.seq (.ops [.asg 4 (.c (.int .i64 0))]) (.seq (.seq (.ops [.mov 6 (.t 0), .len 7 (.t 6), .mov 8 (.c (.int .i64 0))])
    fn40_l1) (.seq (.ops [.asg 4 (.c (.int .i64 (-1)))]) .ret)))⟩
def fn41 : VFn := ⟨1, 5, [.cell 2 (some 8)], (.seq (.ops [.alloc 2 [(.int .u8 0), (.int .u8 0), (.int .u8 0), (.int .u8 0), (.int .u8 0), (.int .u8 0), (.int .u8 0), (.int .u8 0)]]) (.seq (.ops [.mov 3 (.t 0), .build 4 [(.int .u8 0), (.int .u8 0), (.int .u8 0), (.int .u8 0), (.int .u8 0), (.int .u8 0), (.int .u8 0), (.int .u8 0)] [(0, 1, (.t 3))], .store none 8 (.t 2) (.t 4)]) .ret))⟩
def fn42_b0 : VCode := (.seq (.ops [.bin 14 .lss (.t 13) (.t 12)]) (.seq (.cond (.t 14) .skip (.exit 0)) (.seq (.block 1 (.seq (.ops [.mov 15 (.t 13), .asg 5 (.t 15)]) (.seq (.drw [] [] none [0, 1, 2, 3, 4, 5, 6, 7, 8] [.mov 16 (.t 0), .mov 17 (.t 5), .iadr 18 2 (.t 16) (.t 17), .load 19 (some 2) (.t 18), .mov 20 (.t 1), .mov 21 (.t 5), .iadr 22 2 (.t 20) (.t 21), .load 23 (some 2) (.t 22), .eqa 24 true 2 (.t 19) (.t 23)]) (.cond (.t 24) (.seq (.ops [.asg 4 (.c (.bool false))]) .ret) .skip)))) (.ops [.bin 25 .add (.t 13) (.c (.int .i64 1)), .mov 13 (.t 25)]))))
def fn42_l1 : VCode :=
(.clean [0, 1, 12, 13] [4] (.block 0 (.loop [0, 1, 12, 13] fn42_b0)))
def fn42 : VFn := ⟨2, 26, [.tmp 4], (.seq (.ops [.asg 4 (.c (.bool false))]) (.seq (.seq (.ops [.mov 6 (.t 0), .len 7 (.t 6), .mov 8 (.t 1), .len 9 (.t 8), .bin 10 .neq (.t 7) (.t 9)]) (.cond (.t 10) (.seq (.ops [.asg 4 (.c (.bool false))]) .ret) .skip)) (.seq (.seq (.ops [.mov 11 (.t 0), .len 12 (.t 11), .mov 13 (.c (.int .i64 0))])
     fn42_l1) (.seq (.ops [.asg 4 (.c (.bool true))]) .ret))))⟩
def fn43 : VFn := ⟨1, 13, [.tmp 2], (.seq (.ops [.asg 2 (.c (.int .i64 0))]) (.seq (.seq (.ops [.mov 3 (.t 0), .len 4 (.t 3), .bin 5 .lss (.t 4) (.c (.int .i64 1)), .mov 6 (.t 5), .grd 6 false (.mov 7 (.t 0)), .grd 6 false (.len 8 (.t 7)), .grd 6 false (.bin 9 .gtr (.t 8) (.c (.int .i64 8))), .pick 10 (.t 6) (.c (.bool true)) (.t 9)]) (.cond (.t 10) (.seq (.ops [.asg 2 (.c (.int .i64 6))]) .ret) .skip)) (.seq (.seq (.ops [.mov 11 (.t 0), .call 12 12 [(.t 11), (.c (.func 69 []))]]) (.cond (.t 12) (.seq (.ops [.asg 2 (.c (.int .i64 2))]) .ret) .skip)) (.seq (.ops [.asg 2 (.c (.int .i64 0))]) .ret))))⟩
def fn44_b0 : VCode := (.seq (.ops [.bin 14 .lss (.t 13) (.t 12)]) (.seq (.cond (.t 14) .skip (.exit 0)) (.seq (.block 1 (.seq (.ops [.iadr 15 1 (.t 11) (.t 13), .load 16 none (.t 15), .asg 7 (.t 16)]) (.ops [.mov 17 (.t 5), .mov 18 (.t 1), .mov 19 (.t 7), .callv 20 (.t 18) [(.t 19)], .mksl 21 1 [(.t 20)], .app 22 1 (.t 17) (.t 21), .asg 5 (.t 22)]))) (.ops [.bin 23 .add (.t 13) (.c (.int .i64 1)), .mov 13 (.t 23)]))))
def fn44_l1 : VCode :=
(.clean [0, 1, 5, 10, 11, 12, 13, 22] [4, 5] (.block 0 (.loop [0, 1, 5, 10, 11, 12, 13, 22] fn44_b0)))
def fn44 : VFn := ⟨2, 25, [.tmp 4], (.seq (.ops [.asg 4 (.nil 1)]) (.seq (.ops [.mov 8 (.t 0), .len 9 (.t 8), .make 10 (.list 0 []) (.c (.int .i64 0)) (.t 9), .asg 5 (.t 10)]) (.seq (.seq (.ops [.mov 11 (.t 0), .len 12 (.t 11), .mov 13 (.c (.int .i64 0))])
     fn44_l1) (.seq (.ops [.mov 24 (.t 5), .asg 4 (.t 24)]) .ret))))⟩
def fn45 : VFn := ⟨1, 5, [.tmp 2], (.seq (.ops [.asg 2 (.nil 8)]) (.seq (.ops [.mov 3 (.t 0), .make 4 (.agg [(.int .u8 0), (.int .u8 0), (.int .u8 0), (.int .u8 0), (.int .u8 0), (.int .u8 0), (.int .u8 0), (.int .u8 0)]) (.t 3) (.t 3), .asg 2 (.t 4)]) .ret))⟩
def fn46_b0 : VCode := (.seq (.seq (.ops [.mov 12 (.t 3), .mov 13 (.t 0), .len 14 (.t 13), .bin 15 .lss (.t 12) (.t 14)]) (.cond (.t 15) .skip (.exit 0))) (.seq (.block 1 (.seq (.ops [.mov 18 (.t 0), .mov 19 (.t 3), .iadr 20 1 (.t 18) (.t 19), .load 21 none (.t 20), .bin 22 .lss (.t 21) (.c (.int .i64 1)), .mov 23 (.t 22), .grd 23 false (.mov 24 (.t 0)), .grd 23 false (.mov 25 (.t 3)), .grd 23 false (.iadr 26 1 (.t 24) (.t 25)), .grd 23 false (.load 27 none (.t 26)), .grd 23 false (.bin 28 .gtr (.t 27) (.c (.int .i64 4096))), .pick 29 (.t 23) (.c (.bool true)) (.t 28)]) (.cond (.t 29) (.seq (.ops [.asg 2 (.c (.int .i64 2))]) .ret) .skip))) (.ops [.mov 16 (.t 3), .bin 17 .add (.t 16) (.c (.int .i64 1)), .asg 3 (.t 17)])))
def fn46_l1 : VCode :=
(.clean [0, 3] [2] (.block 0 (.loop [0, 3] fn46_b0)))
def fn46 : VFn := ⟨1, 30, [.tmp 2], (.seq (.ops [.asg 2 (.c (.int .i64 0))]) (.seq (.seq (.ops [.mov 4 (.t 0), .len 5 (.t 4), .bin 6 .lss (.t 5) (.c (.int .i64 1)), .mov 7 (.t 6), .grd 7 false (.mov 8 (.t 0)), .grd 7 false (.len 9 (.t 8)), .grd 7 false (.bin 10 .gtr (.t 9) (.c (.int .i64 8))), .pick 11 (.t 7) (.c (.bool true)) (.t 10)]) (.cond (.t 11) (.seq (.ops [.asg 2 (.c (.int .i64 6))]) .ret) .skip)) (.seq (.seq (.ops [.asg 3 (.c (.int .i64 0))])
     fn46_l1) (.seq (.ops [.asg 2 (.c (.int .i64 0))]) .ret))))⟩
def fn47_b0 : VCode := (.seq (.seq (.ops [.mov 11 (.t 5), .mov 12 (.t 0), .len 13 (.t 12), .bin 14 .lss (.t 11) (.t 13)]) (.cond (.t 14) .skip (.exit 0))) (.seq (.block 1 (.seq (.drw [] [] none [0, 1, 2, 3, 4, 5, 6, 7, 8] [.mov 17 (.t 0), .mov 18 (.t 5), .iadr 19 8 (.t 17) (.t 18), .load 20 (some 8) (.t 19), .mov 21 (.t 1), .mov 22 (.t 5), .iadr 23 8 (.t 21) (.t 22), .load 24 (some 8) (.t 23), .eqa 25 true 8 (.t 20) (.t 24)]) (.cond (.t 25) (.seq (.ops [.asg 4 (.c (.bool false))]) .ret) .skip))) (.ops [.mov 15 (.t 5), .bin 16 .add (.t 15) (.c (.int .i64 1)), .asg 5 (.t 16)])))
def fn47_l1 : VCode :=
(.clean [0, 1, 5] [4] (.block 0 (.loop [0, 1, 5] fn47_b0)))
def fn47 : VFn := ⟨2, 26, [.tmp 4], (.seq (.ops [.asg 4 (.c (.bool false))]) (.seq (.seq (.ops [.mov 6 (.t 0), .len 7 (.t 6), .mov 8 (.t 1), .len 9 (.t 8), .bin 10 .neq (.t 7) (.t 9)]) (.cond (.t 10) (.seq (.ops [.asg 4 (.c (.bool false))]) .ret) .skip)) (.seq (.seq (.ops [.asg 5 (.c (.int .i64 0))])
     fn47_l1) (.seq (.ops [.asg 4 (.c (.bool true))]) .ret))))⟩
def fn48 : VFn := ⟨1, 5, [.tmp 2], (.seq (.ops [.asg 2 (.nil 1)]) (.seq (.ops [.mov 3 (.t 0), .call 4 70 [(.t 3), (.c (.func 71 []))], .asg 2 (.t 4)]) .ret))⟩
def fn49 : VFn := ⟨2, 9, [.tmp 4], (.seq (.ops [.asg 4 (.c (.bool false))]) (.seq (.ops [.mov 5 (.t 0), .mov 6 (.t 1), .call 7 72 [(.t 5), (.t 6)], .bin 8 .geq (.t 7) (.c (.int .i64 0)), .asg 4 (.t 8)]) .ret))⟩
def fn50 : VFn := ⟨1, 7, [.tmp 2], (.seq (.ops [.box 1 (.t 0), .asg 2 (.c (.bool false))]) (.seq (.ops [.fadr 3 (.t 1) 2, .load 4 none (.t 3), .len 5 (.t 4), .bin 6 .gtr (.t 5) (.c (.int .i64 30)), .asg 2 (.t 6)]) .ret))⟩
def fn51 : VFn := ⟨2, 40, [.tmp 4], (.seq (.ops [.box 3 (.t 1), .asg 4 (.c (.int .i64 0))]) (.seq (.block 0 (.seq (.ops [.fadr 6 (.t 3) 0, .load 7 none (.t 6), .bin 8 .lss (.t 7) (.c (.int .i64 0)), .mov 9 (.t 8), .grd 9 false (.fadr 10 (.t 3) 0), .grd 9 false (.load 11 none (.t 10)), .grd 9 false (.mov 12 (.t 0)), .grd 9 false (.len 13 (.t 12)), .grd 9 false (.bin 14 .geq (.t 11) (.t 13)), .pick 15 (.t 9) (.c (.bool true)) (.t 14), .asg 5 (.t 15)]) (.cond (.t 5) (.seq (.ops [.asg 4 (.c (.int .i64 7))]) .ret) (.seq (.ops [.fadr 17 (.t 3) 2, .load 18 none (.t 17), .len 19 (.t 18), .bin 20 .eql (.t 19) (.c (.int .i64 0)), .asg 16 (.t 20)]) (.cond (.t 16) (.seq (.ops [.asg 4 (.c (.int .i64 1))]) .ret) (.seq (.drw [] [] none [0, 1, 2, 3, 4, 5, 6, 7, 8, 9, 10, 11, 12, 13, 14, 15, 16, 17, 18] [.fadr 22 (.t 3) 1, .load 23 none (.t 22), .bin 24 .lss (.t 23) (.c (.int .i64 0)), .mov 25 (.t 24), .grd 25 false (.fadr 26 (.t 3) 1), .grd 25 false (.load 27 none (.t 26)), .grd 25 false (.mov 28 (.t 0)), .grd 25 false (.fadr 29 (.t 3) 0), .grd 25 false (.load 30 none (.t 29)), .grd 25 false (.iadr 31 1 (.t 28) (.t 30)), .grd 25 false (.load 32 none (.t 31)), .grd 25 false (.len 33 (.t 32)), .grd 25 false (.fadr 34 (.t 3) 2), .grd 25 false (.load 35 none (.t 34)), .grd 25 false (.len 36 (.t 35)), .grd 25 false (.bin 37 .sub (.t 33) (.t 36)), .grd 25 false (.bin 38 .gtr (.t 27) (.t 37)), .pick 39 (.t 25) (.c (.bool true)) (.t 38), .asg 21 (.t 39)]) (.cond (.t 21) (.seq (.ops [.asg 4 (.c (.int .i64 2))]) .ret) .skip))))))) (.seq (.ops [.asg 4 (.c (.int .i64 0))]) .ret)))⟩
def fn52 : VFn := ⟨2, 46, [.tmp 4], (.seq (.ops [.box 3 (.t 1), .asg 4 (.c (.int .i64 0))]) (.seq (.seq (.ops [.fadr 5 (.t 3) 0, .load 6 none (.t 5), .bin 7 .lss (.t 6) (.c (.int .i64 0)), .mov 8 (.t 7), .grd 8 false (.fadr 9 (.t 3) 0), .grd 8 false (.load 10 none (.t 9)), .grd 8 false (.mov 11 (.t 0)), .grd 8 false (.len 12 (.t 11)), .grd 8 false (.bin 13 .geq (.t 10) (.t 12)), .pick 14 (.t 8) (.c (.bool true)) (.t 13)]) (.cond (.t 14) (.seq (.ops [.asg 4 (.c (.int .i64 7))]) .ret) .skip)) (.seq (.seq (.ops [.fadr 15 (.t 3) 2, .load 16 none (.t 15), .len 17 (.t 16), .bin 18 .eql (.t 17) (.c (.int .i64 0))]) (.cond (.t 18) (.seq (.ops [.asg 4 (.c (.int .i64 1))]) .ret) .skip)) (.seq (.seq (.drw [] [] none [0, 1, 2, 3, 4, 5, 6, 7, 8, 9, 10, 11, 12, 13, 14, 15, 16, 17, 18, 19, 20, 21, 22, 23, 24, 25, 26] [.fadr 19 (.t 3) 1, .load 20 none (.t 19), .bin 21 .lss (.t 20) (.c (.int .i64 0)), .mov 22 (.t 21), .grd 22 false (.fadr 23 (.t 3) 1), .grd 22 false (.load 24 none (.t 23)), .grd 22 false (.mov 25 (.t 0)), .grd 22 false (.fadr 26 (.t 3) 0), .grd 22 false (.load 27 none (.t 26)), .grd 22 false (.iadr 28 1 (.t 25) (.t 27)), .grd 22 false (.load 29 none (.t 28)), .grd 22 false (.bin 30 .geq (.t 24) (.t 29)), .pick 31 (.t 22) (.c (.bool true)) (.t 30), .mov 32 (.t 31), .grd 32 false (.fadr 33 (.t 3) 2), .grd 32 false (.load 34 none (.t 33)), .grd 32 false (.len 35 (.t 34)), .grd 32 false (.mov 36 (.t 0)), .grd 32 false (.fadr 37 (.t 3) 0), .grd 32 false (.load 38 none (.t 37)), .grd 32 false (.iadr 39 1 (.t 36) (.t 38)), .grd 32 false (.load 40 none (.t 39)), .grd 32 false (.fadr 41 (.t 3) 1), .grd 32 false (.load 42 none (.t 41)), .grd 32 false (.bin 43 .sub (.t 40) (.t 42)), .grd 32 false (.bin 44 .gtr (.t 35) (.t 43)), .pick 45 (.t 32) (.c (.bool true)) (.t 44)]) (.cond (.t 45) (.seq (.ops [.asg 4 (.c (.int .i64 2))]) .ret) .skip)) (.seq (.ops [.asg 4 (.c (.int .i64 0))]) .ret)))))⟩
def fn53 : VFn := ⟨1, 5, [.tmp 2], (.seq (.ops [.asg 2 (.nil 1)]) (.seq (.ops [.mov 3 (.t 0), .call 4 73 [(.t 3), (.c (.func 58 []))], .asg 2 (.t 4)]) .ret))⟩
def fn54_b0 : VCode := (.seq (.ops [.bin 13 .lss (.t 12) (.t 11)]) (.seq (.cond (.t 13) .skip (.exit 0)) (.seq (.block 1 (.seq (.ops [.iadr 14 1 (.t 10) (.t 12), .load 15 none (.t 14), .asg 6 (.t 15)]) (.seq (.ops [.mov 16 (.t 6), .call 17 18 [(.t 16)], .asg 7 (.t 17)]) (.seq (.ops [.mov 18 (.t 7), .bin 19 .neq (.t 18) (.c (.int .i64 0))]) (.cond (.t 19) (.seq (.ops [.mov 20 (.t 7), .asg 4 (.t 20)]) .ret) .skip))))) (.ops [.bin 21 .add (.t 12) (.c (.int .i64 1)), .mov 12 (.t 21)]))))
def fn54_l1 : VCode :=
(.clean [0, 1, 10, 11, 12] [0, 1, 4] (.block 0 (.loop [0, 1, 10, 11, 12] fn54_b0)))
def fn54 : VFn := ⟨2, 28, [.tmp 4], (.seq (.ops [.asg 4 (.c (.int .i64 0))]) (.seq (.seq (.ops [.mov 8 (.t 0), .mov 9 (.t 1), .mksl 10 1 [(.t 8), (.t 9)], .len 11 (.t 10), .mov 12 (.c (.int .i64 0))])
    fn54_l1) (.seq (.seq (.ops [.mov 22 (.t 0), .call 23 48 [(.t 22)], .mov 24 (.t 1), .call 25 48 [(.t 24)], .call 26 36 [(.t 23), (.t 25)], .un 27 .not (.t 26)]) (.cond (.t 27) (.seq (.ops [.asg 4 (.c (.int .i64 22))]) .ret) .skip)) (.seq (.ops [.asg 4 (.c (.int .i64 0))]) .ret))))⟩
def fn55_b0 : VCode := (.ops [.asg 7 (.t 11)])
def fn55_b1 : VCode := (.block 1 (.seq (.seq (.ops [.mov 12 (.t 7), .load 13 none (.t 6), .bin 14 .eql (.t 12) (.t 13)]) (.cond (.t 14) (.ops [.load 15 none (.t 5), .load 16 none (.t 5), .len 17 (.t 16), .bin 18 .sub (.t 17) (.c (.int .i64 1)), .iadr 19 2 (.t 15) (.t 18), .fadr 20 (.t 19) 1, .load 21 none (.t 20), .bin 22 .add (.t 21) (.c (.int .i64 1)), .iadr 23 2 (.t 15) (.t 18), .fadr 24 (.t 23) 1, .store none 1 (.t 24) (.t 22)]) (.ops [.load 25 none (.t 5), .mov 26 (.t 7), .build 27 [(.int .i64 0), (.int .i64 0)] [(0, 1, (.t 26)), (1, 1, (.c (.int .i64 1)))], .mksl 28 2 [(.t 27)], .app 29 2 (.t 25) (.t 28), .store none 1 (.t 5) (.t 29)]))) (.ops [.mov 30 (.t 7), .bin 31 .add (.t 30) (.c (.int .i64 1)), .store none 1 (.t 6) (.t 31)])))
def fn55 : VFn := ⟨2, 33, [.tmp 4], (.seq (.ops [.asg 4 (.nil 2)]) (.seq (.ops [.alloc 5 [(.list 2 [])]]) (.seq (.ops [.alloc 6 [(.int .i64 0)], .store none 1 (.t 6) (.c (.int .i64 (-1)))]) (.seq (.seq (.ops [.mov 8 (.t 0), .mov 9 (.t 1), .call 10 74 [(.t 8), (.t 9)]]) (.block 0 (.rng (.t 10) [11] fn55_b0 fn55_b1))) (.seq (.ops [.load 32 none (.t 5), .asg 4 (.t 32)]) .ret)))))⟩
def fn56_b0 : VCode := (.seq (.ops [.bin 18 .lss (.t 17) (.t 16)]) (.seq (.cond (.t 18) .skip (.exit 0)) (.seq (.block 1 (.seq (.ops [.mov 19 (.t 17), .iadr 20 1 (.t 15) (.t 17), .load 21 none (.t 20), .asg 7 (.t 19), .asg 8 (.t 21)]) (.seq (.ops [.mov 22 (.t 1), .mov 23 (.t 7), .iadr 24 1 (.t 22) (.t 23), .load 25 none (.t 24), .asg 9 (.t 25)]) (.seq (.ops [.mov 26 (.t 2), .mov 27 (.t 8), .mov 28 (.t 9), .callv 29 (.t 26) [(.t 27), (.t 28)], .un 30 .not (.t 29)]) (.cond (.t 30) (.seq (.ops [.asg 6 (.c (.bool false))]) .ret) .skip))))) (.ops [.bin 31 .add (.t 17) (.c (.int .i64 1)), .mov 17 (.t 31)]))))
def fn56_l1 : VCode :=
(.clean [0, 1, 2, 15, 16, 17] [6] (.block 0 (.loop [0, 1, 2, 15, 16, 17] fn56_b0)))
def fn56 : VFn := ⟨3, 32, [.tmp 6], (.seq (.ops [.asg 6 (.c (.bool false))]) (.seq (.seq (.ops [.mov 10 (.t 0), .len 11 (.t 10), .mov 12 (.t 1), .len 13 (.t 12), .bin 14 .neq (.t 11) (.t 13)]) (.cond (.t 14) (.seq (.ops [.asg 6 (.c (.bool false))]) .ret) .skip)) (.seq (.seq (.ops [.mov 15 (.t 0), .len 16 (.t 15), .mov 17 (.c (.int .i64 0))])
     fn56_l1) (.seq (.ops [.asg 6 (.c (.bool true))]) .ret))))⟩
def fn57 : VFn := ⟨2, 8, [.tmp 4], (.seq (.ops [.asg 4 (.c (.bool false))]) (.seq (.ops [.mov 5 (.t 0), .mov 6 (.t 1), .call 7 42 [(.t 5), (.t 6)], .asg 4 (.t 7)]) .ret))⟩
def fn58 : VFn := ⟨1, 8, [.tmp 2], (.seq (.ops [.asg 2 (.nil 8)]) (.seq (.seq (.ops [.mov 3 (.t 0), .isn 4 false (.t 3)]) (.cond (.t 4) (.seq (.ops [.asg 2 (.nil 8)]) .ret) .skip)) (.seq (.ops [.mksl 5 8 [], .mov 6 (.t 0), .app 7 8 (.t 5) (.t 6), .asg 2 (.t 7)]) .ret)))⟩
def fn59_b0 : VCode := (.seq (.seq (.ops [.mov 23 (.t 7), .mov 24 (.t 0), .len 25 (.t 24), .bin 26 .lss (.t 23) (.t 25)]) (.cond (.t 26) .skip (.exit 0))) (.seq (.block 1 (.seq (.drw [] [] none [0, 1, 2, 3, 4, 5, 6, 7, 8, 9, 10] [.mov 29 (.t 0), .mov 30 (.t 7), .iadr 31 1 (.t 29) (.t 30), .load 32 none (.t 31), .len 33 (.t 32), .mov 34 (.t 1), .mov 35 (.t 7), .iadr 36 1 (.t 34) (.t 35), .load 37 none (.t 36), .len 38 (.t 37), .bin 39 .neq (.t 33) (.t 38)]) (.cond (.t 39) (.seq (.ops [.asg 4 (.c (.int .i64 22))]) .ret) .skip))) (.ops [.mov 27 (.t 7), .bin 28 .add (.t 27) (.c (.int .i64 1)), .asg 7 (.t 28)])))
def fn59_l1 : VCode :=
(.clean [0, 1, 7] [4] (.block 0 (.loop [0, 1, 7] fn59_b0)))
def fn59 : VFn := ⟨2, 40, [.tmp 4], (.seq (.ops [.asg 4 (.c (.int .i64 0))]) (.seq (.seq (.ops [.mov 8 (.t 0), .call 9 19 [(.t 8)], .asg 5 (.t 9)]) (.seq (.ops [.mov 10 (.t 5), .bin 11 .neq (.t 10) (.c (.int .i64 0))]) (.cond (.t 11) (.seq (.ops [.mov 12 (.t 5), .asg 4 (.t 12)]) .ret) .skip))) (.seq (.seq (.ops [.mov 13 (.t 1), .call 14 19 [(.t 13)], .asg 6 (.t 14)]) (.seq (.ops [.mov 15 (.t 6), .bin 16 .neq (.t 15) (.c (.int .i64 0))]) (.cond (.t 16) (.seq (.ops [.mov 17 (.t 6), .asg 4 (.t 17)]) .ret) .skip))) (.seq (.seq (.ops [.mov 18 (.t 0), .len 19 (.t 18), .mov 20 (.t 1), .len 21 (.t 20), .bin 22 .neq (.t 19) (.t 21)]) (.cond (.t 22) (.seq (.ops [.asg 4 (.c (.int .i64 22))]) .ret) .skip)) (.seq (.seq (.ops [.asg 7 (.c (.int .i64 0))])
       fn59_l1) (.seq (.ops [.asg 4 (.c (.int .i64 0))]) .ret))))))⟩
def fn60_b0 : VCode := (.seq (.seq (.ops [.mov 8 (.t 6), .mov 9 (.t 0), .len 10 (.t 9), .bin 11 .lss (.t 8) (.t 10)]) (.cond (.t 11) .skip (.exit 0))) (.seq (.block 1 (.seq (.seq (.drw [] [] none [0, 1, 2, 3, 4, 5, 6, 7, 8] [.mov 14 (.t 0), .mov 15 (.t 6), .iadr 16 8 (.t 14) (.t 15), .load 17 (some 8) (.t 16), .mov 18 (.t 1), .mov 19 (.t 6), .iadr 20 8 (.t 18) (.t 19), .load 21 (some 8) (.t 20), .eqa 22 false 8 (.t 17) (.t 21)]) (.cond (.t 22) (.exit 1) .skip)) (.seq (.ops [.mov 23 (.t 5), .len 24 (.t 23), .asg 7 (.t 24)]) (.seq (.drw [] [] none [0, 1, 2, 3, 4, 5, 6, 7, 8, 9, 10, 11, 12, 13, 14, 15, 16, 17, 18] [.mov 25 (.t 7), .bin 26 .gtr (.t 25) (.c (.int .i64 0)), .mov 27 (.t 26), .grd 27 true (.mov 28 (.t 5)), .grd 27 true (.mov 29 (.t 7)), .grd 27 true (.bin 30 .sub (.t 29) (.c (.int .i64 1))), .grd 27 true (.iadr 31 2 (.t 28) (.t 30)), .grd 27 true (.fadr 32 (.t 31) 0), .grd 27 true (.load 33 none (.t 32)), .grd 27 true (.mov 34 (.t 5)), .grd 27 true (.mov 35 (.t 7)), .grd 27 true (.bin 36 .sub (.t 35) (.c (.int .i64 1))), .grd 27 true (.iadr 37 2 (.t 34) (.t 36)), .grd 27 true (.fadr 38 (.t 37) 1), .grd 27 true (.load 39 none (.t 38)), .grd 27 true (.bin 40 .add (.t 33) (.t 39)), .grd 27 true (.mov 41 (.t 6)), .grd 27 true (.bin 42 .eql (.t 40) (.t 41)), .pick 43 (.t 27) (.t 42) (.c (.bool false))]) (.cond (.t 43) (.ops [.mov 44 (.t 5), .mov 45 (.t 7), .bin 46 .sub (.t 45) (.c (.int .i64 1)), .iadr 47 2 (.t 44) (.t 46), .fadr 48 (.t 47) 1, .load 49 none (.t 48), .bin 50 .add (.t 49) (.c (.int .i64 1)), .iadr 51 2 (.t 44) (.t 46), .fadr 52 (.t 51) 1, .store none 1 (.t 52) (.t 50)]) (.ops [.mov 53 (.t 5), .mov 54 (.t 6), .build 55 [(.int .i64 0), (.int .i64 0)] [(0, 1, (.t 54)), (1, 1, (.c (.int .i64 1)))], .mksl 56 2 [(.t 55)], .app 57 2 (.t 53) (.t 56), .asg 5 (.t 57)])))))) (.ops [.mov 12 (.t 6), .bin 13 .add (.t 12) (.c (.int .i64 1)), .asg 6 (.t 13)])))
def fn60_l1 : VCode :=
(.clean [0, 1, 5, 6, 57] [4, 5] (.block 0 (.loop [0, 1, 5, 6, 57] fn60_b0)))
def fn60 : VFn := ⟨2, 59, [.tmp 4], (.seq (.ops [.asg 4 (.nil 2)]) (.seq (.ops [.asg 5 (.nil 2)]) (.seq (.seq (.ops [.asg 6 (.c (.int .i64 0))])
     fn60_l1) (.seq (.ops [.mov 58 (.t 5), .asg 4 (.t 58)]) .ret))))⟩
def fn61_b0 : VCode := (.seq (.ops [.bin 14 .lss (.t 13) (.t 12)]) (.seq (.cond (.t 14) .skip (.exit 0)) (.seq (.block 1 (.seq (.ops [.iadr 15 2 (.t 11) (.t 13), .load 16 (some 2) (.t 15), .alloc 7 [(.int .i64 0), (.int .i64 0)], .store none 2 (.t 7) (.t 16)]) (.ops [.mov 17 (.t 5), .mov 18 (.t 1), .load 19 (some 2) (.t 7), .callv 20 (.t 18) [(.t 19)], .mksl 21 3 [(.t 20)], .app 22 3 (.t 17) (.t 21), .asg 5 (.t 22)]))) (.ops [.bin 23 .add (.t 13) (.c (.int .i64 1)), .mov 13 (.t 23)]))))
def fn61_l1 : VCode :=
(.clean [0, 1, 5, 10, 11, 12, 13, 22] [4, 5] (.block 0 (.loop [0, 1, 5, 10, 11, 12, 13, 22] fn61_b0)))
def fn61 : VFn := ⟨2, 25, [.tmp 4], (.seq (.ops [.asg 4 (.nil 3)]) (.seq (.ops [.mov 8 (.t 0), .len 9 (.t 8), .make 10 (.agg [(.int .i64 0), (.int .i64 0), (.list 0 [])]) (.c (.int .i64 0)) (.t 9), .asg 5 (.t 10)]) (.seq (.seq (.ops [.mov 11 (.t 0), .len 12 (.t 11), .mov 13 (.c (.int .i64 0))])
     fn61_l1) (.seq (.ops [.mov 24 (.t 5), .asg 4 (.t 24)]) .ret))))⟩
def fn62 : VFn := ⟨3, 22, [.cell 4 (some 3)], (.seq (.ops [.box 3 (.t 0), .alloc 4 [(.int .i64 0), (.int .i64 0), (.list 0 [])]]) (.seq (.drw [] [([0, 1, 2, 3, 4, 5, 6, 7, 8, 9, 10, 11, 12, 13, 14], 15)] (some ([16], [], 17, [])) [] [.load 5 none (.t 1), .fadr 6 (.t 3) 0, .load 7 none (.t 6), .load 8 none (.t 2), .load 9 none (.t 1), .iadr 10 1 (.t 8) (.t 9), .load 11 none (.t 10), .fadr 12 (.t 3) 0, .load 13 none (.t 12), .fadr 14 (.t 3) 0, .load 15 none (.t 14), .fadr 16 (.t 3) 1, .load 17 none (.t 16), .bin 18 .add (.t 15) (.t 17), .sli 19 8 (.t 11) (some (.t 13)) (some (.t 18)), .call 20 58 [(.t 19)], .build 21 [(.int .i64 0), (.int .i64 0), (.list 0 [])] [(0, 1, (.t 5)), (1, 1, (.t 7)), (2, 1, (.t 20))], .store none 3 (.t 4) (.t 21)]) .ret))⟩
def fn63_b0 : VCode := (.seq (.ops [.bin 18 .lss (.t 17) (.t 16)]) (.seq (.cond (.t 18) .skip (.exit 0)) (.seq (.block 1 (.seq (.ops [.mov 19 (.t 17), .iadr 20 1 (.t 15) (.t 17), .load 21 none (.t 20), .asg 7 (.t 19), .asg 8 (.t 21)]) (.seq (.ops [.mov 22 (.t 1), .mov 23 (.t 7), .iadr 24 1 (.t 22) (.t 23), .load 25 none (.t 24), .asg 9 (.t 25)]) (.seq (.ops [.mov 26 (.t 2), .mov 27 (.t 8), .mov 28 (.t 9), .callv 29 (.t 26) [(.t 27), (.t 28)], .un 30 .not (.t 29)]) (.cond (.t 30) (.seq (.ops [.asg 6 (.c (.bool false))]) .ret) .skip))))) (.ops [.bin 31 .add (.t 17) (.c (.int .i64 1)), .mov 17 (.t 31)]))))
def fn63_l1 : VCode :=
(.clean [0, 1, 2, 15, 16, 17] [6] (.block 0 (.loop [0, 1, 2, 15, 16, 17] fn63_b0)))
def fn63 : VFn := ⟨3, 32, [.tmp 6], (.seq (.ops [.asg 6 (.c (.bool false))]) (.seq (.seq (.ops [.mov 10 (.t 0), .len 11 (.t 10), .mov 12 (.t 1), .len 13 (.t 12), .bin 14 .neq (.t 11) (.t 13)]) (.cond (.t 14) (.seq (.ops [.asg 6 (.c (.bool false))]) .ret) .skip)) (.seq (.seq (.ops [.mov 15 (.t 0), .len 16 (.t 15), .mov 17 (.c (.int .i64 0))])
     fn63_l1) (.seq (.ops [.asg 6 (.c (.bool true))]) .ret))))⟩
def fn64_b0 : VCode := (.seq (.seq (.ops [.mov 11 (.t 5), .mov 12 (.t 0), .len 13 (.t 12), .bin 14 .lss (.t 11) (.t 13)]) (.cond (.t 14) .skip (.exit 0))) (.seq (.block 1 (.seq (.drw [] [] none [0, 1, 2, 3, 4, 5, 6, 7, 8] [.mov 17 (.t 0), .mov 18 (.t 5), .iadr 19 8 (.t 17) (.t 18), .load 20 (some 8) (.t 19), .mov 21 (.t 1), .mov 22 (.t 5), .iadr 23 8 (.t 21) (.t 22), .load 24 (some 8) (.t 23), .eqa 25 true 8 (.t 20) (.t 24)]) (.cond (.t 25) (.seq (.ops [.asg 4 (.c (.bool false))]) .ret) .skip))) (.ops [.mov 15 (.t 5), .bin 16 .add (.t 15) (.c (.int .i64 1)), .asg 5 (.t 16)])))
def fn64_l1 : VCode :=
(.clean [0, 1, 5] [4] (.block 0 (.loop [0, 1, 5] fn64_b0)))
def fn64 : VFn := ⟨2, 26, [.tmp 4], (.seq (.ops [.asg 4 (.c (.bool false))]) (.seq (.seq (.ops [.mov 6 (.t 0), .len 7 (.t 6), .mov 8 (.t 1), .len 9 (.t 8), .bin 10 .neq (.t 7) (.t 9)]) (.cond (.t 10) (.seq (.ops [.asg 4 (.c (.bool false))]) .ret) .skip)) (.seq (.seq (.ops [.asg 5 (.c (.int .i64 0))])
     fn64_l1) (.seq (.ops [.asg 4 (.c (.bool true))]) .ret))))⟩
def fn65 : VFn := ⟨1, 5, [.tmp 2], (.seq (.ops [.box 1 (.t 0), .asg 2 (.c (.int .u64 0))]) (.seq (.ops [.mkf 3 76 [(.t 1)], .call 4 75 [(.t 3)], .asg 2 (.t 4)]) .ret))⟩
def fn66_b0 : VCode := (.seq (.ops [.bin 8 .lss (.t 7) (.c (.int .i64 8))]) (.seq (.cond (.t 8) .skip (.exit 0)) (.seq (.block 1 (.seq (.ops [.mov 9 (.t 7), .asg 6 (.t 9)]) (.drw [] [] (some ([0, 3, 4, 5, 6, 7, 13], [1, 2, 8, 9, 10, 11, 12], 14, [([15], 16)])) [] [.mov 10 (.t 6), .mov 13 (.t 0), .mov 14 (.t 6), .bin 15 .mul (.c (.int .i64 8)) (.t 14), .bin 16 .shr (.t 13) (.t 15), .conv 17 .u8 (.t 16), .aadr 23 (.t 5) (.t 10) 16 1, .mov 11 (.t 6), .bin 12 .add (.c (.int .i64 8)) (.t 11), .mov 18 (.t 1), .mov 19 (.t 6), .bin 20 .mul (.c (.int .i64 8)) (.t 19), .bin 21 .shr (.t 18) (.t 20), .conv 22 .u8 (.t 21), .store none 1 (.t 23) (.t 17), .aadr 24 (.t 5) (.t 12) 16 1, .store none 1 (.t 24) (.t 22)]))) (.ops [.bin 25 .add (.t 7) (.c (.int .i64 1)), .mov 7 (.t 25)]))))
def fn66_l1 : VCode :=
(.clean [0, 1, 5, 7] [4, 5] (.block 0 (.loop [0, 1, 5, 7] fn66_b0)))
def fn66 : VFn := ⟨2, 28, [.tmp 4], (.seq (.ops [.asg 4 (.c (.int .u64 0))]) (.seq (.ops [.alloc 5 [(.int .u8 0), (.int .u8 0), (.int .u8 0), (.int .u8 0), (.int .u8 0), (.int .u8 0), (.int .u8 0), (.int .u8 0), (.int .u8 0), (.int .u8 0), (.int .u8 0), (.int .u8 0), (.int .u8 0), (.int .u8 0), (.int .u8 0), (.int .u8 0)]]) (.seq (.seq (.ops [.mov 7 (.c (.int .i64 0))])
     fn66_l1) (.seq (.ops [.asl 26 16 (.t 5), .call 27 77 [(.t 26)], .asg 4 (.t 27)]) .ret))))⟩
def fn67 : VFn := ⟨1, 6, [.tmp 2], (.seq (.ops [.asg 2 (.c (.int .u64 0))]) (.seq (.ops [.mov 3 (.t 0), .call 4 79 [(.t 3)], .call 5 78 [(.t 4)], .asg 2 (.t 5)]) .ret))⟩
def fn68_b0 : VCode := (.seq (.seq (.ops [.mov 8 (.t 6), .bin 9 .lss (.t 8) (.c (.int .i64 8))]) (.cond (.t 9) .skip (.exit 0))) (.seq (.block 1 (.ops [.mov 12 (.t 5), .mov 13 (.t 0), .mov 14 (.t 6), .bin 15 .mul (.c (.int .i64 8)) (.t 14), .bin 16 .shr (.t 13) (.t 15), .conv 17 .u8 (.t 16), .mksl 18 1 [(.t 17)], .app 19 1 (.t 12) (.t 18), .asg 5 (.t 19)])) (.ops [.mov 10 (.t 6), .bin 11 .add (.t 10) (.c (.int .i64 1)), .asg 6 (.t 11)])))
def fn68_l1 : VCode :=
(.clean [0, 1, 5, 6, 19, 31] [1, 4, 5, 19, 31] (.block 0 (.loop [0, 1, 5, 6, 19, 31] fn68_b0)))
def fn68_b2 : VCode := (.seq (.seq (.ops [.mov 20 (.t 7), .bin 21 .lss (.t 20) (.c (.int .i64 8))]) (.cond (.t 21) .skip (.exit 2))) (.seq (.block 3 (.ops [.mov 24 (.t 5), .mov 25 (.t 1), .mov 26 (.t 7), .bin 27 .mul (.c (.int .i64 8)) (.t 26), .bin 28 .shr (.t 25) (.t 27), .conv 29 .u8 (.t 28), .mksl 30 1 [(.t 29)], .app 31 1 (.t 24) (.t 30), .asg 5 (.t 31)])) (.ops [.mov 22 (.t 7), .bin 23 .add (.t 22) (.c (.int .i64 1)), .asg 7 (.t 23)])))
def fn68_l3 : VCode :=
(.clean [1, 5, 7, 19, 31] [4, 5] (.block 2 (.loop [1, 5, 7, 19, 31] fn68_b2)))
def fn68 : VFn := ⟨2, 34, [.tmp 4], (.seq (.ops [.asg 4 (.c (.int .u64 0))]) (.seq (.ops [.asg 5 (.nil 1)]) (.seq (.seq (.ops [.asg 6 (.c (.int .i64 0))])
     fn68_l1) (.seq (.seq (.ops [.asg 7 (.c (.int .i64 0))])
      fn68_l3) (.seq (.ops [.mov 32 (.t 5), .call 33 78 [(.t 32)], .asg 4 (.t 33)]) .ret)))))⟩
def fn69 : VFn := ⟨1, 9, [.tmp 2], (.seq (.ops [.asg 2 (.c (.bool false))]) (.seq (.ops [.mov 3 (.t 0), .bin 4 .lss (.t 3) (.c (.int .i64 1)), .mov 5 (.t 4), .grd 5 false (.mov 6 (.t 0)), .grd 5 false (.bin 7 .gtr (.t 6) (.c (.int .i64 4096))), .pick 8 (.t 5) (.c (.bool true)) (.t 7), .asg 2 (.t 8)]) .ret))⟩
def fn70_b0 : VCode := (.seq (.ops [.bin 14 .lss (.t 13) (.t 12)]) (.seq (.cond (.t 14) .skip (.exit 0)) (.seq (.block 1 (.seq (.ops [.iadr 15 1 (.t 11) (.t 13), .load 16 none (.t 15), .asg 7 (.t 16)]) (.ops [.mov 17 (.t 5), .mov 18 (.t 1), .mov 19 (.t 7), .callv 20 (.t 18) [(.t 19)], .mksl 21 1 [(.t 20)], .app 22 1 (.t 17) (.t 21), .asg 5 (.t 22)]))) (.ops [.bin 23 .add (.t 13) (.c (.int .i64 1)), .mov 13 (.t 23)]))))
def fn70_l1 : VCode :=
(.clean [0, 1, 5, 10, 11, 12, 13, 22] [4, 5] (.block 0 (.loop [0, 1, 5, 10, 11, 12, 13, 22] fn70_b0)))
def fn70 : VFn := ⟨2, 25, [.tmp 4], (.seq (.ops [.asg 4 (.nil 1)]) (.seq (.ops [.mov 8 (.t 0), .len 9 (.t 8), .make 10 (.int .i64 0) (.c (.int .i64 0)) (.t 9), .asg 5 (.t 10)]) (.seq (.seq (.ops [.mov 11 (.t 0), .len 12 (.t 11), .mov 13 (.c (.int .i64 0))])
     fn70_l1) (.seq (.ops [.mov 24 (.t 5), .asg 4 (.t 24)]) .ret))))⟩
def fn71 : VFn := ⟨1, 5, [.tmp 2], (.seq (.ops [.asg 2 (.c (.int .i64 0))]) (.seq (.ops [.mov 3 (.t 0), .len 4 (.t 3), .asg 2 (.t 4)]) .ret))⟩
def fn72_b0 : VCode := (.seq (.ops [.bin 9 .lss (.t 8) (.t 7)]) (.seq (.cond (.t 9) .skip (.exit 0)) (.seq (.block 1 (.seq (.ops [.mov 10 (.t 8), .asg 5 (.t 10)]) (.seq (.ops [.mov 11 (.t 1), .mov 12 (.t 0), .mov 13 (.t 5), .iadr 14 3 (.t 12) (.t 13), .load 15 (some 3) (.t 14), .callv 16 (.t 11) [(.t 15)]]) (.cond (.t 16) (.seq (.ops [.mov 17 (.t 5), .asg 4 (.t 17)]) .ret) .skip)))) (.ops [.bin 18 .add (.t 8) (.c (.int .i64 1)), .mov 8 (.t 18)]))))
def fn72_l1 : VCode :=
(.clean [0, 1, 7, 8] [4] (.block 0 (.loop [0, 1, 7, 8] fn72_b0)))
def fn72 : VFn := ⟨2, 19, [.tmp 4], (.seq (.ops [.asg 4 (.c (.int .i64 0))]) (.seq (.seq (.ops [.mov 6 (.t 0), .len 7 (.t 6), .mov 8 (.c (.int .i64 0))])
    fn72_l1) (.seq (.ops [.asg 4 (.c (.int .i64 (-1)))]) .ret)))⟩
def fn73_b0 : VCode := (.seq (.ops [.bin 14 .lss (.t 13) (.t 12)]) (.seq (.cond (.t 14) .skip (.exit 0)) (.seq (.block 1 (.seq (.ops [.iadr 15 1 (.t 11) (.t 13), .load 16 none (.t 15), .asg 7 (.t 16)]) (.ops [.mov 17 (.t 5), .mov 18 (.t 1), .mov 19 (.t 7), .callv 20 (.t 18) [(.t 19)], .mksl 21 1 [(.t 20)], .app 22 1 (.t 17) (.t 21), .asg 5 (.t 22)]))) (.ops [.bin 23 .add (.t 13) (.c (.int .i64 1)), .mov 13 (.t 23)]))))
def fn73_l1 : VCode :=
(.clean [0, 1, 5, 10, 11, 12, 13, 22] [4, 5] (.block 0 (.loop [0, 1, 5, 10, 11, 12, 13, 22] fn73_b0)))
def fn73 : VFn := ⟨2, 25, [.tmp 4], (.seq (.ops [.asg 4 (.nil 1)]) (.seq (.ops [.mov 8 (.t 0), .len 9 (.t 8), .make 10 (.list 0 []) (.c (.int .i64 0)) (.t 9), .asg 5 (.t 10)]) (.seq (.seq (.ops [.mov 11 (.t 0), .len 12 (.t 11), .mov 13 (.c (.int .i64 0))])
     fn73_l1) (.seq (.ops [.mov 24 (.t 5), .asg 4 (.t 24)]) .ret))))⟩
def fn74 : VFn := ⟨2, 6, [.tmp 4], (.seq (.ops [.box 2 (.t 0), .box 3 (.t 1), .asg 4 (.c .nilf)]) (.seq (.ops [.mkf 5 80 [(.t 2), (.t 3)], .asg 4 (.t 5)]) .ret))⟩
def fn75_b0 : VCode := (.ops [.asg 4 (.t 6)])
def fn75_b1 : VCode := (.block 1 (.ops [.load 7 none (.t 3), .mov 8 (.t 4), .conv 9 .u64 (.t 8), .bin 10 .xor (.t 7) (.t 9), .bin 11 .mul (.t 10) (.c (.int .u64 1099511628211)), .store none 1 (.t 3) (.t 11)]))
def fn75 : VFn := ⟨1, 16, [.tmp 2], (.seq (.ops [.asg 2 (.c (.int .u64 0))]) (.seq (.ops [.alloc 3 [(.int .u64 0)], .store none 1 (.t 3) (.c (.int .u64 14695981039346656037))]) (.seq (.seq (.ops [.mov 5 (.t 0)]) (.block 0 (.rng (.t 5) [6] fn75_b0 fn75_b1))) (.seq (.ops [.load 12 none (.t 3), .load 13 none (.t 3), .bin 14 .shr (.t 13) (.c (.int .u64 32)), .bin 15 .xor (.t 12) (.t 14), .asg 2 (.t 15)]) .ret))))⟩
def fn76_b0 : VCode := (.seq (.ops [.bin 15 .lss (.t 14) (.c (.int .i64 8))]) (.seq (.cond (.t 15) .skip (.exit 2)) (.seq (.block 3 (.seq (.ops [.idx 16 (.t 13) (.t 14) 8 1 none, .asg 6 (.t 16)]) (.seq (.ops [.mov 17 (.t 0), .mov 18 (.t 6), .yield 19 (.t 17) [(.t 18)], .un 20 .not (.t 19)]) (.cond (.t 20) .ret .skip)))) (.ops [.bin 21 .add (.t 14) (.c (.int .i64 1)), .mov 14 (.t 21)]))))
def fn76_l1 : VCode :=
(.clean [0, 7, 8, 9, 13, 14] [0, 7, 8, 9] (.block 2 (.loop [0, 7, 8, 9, 13, 14] fn76_b0)))
def fn76_b2 : VCode := (.seq (.ops [.bin 10 .lss (.t 9) (.t 8)]) (.seq (.cond (.t 10) .skip (.exit 0)) (.seq (.block 1 (.seq (.ops [.iadr 11 8 (.t 7) (.t 9), .load 12 (some 8) (.t 11), .alloc 4 [(.int .u8 0), (.int .u8 0), (.int .u8 0), (.int .u8 0), (.int .u8 0), (.int .u8 0), (.int .u8 0), (.int .u8 0)], .store none 8 (.t 4) (.t 12)]) (.seq (.ops [.load 13 (some 8) (.t 4), .mov 14 (.c (.int .i64 0))])
       fn76_l1))) (.ops [.bin 22 .add (.t 9) (.c (.int .i64 1)), .mov 9 (.t 22)]))))
def fn76_l3 : VCode :=
(.clean [0, 7, 8, 9] [] (.block 0 (.loop [0, 7, 8, 9] fn76_b2)))
def fn76 : VFn := ⟨2, 23, [], (.seq (.ops [.load 7 none (.t 1), .len 8 (.t 7), .mov 9 (.c (.int .i64 0))])
  fn76_l3)⟩
def fn77 : VFn := ⟨1, 5, [.tmp 2], (.seq (.ops [.box 1 (.t 0), .asg 2 (.c (.int .u64 0))]) (.seq (.ops [.mkf 3 81 [(.t 1)], .call 4 75 [(.t 3)], .asg 2 (.t 4)]) .ret))⟩
def fn78_b0 : VCode := (.seq (.seq (.ops [.mov 5 (.t 4), .mov 6 (.t 0), .len 7 (.t 6), .bin 8 .lss (.t 5) (.t 7)]) (.cond (.t 8) .skip (.exit 0))) (.seq (.block 1 (.ops [.mov 11 (.t 3), .mov 12 (.t 0), .mov 13 (.t 4), .iadr 14 1 (.t 12) (.t 13), .load 15 none (.t 14), .conv 16 .u64 (.t 15), .bin 17 .xor (.t 11) (.t 16), .bin 18 .mul (.t 17) (.c (.int .u64 1099511628211)), .asg 3 (.t 18)])) (.ops [.mov 9 (.t 4), .bin 10 .add (.t 9) (.c (.int .i64 1)), .asg 4 (.t 10)])))
def fn78_l1 : VCode :=
(.clean [0, 3, 4] [2, 3] (.block 0 (.loop [0, 3, 4] fn78_b0)))
def fn78 : VFn := ⟨1, 23, [.tmp 2], (.seq (.ops [.asg 2 (.c (.int .u64 0))]) (.seq (.ops [.asg 3 (.c (.int .u64 14695981039346656037))]) (.seq (.seq (.ops [.asg 4 (.c (.int .i64 0))])
     fn78_l1) (.seq (.ops [.mov 19 (.t 3), .mov 20 (.t 3), .bin 21 .shr (.t 20) (.c (.int .u64 32)), .bin 22 .xor (.t 19) (.t 21), .asg 2 (.t 22)]) .ret))))⟩
def fn79_b0 : VCode := (.seq (.seq (.ops [.mov 12 (.t 5), .bin 13 .lss (.t 12) (.c (.int .i64 8))]) (.cond (.t 13) .skip (.exit 2))) (.seq (.block 3 (.ops [.mov 16 (.t 3), .mov 17 (.t 0), .mov 18 (.t 4), .mov 19 (.t 5), .iadr 20 8 (.t 17) (.t 18), .aadr 21 (.t 20) (.t 19) 8 1, .load 22 none (.t 21), .mksl 23 1 [(.t 22)], .app 24 1 (.t 16) (.t 23), .asg 3 (.t 24)])) (.ops [.mov 14 (.t 5), .bin 15 .add (.t 14) (.c (.int .i64 1)), .asg 5 (.t 15)])))
def fn79_l1 : VCode :=
(.clean [0, 3, 4, 5, 24] [0, 2, 3, 4, 24] (.block 2 (.loop [0, 3, 4, 5, 24] fn79_b0)))
def fn79_b2 : VCode := (.seq (.seq (.ops [.mov 6 (.t 4), .mov 7 (.t 0), .len 8 (.t 7), .bin 9 .lss (.t 6) (.t 8)]) (.cond (.t 9) .skip (.exit 0))) (.seq (.block 1 (.seq (.ops [.asg 5 (.c (.int .i64 0))])
     fn79_l1)) (.ops [.mov 10 (.t 4), .bin 11 .add (.t 10) (.c (.int .i64 1)), .asg 4 (.t 11)])))
def fn79_l3 : VCode :=
(.clean [0, 3, 4, 24] [2, 3] (.block 0 (.loop [0, 3, 4, 24] fn79_b2)))
def fn79 : VFn := ⟨1, 26, [.tmp 2], (.seq (.ops [.asg 2 (.nil 1)]) (.seq (.ops [.asg 3 (.nil 1)]) (.seq (.seq (.ops [.asg 4 (.c (.int .i64 0))])
     fn79_l3) (.seq (.ops [.mov 25 (.t 3), .asg 2 (.t 25)]) .ret))))⟩
def fn80_b0 : VCode := (.seq (.ops [.bin 8 .lss (.t 7) (.t 6)]) (.seq (.cond (.t 8) .skip (.exit 0)) (.seq (.block 1 (.seq (.ops [.mov 9 (.t 7), .asg 4 (.t 9)]) (.seq (.drw [] [] (some ([0, 1, 2, 3, 4, 5, 6, 7, 8, 9, 10, 11], [], 12, [])) [13, 14] [.load 10 none (.t 1), .mov 11 (.t 4), .iadr 12 8 (.t 10) (.t 11), .load 13 (some 8) (.t 12), .load 14 none (.t 2), .mov 15 (.t 4), .iadr 16 8 (.t 14) (.t 15), .load 17 (some 8) (.t 16), .eqa 18 true 8 (.t 13) (.t 17), .mov 19 (.t 18), .grd 19 true (.mov 20 (.t 0)), .grd 19 true (.mov 21 (.t 4)), .grd 19 true (.yield 22 (.t 20) [(.t 21)]), .grd 19 true (.un 23 .not (.t 22)), .pick 24 (.t 19) (.t 23) (.c (.bool false))]) (.cond (.t 24) .ret .skip)))) (.ops [.bin 25 .add (.t 7) (.c (.int .i64 1)), .mov 7 (.t 25)]))))
def fn80_l1 : VCode :=
(.clean [0, 1, 2, 6, 7] [] (.block 0 (.loop [0, 1, 2, 6, 7] fn80_b0)))
def fn80 : VFn := ⟨3, 26, [], (.seq (.ops [.load 5 none (.t 1), .len 6 (.t 5), .mov 7 (.c (.int .i64 0))])
  fn80_l1)⟩
def fn81_b0 : VCode := (.seq (.ops [.bin 8 .lss (.t 7) (.t 6)]) (.seq (.cond (.t 8) .skip (.exit 0)) (.seq (.block 1 (.seq (.ops [.iadr 9 1 (.t 5) (.t 7), .load 10 none (.t 9), .asg 4 (.t 10)]) (.seq (.ops [.mov 11 (.t 0), .mov 12 (.t 4), .yield 13 (.t 11) [(.t 12)], .un 14 .not (.t 13)]) (.cond (.t 14) .ret .skip)))) (.ops [.bin 15 .add (.t 7) (.c (.int .i64 1)), .mov 7 (.t 15)]))))
def fn81_l1 : VCode :=
(.clean [0, 5, 6, 7] [] (.block 0 (.loop [0, 5, 6, 7] fn81_b0)))
def fn81 : VFn := ⟨2, 16, [], (.seq (.ops [.load 5 none (.t 1), .len 6 (.t 5), .mov 7 (.c (.int .i64 0))])
  fn81_l1)⟩

def tab : List (Nat × VDef) := [(3, .code fn3), (4, .code fn4), (5, .code fn5), (6, .code fn6), (7, .code fn7), (8, .code fn8), (9, .code fn9), (10, .code fn10), (11, .code fn11), (12, .code fn12), (13, .code fn13), (14, .code fn14), (15, .code fn15), (16, .code fn16), (17, .code fn17), (18, .code fn18), (19, .code fn19), (20, .code fn20), (21, .code fn21), (22, .code fn22), (23, .ext applyX), (24, .code fn24), (25, .code fn25), (26, .code fn26), (27, .code fn27), (28, .code fn28), (29, .code fn29), (30, .code fn30), (31, .code fn31), (32, .code fn32), (33, .code fn33), (34, .code fn34), (35, .code fn35), (36, .code fn36), (37, .code fn37), (38, .code fn38), (39, .code fn39), (40, .code fn40), (41, .code fn41), (42, .code fn42), (43, .code fn43), (44, .code fn44), (45, .code fn45), (46, .code fn46), (47, .code fn47), (48, .code fn48), (49, .code fn49), (50, .code fn50), (51, .code fn51), (52, .code fn52), (53, .code fn53), (54, .code fn54), (55, .code fn55), (56, .code fn56), (57, .code fn57), (58, .ext (cloneX 8)), (59, .code fn59), (60, .code fn60), (61, .code fn61), (62, .code fn62), (63, .code fn63), (64, .code fn64), (65, .code fn65), (66, .code fn66), (67, .code fn67), (68, .code fn68), (69, .code fn69), (70, .code fn70), (71, .code fn71), (72, .code fn72), (73, .code fn73), (74, .code fn74), (75, .code fn75), (76, .code fn76), (77, .code fn77), (78, .code fn78), (79, .code fn79), (80, .code fn80), (81, .code fn81)]
def env : Env := fun f => tab.lookup f
theorem env3 : env 3 = some (.code fn3) := rfl
theorem env4 : env 4 = some (.code fn4) := rfl
theorem env5 : env 5 = some (.code fn5) := rfl
theorem env6 : env 6 = some (.code fn6) := rfl
theorem env7 : env 7 = some (.code fn7) := rfl
theorem env8 : env 8 = some (.code fn8) := rfl
theorem env9 : env 9 = some (.code fn9) := rfl
theorem env10 : env 10 = some (.code fn10) := rfl
theorem env11 : env 11 = some (.code fn11) := rfl
theorem env12 : env 12 = some (.code fn12) := rfl
theorem env13 : env 13 = some (.code fn13) := rfl
theorem env14 : env 14 = some (.code fn14) := rfl
theorem env15 : env 15 = some (.code fn15) := rfl
theorem env16 : env 16 = some (.code fn16) := rfl
theorem env17 : env 17 = some (.code fn17) := rfl
theorem env18 : env 18 = some (.code fn18) := rfl
theorem env19 : env 19 = some (.code fn19) := rfl
theorem env20 : env 20 = some (.code fn20) := rfl
theorem env21 : env 21 = some (.code fn21) := rfl
theorem env22 : env 22 = some (.code fn22) := rfl
theorem env23 : env 23 = some (.ext applyX) := rfl
theorem env24 : env 24 = some (.code fn24) := rfl
theorem env25 : env 25 = some (.code fn25) := rfl
theorem env26 : env 26 = some (.code fn26) := rfl
theorem env27 : env 27 = some (.code fn27) := rfl
theorem env28 : env 28 = some (.code fn28) := rfl
theorem env29 : env 29 = some (.code fn29) := rfl
theorem env30 : env 30 = some (.code fn30) := rfl
theorem env31 : env 31 = some (.code fn31) := rfl
theorem env32 : env 32 = some (.code fn32) := rfl
theorem env33 : env 33 = some (.code fn33) := rfl
theorem env34 : env 34 = some (.code fn34) := rfl
theorem env35 : env 35 = some (.code fn35) := rfl
theorem env36 : env 36 = some (.code fn36) := rfl
theorem env37 : env 37 = some (.code fn37) := rfl
theorem env38 : env 38 = some (.code fn38) := rfl
theorem env39 : env 39 = some (.code fn39) := rfl
theorem env40 : env 40 = some (.code fn40) := rfl
theorem env41 : env 41 = some (.code fn41) := rfl
theorem env42 : env 42 = some (.code fn42) := rfl
theorem env43 : env 43 = some (.code fn43) := rfl
theorem env44 : env 44 = some (.code fn44) := rfl
theorem env45 : env 45 = some (.code fn45) := rfl
theorem env46 : env 46 = some (.code fn46) := rfl
theorem env47 : env 47 = some (.code fn47) := rfl
theorem env48 : env 48 = some (.code fn48) := rfl
theorem env49 : env 49 = some (.code fn49) := rfl
theorem env50 : env 50 = some (.code fn50) := rfl
theorem env51 : env 51 = some (.code fn51) := rfl
theorem env52 : env 52 = some (.code fn52) := rfl
theorem env53 : env 53 = some (.code fn53) := rfl
theorem env54 : env 54 = some (.code fn54) := rfl
theorem env55 : env 55 = some (.code fn55) := rfl
theorem env56 : env 56 = some (.code fn56) := rfl
theorem env57 : env 57 = some (.code fn57) := rfl
theorem env58 : env 58 = some (.ext (cloneX 8)) := rfl
theorem env59 : env 59 = some (.code fn59) := rfl
theorem env60 : env 60 = some (.code fn60) := rfl
theorem env61 : env 61 = some (.code fn61) := rfl
theorem env62 : env 62 = some (.code fn62) := rfl
theorem env63 : env 63 = some (.code fn63) := rfl
theorem env64 : env 64 = some (.code fn64) := rfl
theorem env65 : env 65 = some (.code fn65) := rfl
theorem env66 : env 66 = some (.code fn66) := rfl
theorem env67 : env 67 = some (.code fn67) := rfl
theorem env68 : env 68 = some (.code fn68) := rfl
theorem env69 : env 69 = some (.code fn69) := rfl
theorem env70 : env 70 = some (.code fn70) := rfl
theorem env71 : env 71 = some (.code fn71) := rfl
theorem env72 : env 72 = some (.code fn72) := rfl
theorem env73 : env 73 = some (.code fn73) := rfl
theorem env74 : env 74 = some (.code fn74) := rfl
theorem env75 : env 75 = some (.code fn75) := rfl
theorem env76 : env 76 = some (.code fn76) := rfl
theorem env77 : env 77 = some (.code fn77) := rfl
theorem env78 : env 78 = some (.code fn78) := rfl
theorem env79 : env 79 = some (.code fn79) := rfl
theorem env80 : env 80 = some (.code fn80) := rfl
theorem env81 : env 81 = some (.code fn81) := rfl
end Go.Proofs.Ytldnpgbacakfeaa

namespace Go.Proofs.Ytldnpgbacakfeaa
set_option linter.all false
def vAll := (And.intro (And.intro (And.intro (And.intro (And.intro (And.intro (And.intro @den_skip @den_ops) (And.intro @den_drw (And.intro @den_seq @den_cond))) (And.intro (And.intro @den_block (And.intro @den_exit @den_ret)) (And.intro @next_normal (And.intro @next_exit @next_ret)))) (And.intro (And.intro (And.intro @endBlock_normal (And.intro @endBlock_ret @endBlock_exit)) (And.intro @tail_normal (And.intro @tail_ret @tail_exit))) (And.intro (And.intro @fin_normal (And.intro @fin_ret @bcase_true)) (And.intro @bcase_false (And.intro @z_bind_some @z_map_some))))) (And.intro (And.intro (And.intro (And.intro @z_bind_none @z_map_none) (And.intro @dops_nil (And.intro @dops_cons @dop_grd))) (And.intro (And.intro @dop_pick (And.intro @dop_call @dop_callv)) (And.intro @op1_call (And.intro @op1_callv @op1_pick)))) (And.intro (And.intro (And.intro @dop_mov (And.intro @dop_asg @dop_bin)) (And.intro @dop_eqa (And.intro @dop_eqb @dop_isn))) (And.intro (And.intro @dop_cut (And.intro @dop_asl @dop_ldz)) (And.intro @dop_un (And.intro @dop_conv @dop_load)))))) (And.intro (And.intro (And.intro (And.intro (And.intro @dop_fadr @dop_aadr) (And.intro @dop_iadr (And.intro @dop_fld @dop_idx))) (And.intro (And.intro @dop_sli (And.intro @dop_len @dop_lens)) (And.intro @dop_ext (And.intro @dop_build @dop_mn)))) (And.intro (And.intro (And.intro @dop_mkf (And.intro @dop_alloc @dop_box)) (And.intro @dop_store (And.intro @dop_mksl @dop_make))) (And.intro (And.intro @dop_app (And.intro @dop_cpy @dop_yield)) (And.intro @op1_mov (And.intro @op1_asg @op1_bin))))) (And.intro (And.intro (And.intro (And.intro @op1_eqa (And.intro @op1_eqb @op1_isn)) (And.intro @op1_cut (And.intro @op1_asl @op1_ldz))) (And.intro (And.intro @op1_un (And.intro @op1_conv @op1_load)) (And.intro @op1_fadr (And.intro @op1_aadr @op1_iadr)))) (And.intro (And.intro (And.intro @op1_fld (And.intro @op1_idx @op1_sli)) (And.intro @op1_len (And.intro @op1_lens @op1_ext))) (And.intro (And.intro @op1_build (And.intro @op1_mn @op1_mkf)) (And.intro @op1_alloc (And.intro @op1_box @op1_store))))))) (And.intro (And.intro (And.intro (And.intro (And.intro (And.intro @op1_mksl @op1_make) (And.intro @op1_app (And.intro @op1_cpy @op1_yield))) (And.intro (And.intro @Bool.false_eq_true (And.intro @z_ite_true @z_ite_false)) (And.intro @cells_int (And.intro @cells_bool @cells_str)))) (And.intro (And.intro (And.intro @cells_list (And.intro @cells_func @cells_agg)) (And.intro @part_one (And.intro @part_succ @part_more))) (And.intro (And.intro @killS_pv (And.intro @killS_any @killS_row)) (And.intro @killS_pbox (And.intro @killS_fn @killS_tup))))) (And.intro (And.intro (And.intro (And.intro @killS_yld @killS_refs) (And.intro @killS_refc (And.intro @killS_pels @killS_pelc))) (And.intro (And.intro @killc_pv (And.intro @killc_any @killc_row)) (And.intro @killc_pbox (And.intro @killc_fn @killc_tup)))) (And.intro (And.intro (And.intro @killc_yld (And.intro @killc_refs @killc_refc)) (And.intro @killc_pels (And.intro @killc_pelc @z_bind_eq))) (And.intro (And.intro @z_pure (And.intro @z_map_cons @z_map_nil)) (And.intro @z_len_cons (And.intro @z_len_nil @z_nil_app)))))) (And.intro (And.intro (And.intro (And.intro (And.intro @z_cons_app @Nat.zero_add) (And.intro @Nat.add_zero (And.intro @z_drop_zero @z_drop_succ))) (And.intro (And.intro @z_take_succ (And.intro @z_take_zero @decide_true)) (And.intro @decide_false (And.intro @Bool.not_true @Bool.not_false)))) (And.intro (And.intro (And.intro @Bool.true_eq_false (And.intro @Bool.true_and @Bool.and_true)) (And.intro @Bool.false_and (And.intro @Bool.and_false @Bool.true_or))) (And.intro (And.intro @Bool.false_or (And.intro @Bool.or_false @Bool.or_true)) (And.intro @beq_t (And.intro @beq_f @bcase_not))))) (And.intro (And.intro (And.intro (And.intro @bcase_bne (And.intro @z_getD_zero @z_getD_8)) (And.intro @z_getD_succ (And.intro @z_get_zero @z_get_8))) (And.intro (And.intro @z_get_succ (And.intro @z_set_zero @z_set_8)) (And.intro @z_set_succ (And.intro @afterCall_false @afterCall_true)))) (And.intro (And.intro (And.intro @z_mapM_nil (And.intro @z_any_cons @z_any_nil)) (And.intro @z_all_cons (And.intro @z_all_nil @scal_int))) (And.intro (And.intro @scal_bool (And.intro @scal_str @scal_list)) (And.intro @scal_func (And.intro @z_foldl_cons @z_foldl_nil))))))))
end Go.Proofs.Ytldnpgbacakfeaa

namespace Go.Proofs.Ytldnpgbacakfeaa
open Go.RowKit Go.ChangeShapes Go.WideShapes Go.ChangeAt
set_option linter.all false

theorem resrep_true {T : Tags} {w : World} {b : Bool} {v : Value} (h : ResRep T w [(.bool b, false)] v) : v = .bool b := by
  obtain ⟨arr, h1, h2, h3⟩ := h
  have ha : arr.size = 1 := h1
  have e0 : arr[0]? = some arr[0] := Array.getElem?_eq_getElem (by omega)
  have hv : v = arr[0] := by rw [h2, if_pos ha, Array.getD_eq_getD_getElem?, e0]; rfl
  have hr : PRep (fun b => T b = .ro) w (.bool b) arr[0] := h3 0 (.bool b, false) arr[0] rfl e0
  rw [hv]
  exact hr.bool_inv
theorem calls_true {P : Program} {env : Env} {f : Nat} {args : List PV} {vs : List Value} {w : World} (hE : EnvOk P env) (h : cal env f args = some [(.bool true, false)]) (hl : vs.length = args.length)
    (hr : ∀ (i : Nat) x v, args[i]? = some x → vs[i]? = some v → PRep (fun b => b < w.heap.size) w x v) : Calls P f vs.toArray w (fun e w' => e = .returned (.bool true) ∧ Below w.heap.size w w') := by
  obtain ⟨n, hn⟩ := vmCall_of_cal h
  have hC := (vmCall_ok hE hn).2 (fun b => if b < w.heap.size then .ro else .other) w vs (fun b => by
    by_cases hb : b < w.heap.size
    · exact .inl (if_pos hb)
    · exact .inr (if_neg hb)) (fun b hb => if_neg (by omega)) hl (fun i x v hx hv => (hr i x v hx hv).frame fun b hb _ => ⟨if_pos hb, rfl⟩)
  refine hC.mono ?_
  rintro e w' ⟨v, T', rfl, h1, _, _, h2⟩
  exact ⟨by rw [resrep_true h2], h1⟩

def RepAll (w : World) : List PV → List Value → Prop
  | [], [] => True
  | x :: xs, v :: vs => PRep (fun b => b < w.heap.size) w x v ∧ RepAll w xs vs
  | _, _ => False
theorem RepAll.get {w : World} : ∀ {xs : List PV} {vs : List Value}, RepAll w xs vs → vs.length = xs.length ∧ ∀ (i : Nat) x v, xs[i]? = some x → vs[i]? = some v → PRep (fun b => b < w.heap.size) w x v
  | [], [], _ => ⟨rfl, fun i x v hx => by simp at hx⟩
  | x :: xs, v :: vs, h => by
    obtain ⟨h1, h2⟩ := h
    obtain ⟨k1, k2⟩ := h2.get
    refine ⟨by simp [k1], fun i y u hy hu => ?_⟩
    cases i with
    | zero => cases hy; cases hu; exact h1
    | succ i => exact k2 i y u hy hu
  | [], _ :: _, h => h.elim
  | _ :: _, [], h => h.elim
theorem calls_all {P : Program} {env : Env} {f : Nat} {args : List PV} {vs : List Value} {w : World} (hE : EnvOk P env) (h : cal env f args = some [(.bool true, false)]) (hr : RepAll w args vs) : Calls P f vs.toArray w (fun e w' => e = .returned (.bool true) ∧ Below w.heap.size w w') :=
  calls_true hE h hr.get.1 hr.get.2
def CRep (w : World) (cs : List Value) (ps : List PV) : Prop :=
  cs.length = ps.length ∧ (∀ c ∈ cs, c.oneCell' = true) ∧ ∀ (j : Nat) x v, ps[j]? = some x → cs[j]? = some v → PRep (fun b => b < w.heap.size) w x v
def RdsC (P : Program) (t : TypeId) (n : Nat) (S : List PV → Prop) : Prop :=
  P.cellsOf t = n ∧ ∀ {H : Type} {enc : TypeId × Value → H} {w : World} {fuel : Nat} {cs : List Value} {x : DataW H × List MemPlace}, DataW.trod enc P w 0 (fun _ => true) true fuel t cs = some x → ∃ ps, S ps ∧ ps.length = n ∧ CRep w cs ps
def SInt (k : IntKind) (ps : List PV) : Prop := ∃ n, (Lit.int k n).wf = true ∧ ps = [.int k n]
def SBool (ps : List PV) : Prop := ∃ b, ps = [.bool b]
def SStr (ps : List PV) : Prop := ∃ b, ps = [.str b]
def SArr (n : Nat) (S : List PV → Prop) (ps : List PV) : Prop := ps.length = n ∧ ∀ p ∈ ps, S [p]
def wrS (ps : List PV) : PV := ps.headD .void
def SList (n : Nat) (S : List PV → Prop) (wr : List PV → PV) (ps : List PV) : Prop := ∃ es, ps = [.list n es] ∧ ∀ x ∈ es, ∃ q, S q ∧ x = wr q
def SCat : List (List PV → Prop) → List PV → Prop
  | [], ps => ps = []
  | S :: Ss, ps => ∃ p q, ps = p ++ q ∧ S p ∧ SCat Ss q

section
variable {P : Program} {t e : TypeId} {n m : Nat} {S : List PV → Prop} {k : IntKind}
theorem crep_one {w : World} {c : Value} {p : PV} (hc : c.oneCell' = true) (h : PRep (fun b => b < w.heap.size) w p c) : CRep w [c] [p] :=
  ⟨rfl, fun x hx => by rw [List.mem_singleton.1 hx]; exact hc, fun j x v hx hv => by
    cases j with
    | zero => cases hx; cases hv; exact h
    | succ j => simp at hx⟩
theorem RdsC.int (ht : P.underlying t = some (.int k)) (hc : P.cellsOf t = 1) : RdsC P t 1 (SInt k) := ⟨hc, fun h => by
  obtain ⟨n, rfl, _, hw⟩ := DataW.trod_int ht h
  exact ⟨[.int k n], ⟨n, hw, rfl⟩, rfl, crep_one rfl (.int k n)⟩⟩
theorem RdsC.bool (ht : P.underlying t = some .bool) (hc : P.cellsOf t = 1) : RdsC P t 1 SBool := ⟨hc, fun h => by
  obtain ⟨b, rfl, _⟩ := DataW.trod_bool ht h
  exact ⟨[.bool b], ⟨b, rfl⟩, rfl, crep_one rfl (.bool b)⟩⟩
theorem each_pick {α : Type} {p : Nat → α → Prop} : ∀ n : Nat, (∀ i, i < n → ∃ y, p i y) → ∃ l : List α, l.length = n ∧ ∀ i x, l[i]? = some x → p i x
  | 0, _ => ⟨[], rfl, fun i x h => by simp at h⟩
  | n + 1, h => by
    obtain ⟨l, h1, h2⟩ := each_pick n fun i hi => h i (by omega)
    obtain ⟨y, hy⟩ := h n (by omega)
    refine ⟨l ++ [y], by simp [h1], fun i x hx => ?_⟩
    by_cases hi : i < n
    · rw [List.getElem?_append_left (by omega)] at hx; exact h2 i x hx
    · have := (List.getElem?_eq_some_iff.1 hx).1
      obtain rfl : i = n := by simp at this; omega
      rw [List.getElem?_append_right (by omega), h1, Nat.sub_self] at hx
      cases hx
      exact hy
theorem RdsC.arr (ht : P.underlying t = some (.array n e)) (he : RdsC P e 1 S) (hc : P.cellsOf t = n) : RdsC P t n (SArr n S) := ⟨hc, fun {H enc w fuel cs x} h => by
  obtain ⟨xs, m, _, _, hl, hx, hE⟩ := DataW.trod_array ht h
  rw [hc] at hl
  obtain ⟨l, h1, h2⟩ := each_pick (p := fun i (b : PV) => S [b] ∧ ∃ c, cs[i]? = some c ∧ c.oneCell' = true ∧ PRep (fun b => b < w.heap.size) w b c) n fun i hi => by
    have := hE i hi
    rw [List.getElem?_eq_getElem (by omega), he.1] at this
    obtain ⟨ps, g1, g2, g3, g4, g5⟩ := he.2 this
    match ps, g2 with
    | [p], _ =>
      have hci : cs[i]? = some cs[i] := List.getElem?_eq_getElem (by omega)
      have h0 : ((cs.drop (i * 1)).take 1)[0]? = some cs[i] := by
        rw [List.getElem?_take, if_pos (by decide), List.getElem?_drop]
        simpa using hci
      exact ⟨p, g1, cs[i], hci, g4 _ (List.mem_of_getElem? h0), g5 0 p _ rfl h0⟩
  refine ⟨l, ⟨h1, fun p hp => ?_⟩, h1, by omega, fun c hc => ?_, fun j x v hx hv => ?_⟩
  · obtain ⟨i, hi⟩ := List.mem_iff_getElem?.1 hp
    exact (h2 i p hi).1
  · obtain ⟨i, hi⟩ := List.mem_iff_getElem?.1 hc
    have hil : i < l.length := by
      have := (List.getElem?_eq_some_iff.1 hi).1
      omega
    obtain ⟨_, c', e1, e2, _⟩ := h2 i l[i] (List.getElem?_eq_getElem hil)
    rw [hi] at e1; cases e1; exact e2
  · obtain ⟨_, c', e1, _, e3⟩ := h2 j x hx
    rw [hv] at e1; cases e1; exact e3⟩
theorem cellish_of {w : World} {b off : Nat} {v : Value} (h : w.cell? ⟨b, off, none⟩ = some v) : Cellish w b := by
  unfold World.cell? at h
  split at h
  · rename_i arr E q hb
    exact ⟨arr, E, q, hb⟩
  · cases h
theorem RdsC.list {wr : List PV → PV} (ht : P.underlying t = some (.slice e)) (hc : P.cellsOf t = 1) (hr : RdsC P e n S) (hpos : 0 < n) (hw : ∀ ps, S ps → ps.length = n → (wr ps).cells = ps) : RdsC P t 1 (SList n S wr) := ⟨hc, fun {H enc w fuel cs x} h => by
  rcases DataW.trod_slice ht h with ⟨rfl, _⟩ | ⟨a, len, cap, elems, rest, m, _, rfl, _, _, hl, hm, hel, hE, hR, _⟩
  · exact ⟨[.list n []], ⟨[], rfl, fun x hx => by cases hx⟩, rfl, crep_one rfl (.nil n none)⟩
  · obtain ⟨l, h1, h2⟩ := each_pick (p := fun i (y : List Value × List PV) => w.cells? 0 (a.add (i * n)) n = some y.1 ∧ S y.2 ∧ y.2.length = n ∧ CRep w y.1 y.2) len fun i hi => by
      have := hE i hi
      rw [List.getElem?_eq_getElem (by omega), hr.1, Option.bind_eq_some_iff] at this
      obtain ⟨c, h3, h4⟩ := this
      obtain ⟨ps, g1, g2, g3⟩ := hr.2 h4
      exact ⟨(c, ps), h3, g1, g2, g3⟩
    refine ⟨[.list n (l.map fun y => wr y.2)], ⟨_, rfl, fun x hx => ?_⟩, rfl, crep_one rfl ?_⟩
    · obtain ⟨y, hy, rfl⟩ := List.mem_map.1 hx
      obtain ⟨i, hi⟩ := List.mem_iff_getElem?.1 hy
      exact ⟨y.2, (h2 i y hi).2.1, rfl⟩
    · by_cases hcap : cap = 0
      · have : len = 0 := by omega
        subst hcap; subst this
        have : l = [] := List.eq_nil_of_length_eq_zero h1
        subst this
        exact .nil n (some a)
      · -- there are cells
        have hcell : ∃ off v, w.cell? ⟨a.block, off, none⟩ = some v ∧ a.spot = none := by
          have fromc : ∀ (i : Nat) (c : List Value), w.cells? 0 (a.add (i * n)) n = some c → ∃ off v, w.cell? ⟨a.block, off, none⟩ = some v ∧ a.spot = none := fun i c h3 => by
            obtain ⟨_, hc0, h4⟩ := World.cells?_some h3
            have h5 := h4 0 hpos
            rw [List.getElem?_eq_getElem (by omega)] at h5
            have hs : (a.add (i * n)).spot = none := by simpa [Addr.add] using World.cell?_spot h5
            have hs0 : a.spot = none := by
              unfold Addr.add at hs
              split at hs
              · exact hs
              · rename_i hne
                by_cases h0 : i * n = 0
                · rename_i q; exact absurd h0 (by simpa using hne)
                · rcases Nat.eq_zero_or_pos i with hi0 | hi0
                  · subst hi0; simp at h0
                  · -- the row begins at a: its first cell
                    have : 0 < len ∨ len = 0 := by omega
                    rcases this with hlen | hlen
                    · obtain ⟨y, hy⟩ : ∃ y, l[0]? = some y := ⟨l[0], List.getElem?_eq_getElem (by omega)⟩
                      obtain ⟨_, hc1, h6⟩ := World.cells?_some (h2 0 y hy).1
                      have h7 := h6 0 hpos
                      rw [List.getElem?_eq_getElem (by omega)] at h7
                      simpa [Addr.add] using World.cell?_spot h7
                    · have hrl : 0 < rest.length := by have := (hR rfl).1; omega
                      have := (hR rfl).2 0 (by omega)
                      have h8 : rest[0]? = some rest[0] := List.getElem?_eq_getElem hrl
                      rw [h8, hr.1, hlen, Option.bind_eq_some_iff] at this
                      obtain ⟨c1, h9, _⟩ := this
                      obtain ⟨_, hc1, h6⟩ := World.cells?_some h9
                      have h7 := h6 0 hpos
                      rw [List.getElem?_eq_getElem (by omega)] at h7
                      simpa [Addr.add] using World.cell?_spot h7
            obtain ⟨b, off, spot⟩ := a
            simp only at hs0
            subst hs0
            rw [Addr.add_lit, Addr.add_lit] at h5
            exact ⟨_, _, h5, rfl⟩
          rcases Nat.eq_zero_or_pos len with hlen | hlen
          · have hrl : 0 < rest.length := by have := (hR rfl).1; omega
            have := (hR rfl).2 0 (by omega)
            have h8 : rest[0]? = some rest[0] := List.getElem?_eq_getElem hrl
            rw [h8, hr.1, Option.bind_eq_some_iff] at this
            obtain ⟨c1, h9, _⟩ := this
            exact fromc _ c1 h9
          · obtain ⟨y, hy⟩ : ∃ y, l[0]? = some y := ⟨l[0], List.getElem?_eq_getElem (by omega)⟩
            exact fromc 0 _ (h2 0 y hy).1
        obtain ⟨off0, v0, hv0, hspot⟩ := hcell
        obtain ⟨b, off, spot⟩ := a
        simp only at hspot hv0
        subst hspot
        have hC : Cellish w b := cellish_of hv0
        have hget : ∀ (i : Nat) x, (l.map fun y => wr y.2)[i]? = some x → ∃ y, l[i]? = some y ∧ x = wr y.2 := fun i x hx => by
          rw [List.getElem?_map] at hx
          cases e : l[i]? with
          | none => rw [e] at hx; cases hx
          | some y => rw [e] at hx; exact ⟨y, rfl, (Option.some.inj hx).symm⟩
        have hlen : (l.map fun y => wr y.2).length = len := by simp [h1]
        have := PRep.list (ok := fun b => b < w.heap.size) (w := w) n (l.map fun y => wr y.2) b off cap (fun i j => (((l[i]?).map (·.1)).getD []).getD j default) hC.lt hC (by rw [hlen]; exact hl) hm
          (fun x hx => by
            obtain ⟨i, hi⟩ := List.mem_iff_getElem?.1 hx
            obtain ⟨y, hy, rfl⟩ := hget i x hi
            obtain ⟨_, g1, g2, _⟩ := h2 i y hy
            rw [hw _ g1 g2, g2])
          (fun i x j p hi hj => by
            obtain ⟨y, hy, rfl⟩ := hget i x hi
            obtain ⟨g0, g1, g2, g3, g4, g5⟩ := h2 i y hy
            rw [hw _ g1 g2] at hj
            have hjn : j < n := by have := (List.getElem?_eq_some_iff.1 hj).1; omega
            obtain ⟨_, hc1, h6⟩ := World.cells?_some g0
            have h7 := h6 j hjn
            have hcj : y.1[j]? = some y.1[j] := List.getElem?_eq_getElem (by omega)
            have hd : (((l[i]?).map (·.1)).getD []).getD j default = y.1[j] := by
              rw [hy]; simp [List.getD_eq_getElem?_getD, hcj]
            rw [hd]
            rw [hcj, Addr.add_lit, Addr.add_lit] at h7
            exact ⟨h7, g4 _ (List.mem_of_getElem? hcj)⟩)
          (fun i x j p hi hj => by
            obtain ⟨y, hy, rfl⟩ := hget i x hi
            obtain ⟨g0, g1, g2, g3, g4, g5⟩ := h2 i y hy
            rw [hw _ g1 g2] at hj
            have hjn : j < n := by have := (List.getElem?_eq_some_iff.1 hj).1; omega
            have hcj : y.1[j]? = some y.1[j] := List.getElem?_eq_getElem (by omega)
            have hd : (((l[i]?).map (·.1)).getD []).getD j default = y.1[j] := by
              rw [hy]; simp [List.getD_eq_getElem?_getD, hcj]
            rw [hd]
            exact g5 j p _ hj hcj)
        rw [hlen] at this
        exact this⟩
theorem CRep.append {w : World} {c1 c2 : List Value} {p1 p2 : List PV} (h1 : CRep w c1 p1) (h2 : CRep w c2 p2) : CRep w (c1 ++ c2) (p1 ++ p2) := by
  obtain ⟨a1, a2, a3⟩ := h1
  obtain ⟨b1, b2, b3⟩ := h2
  refine ⟨by simp [a1, b1], fun c hc => ?_, fun j x v hx hv => ?_⟩
  · rcases List.mem_append.1 hc with h | h
    · exact a2 c h
    · exact b2 c h
  · by_cases hj : j < p1.length
    · rw [List.getElem?_append_left hj] at hx
      rw [List.getElem?_append_left (by omega)] at hv
      exact a3 j x v hx hv
    · rw [List.getElem?_append_right (by omega)] at hx
      rw [List.getElem?_append_right (by omega), a1] at hv
      exact b3 _ x v hx hv
inductive Flds (P : Program) : Nat → List Field → List (List PV → Prop) → Nat → Prop
  | nil (o : Nat) : Flds P o [] [] 0
  | cons {o n m : Nat} {f : Field} {fs : List Field} {S : List PV → Prop} {Ss : List (List PV → Prop)} : f.offset = o → RdsC P f.type n S → Flds P (o + n) fs Ss m → Flds P o (f :: fs) (S :: Ss) (n + m)
theorem Flds.read {o : Nat} {fs : List Field} {Ss : List (List PV → Prop)} (h : Flds P o fs Ss m) {H : Type} {enc : TypeId × Value → H} {w : World} {fuel : Nat} {cs : List Value} {xs : List (DataW H × List MemPlace)} (hl : cs.length = o + m)
    (hx : ∀ (i : Nat) (f : Field), fs[i]? = some f → ∃ x, DataW.trod enc P w 0 (fun _ => true) true fuel f.type ((cs.drop f.offset).take (P.cellsOf f.type)) = some x) : ∃ ps, SCat Ss ps ∧ ps.length = m ∧ CRep w (cs.drop o) ps := by
  induction h with
  | nil o => exact ⟨[], rfl, rfl, by rw [List.drop_of_length_le (by omega)]; exact (⟨rfl, fun c hc => (by cases hc), fun j x v hx => (by simp at hx)⟩ : CRep w [] [])⟩
  | @cons o n m f fs S Ss h1 h2 h3 ih =>
    obtain ⟨x, h4⟩ := hx 0 f rfl
    rw [h2.1, h1] at h4
    obtain ⟨p, g1, g2, g3⟩ := h2.2 h4
    obtain ⟨q, k1, k2, k3⟩ := ih (by omega) (fun i f hf => hx (i + 1) f hf)
    refine ⟨p ++ q, ⟨p, q, rfl, g1, k1⟩, by simp [g2, k2], ?_⟩
    have : cs.drop o = (cs.drop o).take n ++ cs.drop (o + n) := by rw [← List.drop_drop, List.take_append_drop]
    rw [this]
    exact g3.append k3
theorem RdsC.struct {fs : Array Field} {Ss : List (List PV → Prop)} (ht : P.underlying t = some (.struct fs)) (hf : Flds P 0 fs.toList Ss n) (hc : P.cellsOf t = n) : RdsC P t n (SCat Ss) := ⟨hc, fun {H enc w fuel cs x} h => by
  obtain ⟨xs, m, _, _, hl, hx, hE⟩ := DataW.trod_struct ht h
  obtain ⟨ps, h1, h2, h3⟩ := hf.read (xs := xs) (enc := enc) (w := w) (fuel := m) (cs := cs) (by omega) (fun i f hi => by
    have hi' : fs[i]? = some f := by simpa using hi
    have := hE i f hi'
    have hil : i < xs.length := by rw [hx]; exact (Array.getElem?_eq_some_iff.1 hi').1
    exact ⟨xs[i], by rw [this, List.getElem?_eq_getElem hil]⟩)
  exact ⟨ps, h1, h2, by simpa using h3⟩⟩

theorem RdsC.struct1 {f0 : Field} {n0 : Nat} {S0 : List PV → Prop} (ht : P.underlying t = some (.struct #[f0])) (h0 : RdsC P f0.type n0 S0) (o0 : f0.offset = 0) (hc : P.cellsOf t = n0 + 0) : RdsC P t (n0 + 0) (SCat [S0]) :=
  RdsC.struct ht (show Flds P 0 [f0] [S0] (n0 + 0) from .cons o0 h0 (.nil _)) hc
theorem RdsC.struct2 {f0 f1 : Field} {n0 n1 : Nat} {S0 S1 : List PV → Prop} (ht : P.underlying t = some (.struct #[f0, f1])) (h0 : RdsC P f0.type n0 S0) (h1 : RdsC P f1.type n1 S1) (o0 : f0.offset = 0) (o1 : f1.offset = 0 + n0) (hc : P.cellsOf t = n0 + (n1 + 0)) : RdsC P t (n0 + (n1 + 0)) (SCat [S0, S1]) :=
  RdsC.struct ht (show Flds P 0 [f0, f1] [S0, S1] (n0 + (n1 + 0)) from .cons o0 h0 (.cons o1 h1 (.nil _))) hc
theorem RdsC.struct3 {f0 f1 f2 : Field} {n0 n1 n2 : Nat} {S0 S1 S2 : List PV → Prop} (ht : P.underlying t = some (.struct #[f0, f1, f2])) (h0 : RdsC P f0.type n0 S0) (h1 : RdsC P f1.type n1 S1) (h2 : RdsC P f2.type n2 S2) (o0 : f0.offset = 0) (o1 : f1.offset = 0 + n0) (o2 : f2.offset = 0 + n0 + n1) (hc : P.cellsOf t = n0 + (n1 + (n2 + 0))) : RdsC P t (n0 + (n1 + (n2 + 0))) (SCat [S0, S1, S2]) :=
  RdsC.struct ht (show Flds P 0 [f0, f1, f2] [S0, S1, S2] (n0 + (n1 + (n2 + 0))) from .cons o0 h0 (.cons o1 h1 (.cons o2 h2 (.nil _)))) hc
theorem RdsC.struct4 {f0 f1 f2 f3 : Field} {n0 n1 n2 n3 : Nat} {S0 S1 S2 S3 : List PV → Prop} (ht : P.underlying t = some (.struct #[f0, f1, f2, f3])) (h0 : RdsC P f0.type n0 S0) (h1 : RdsC P f1.type n1 S1) (h2 : RdsC P f2.type n2 S2) (h3 : RdsC P f3.type n3 S3) (o0 : f0.offset = 0) (o1 : f1.offset = 0 + n0) (o2 : f2.offset = 0 + n0 + n1) (o3 : f3.offset = 0 + n0 + n1 + n2) (hc : P.cellsOf t = n0 + (n1 + (n2 + (n3 + 0)))) : RdsC P t (n0 + (n1 + (n2 + (n3 + 0)))) (SCat [S0, S1, S2, S3]) :=
  RdsC.struct ht (show Flds P 0 [f0, f1, f2, f3] [S0, S1, S2, S3] (n0 + (n1 + (n2 + (n3 + 0)))) from .cons o0 h0 (.cons o1 h1 (.cons o2 h2 (.cons o3 h3 (.nil _))))) hc
theorem RdsC.struct5 {f0 f1 f2 f3 f4 : Field} {n0 n1 n2 n3 n4 : Nat} {S0 S1 S2 S3 S4 : List PV → Prop} (ht : P.underlying t = some (.struct #[f0, f1, f2, f3, f4])) (h0 : RdsC P f0.type n0 S0) (h1 : RdsC P f1.type n1 S1) (h2 : RdsC P f2.type n2 S2) (h3 : RdsC P f3.type n3 S3) (h4 : RdsC P f4.type n4 S4) (o0 : f0.offset = 0) (o1 : f1.offset = 0 + n0) (o2 : f2.offset = 0 + n0 + n1) (o3 : f3.offset = 0 + n0 + n1 + n2) (o4 : f4.offset = 0 + n0 + n1 + n2 + n3) (hc : P.cellsOf t = n0 + (n1 + (n2 + (n3 + (n4 + 0))))) : RdsC P t (n0 + (n1 + (n2 + (n3 + (n4 + 0))))) (SCat [S0, S1, S2, S3, S4]) :=
  RdsC.struct ht (show Flds P 0 [f0, f1, f2, f3, f4] [S0, S1, S2, S3, S4] (n0 + (n1 + (n2 + (n3 + (n4 + 0))))) from .cons o0 h0 (.cons o1 h1 (.cons o2 h2 (.cons o3 h3 (.cons o4 h4 (.nil _)))))) hc
theorem RdsC.struct6 {f0 f1 f2 f3 f4 f5 : Field} {n0 n1 n2 n3 n4 n5 : Nat} {S0 S1 S2 S3 S4 S5 : List PV → Prop} (ht : P.underlying t = some (.struct #[f0, f1, f2, f3, f4, f5])) (h0 : RdsC P f0.type n0 S0) (h1 : RdsC P f1.type n1 S1) (h2 : RdsC P f2.type n2 S2) (h3 : RdsC P f3.type n3 S3) (h4 : RdsC P f4.type n4 S4) (h5 : RdsC P f5.type n5 S5) (o0 : f0.offset = 0) (o1 : f1.offset = 0 + n0) (o2 : f2.offset = 0 + n0 + n1) (o3 : f3.offset = 0 + n0 + n1 + n2) (o4 : f4.offset = 0 + n0 + n1 + n2 + n3) (o5 : f5.offset = 0 + n0 + n1 + n2 + n3 + n4) (hc : P.cellsOf t = n0 + (n1 + (n2 + (n3 + (n4 + (n5 + 0)))))) : RdsC P t (n0 + (n1 + (n2 + (n3 + (n4 + (n5 + 0)))))) (SCat [S0, S1, S2, S3, S4, S5]) :=
  RdsC.struct ht (show Flds P 0 [f0, f1, f2, f3, f4, f5] [S0, S1, S2, S3, S4, S5] (n0 + (n1 + (n2 + (n3 + (n4 + (n5 + 0)))))) from .cons o0 h0 (.cons o1 h1 (.cons o2 h2 (.cons o3 h3 (.cons o4 h4 (.cons o5 h5 (.nil _))))))) hc
theorem RdsC.struct7 {f0 f1 f2 f3 f4 f5 f6 : Field} {n0 n1 n2 n3 n4 n5 n6 : Nat} {S0 S1 S2 S3 S4 S5 S6 : List PV → Prop} (ht : P.underlying t = some (.struct #[f0, f1, f2, f3, f4, f5, f6])) (h0 : RdsC P f0.type n0 S0) (h1 : RdsC P f1.type n1 S1) (h2 : RdsC P f2.type n2 S2) (h3 : RdsC P f3.type n3 S3) (h4 : RdsC P f4.type n4 S4) (h5 : RdsC P f5.type n5 S5) (h6 : RdsC P f6.type n6 S6) (o0 : f0.offset = 0) (o1 : f1.offset = 0 + n0) (o2 : f2.offset = 0 + n0 + n1) (o3 : f3.offset = 0 + n0 + n1 + n2) (o4 : f4.offset = 0 + n0 + n1 + n2 + n3) (o5 : f5.offset = 0 + n0 + n1 + n2 + n3 + n4) (o6 : f6.offset = 0 + n0 + n1 + n2 + n3 + n4 + n5) (hc : P.cellsOf t = n0 + (n1 + (n2 + (n3 + (n4 + (n5 + (n6 + 0))))))) : RdsC P t (n0 + (n1 + (n2 + (n3 + (n4 + (n5 + (n6 + 0))))))) (SCat [S0, S1, S2, S3, S4, S5, S6]) :=
  RdsC.struct ht (show Flds P 0 [f0, f1, f2, f3, f4, f5, f6] [S0, S1, S2, S3, S4, S5, S6] (n0 + (n1 + (n2 + (n3 + (n4 + (n5 + (n6 + 0))))))) from .cons o0 h0 (.cons o1 h1 (.cons o2 h2 (.cons o3 h3 (.cons o4 h4 (.cons o5 h5 (.cons o6 h6 (.nil _)))))))) hc
theorem RdsC.struct8 {f0 f1 f2 f3 f4 f5 f6 f7 : Field} {n0 n1 n2 n3 n4 n5 n6 n7 : Nat} {S0 S1 S2 S3 S4 S5 S6 S7 : List PV → Prop} (ht : P.underlying t = some (.struct #[f0, f1, f2, f3, f4, f5, f6, f7])) (h0 : RdsC P f0.type n0 S0) (h1 : RdsC P f1.type n1 S1) (h2 : RdsC P f2.type n2 S2) (h3 : RdsC P f3.type n3 S3) (h4 : RdsC P f4.type n4 S4) (h5 : RdsC P f5.type n5 S5) (h6 : RdsC P f6.type n6 S6) (h7 : RdsC P f7.type n7 S7) (o0 : f0.offset = 0) (o1 : f1.offset = 0 + n0) (o2 : f2.offset = 0 + n0 + n1) (o3 : f3.offset = 0 + n0 + n1 + n2) (o4 : f4.offset = 0 + n0 + n1 + n2 + n3) (o5 : f5.offset = 0 + n0 + n1 + n2 + n3 + n4) (o6 : f6.offset = 0 + n0 + n1 + n2 + n3 + n4 + n5) (o7 : f7.offset = 0 + n0 + n1 + n2 + n3 + n4 + n5 + n6) (hc : P.cellsOf t = n0 + (n1 + (n2 + (n3 + (n4 + (n5 + (n6 + (n7 + 0)))))))) : RdsC P t (n0 + (n1 + (n2 + (n3 + (n4 + (n5 + (n6 + (n7 + 0)))))))) (SCat [S0, S1, S2, S3, S4, S5, S6, S7]) :=
  RdsC.struct ht (show Flds P 0 [f0, f1, f2, f3, f4, f5, f6, f7] [S0, S1, S2, S3, S4, S5, S6, S7] (n0 + (n1 + (n2 + (n3 + (n4 + (n5 + (n6 + (n7 + 0)))))))) from .cons o0 h0 (.cons o1 h1 (.cons o2 h2 (.cons o3 h3 (.cons o4 h4 (.cons o5 h5 (.cons o6 h6 (.cons o7 h7 (.nil _))))))))) hc
theorem RdsC.struct9 {f0 f1 f2 f3 f4 f5 f6 f7 f8 : Field} {n0 n1 n2 n3 n4 n5 n6 n7 n8 : Nat} {S0 S1 S2 S3 S4 S5 S6 S7 S8 : List PV → Prop} (ht : P.underlying t = some (.struct #[f0, f1, f2, f3, f4, f5, f6, f7, f8])) (h0 : RdsC P f0.type n0 S0) (h1 : RdsC P f1.type n1 S1) (h2 : RdsC P f2.type n2 S2) (h3 : RdsC P f3.type n3 S3) (h4 : RdsC P f4.type n4 S4) (h5 : RdsC P f5.type n5 S5) (h6 : RdsC P f6.type n6 S6) (h7 : RdsC P f7.type n7 S7) (h8 : RdsC P f8.type n8 S8) (o0 : f0.offset = 0) (o1 : f1.offset = 0 + n0) (o2 : f2.offset = 0 + n0 + n1) (o3 : f3.offset = 0 + n0 + n1 + n2) (o4 : f4.offset = 0 + n0 + n1 + n2 + n3) (o5 : f5.offset = 0 + n0 + n1 + n2 + n3 + n4) (o6 : f6.offset = 0 + n0 + n1 + n2 + n3 + n4 + n5) (o7 : f7.offset = 0 + n0 + n1 + n2 + n3 + n4 + n5 + n6) (o8 : f8.offset = 0 + n0 + n1 + n2 + n3 + n4 + n5 + n6 + n7) (hc : P.cellsOf t = n0 + (n1 + (n2 + (n3 + (n4 + (n5 + (n6 + (n7 + (n8 + 0))))))))) : RdsC P t (n0 + (n1 + (n2 + (n3 + (n4 + (n5 + (n6 + (n7 + (n8 + 0))))))))) (SCat [S0, S1, S2, S3, S4, S5, S6, S7, S8]) :=
  RdsC.struct ht (show Flds P 0 [f0, f1, f2, f3, f4, f5, f6, f7, f8] [S0, S1, S2, S3, S4, S5, S6, S7, S8] (n0 + (n1 + (n2 + (n3 + (n4 + (n5 + (n6 + (n7 + (n8 + 0))))))))) from .cons o0 h0 (.cons o1 h1 (.cons o2 h2 (.cons o3 h3 (.cons o4 h4 (.cons o5 h5 (.cons o6 h6 (.cons o7 h7 (.cons o8 h8 (.nil _)))))))))) hc
theorem arg_one {H : Type} {enc : TypeId × Value → H} {w : World} {v : Value} {d : DataW H} {p : List MemPlace} (hr : RdsC P t 1 S) (hone : v.cells.toList = [v]) (h : DataW.Trod enc P w 0 (fun _ => true) true t v d p) :
    ∃ q, S [q] ∧ PRep (fun b => b < w.heap.size) w q v := by
  obtain ⟨fuel, hf⟩ := h
  obtain ⟨ps, h1, h2, h3, h4, h5⟩ := hr.2 hf
  match ps, h2 with
  | [q], _ => exact ⟨q, h1, h5 0 q v rfl (by rw [hone]; rfl)⟩
theorem arg_agg {H : Type} {enc : TypeId × Value → H} {w : World} {arr : Array Value} {d : DataW H} {p : List MemPlace} (hr : RdsC P t n S) (h : DataW.Trod enc P w 0 (fun _ => true) true t (.agg arr) d p) :
    ∃ ps, S ps ∧ PRep (fun b => b < w.heap.size) w (.agg ps) (.agg arr) := by
  obtain ⟨fuel, hf⟩ := h
  obtain ⟨ps, h1, h2, h3, h4, h5⟩ := hr.2 hf
  have hc : (Value.agg arr).cells = arr := rfl
  rw [hc] at h3 h4 h5
  refine ⟨ps, h1, .agg ps arr (by simpa using h3) (fun j v hv => h4 v (List.mem_of_getElem? (i := j) (by simpa using hv))) (fun j x v hx hv => h5 j x v hx (by simpa using hv))⟩
theorem arg_slice {H : Type} {enc : TypeId × Value → H} {w : World} {v : Value} {d : DataW H} {p : List MemPlace} {m : Reach} {base : Nat} (ht : P.underlying t = some (.slice e)) (hr : RdsC P t 1 S) (hv : Value.okWide P w m base t v) (h : DataW.Trod enc P w 0 (fun _ => true) true t v d p) :
    ∃ q, S [q] ∧ PRep (fun b => b < w.heap.size) w q v := by
  obtain ⟨a, l, c, rfl⟩ := okWide_slice ht hv
  exact arg_one hr rfl h
theorem arg_int {H : Type} {enc : TypeId × Value → H} {w : World} {v : Value} {d : DataW H} {p : List MemPlace} {m : Reach} {base : Nat} (ht : P.underlying t = some (.int k)) (hr : RdsC P t 1 S) (hv : Value.okWide P w m base t v) (h : DataW.Trod enc P w 0 (fun _ => true) true t v d p) :
    ∃ q, S [q] ∧ PRep (fun b => b < w.heap.size) w q v := by
  have : v.cells.toList = [v] := by
    simp only [Value.okWide, ht, Cell.okWide] at hv
    cases v <;> simp_all [Cell.ok, Value.cells]
  exact arg_one hr this h
theorem arg_bool {H : Type} {enc : TypeId × Value → H} {w : World} {v : Value} {d : DataW H} {p : List MemPlace} {m : Reach} {base : Nat} (ht : P.underlying t = some .bool) (hr : RdsC P t 1 S) (hv : Value.okWide P w m base t v) (h : DataW.Trod enc P w 0 (fun _ => true) true t v d p) :
    ∃ q, S [q] ∧ PRep (fun b => b < w.heap.size) w q v := by
  have : v.cells.toList = [v] := by
    simp only [Value.okWide, ht, Cell.okWide] at hv
    cases v <;> simp_all [Cell.ok, Value.cells]
  exact arg_one hr this h
theorem arg_struct {H : Type} {enc : TypeId × Value → H} {w : World} {v : Value} {d : DataW H} {p : List MemPlace} {m : Reach} {base : Nat} {fs : Array Field} (ht : P.underlying t = some (.struct fs)) (hr : RdsC P t n S) (hv : Value.okWide P w m base t v) (h : DataW.Trod enc P w 0 (fun _ => true) true t v d p) :
    ∃ ps, S ps ∧ PRep (fun b => b < w.heap.size) w (.agg ps) v := by
  simp only [Value.okWide, ht] at hv
  obtain ⟨cs, rfl, _, _⟩ := hv
  exact arg_agg hr h
theorem arg_arr {H : Type} {enc : TypeId × Value → H} {w : World} {v : Value} {d : DataW H} {p : List MemPlace} {m : Reach} {base : Nat} {c : Nat} (ht : P.underlying t = some (.array c e)) (hr : RdsC P t n S) (hv : Value.okWide P w m base t v) (h : DataW.Trod enc P w 0 (fun _ => true) true t v d p) :
    ∃ ps, S ps ∧ PRep (fun b => b < w.heap.size) w (.agg ps) v := by
  simp only [Value.okWide, ht] at hv
  obtain ⟨cs, rfl, _, _⟩ := hv
  exact arg_agg hr h
end
end Go.Proofs.Ytldnpgbacakfeaa

namespace Go.Proofs.Ytldnpgbacakfeaa
open Go.RowKit V
set_option linter.all false

theorem cellish_at {w : World} {b o : Nat} {u : Value} (h : w.cell? ⟨b, o, none⟩ = some u) : Cellish w b := by
  unfold World.cell? at h
  simp only at h
  split at h
  · rename_i e; exact ⟨_, _, _, e⟩
  · cases h
theorem sl_of_prep {α : Type} {r : Rep α} {enc : α → PV} {ok : Nat → Prop} {w : World} {l : List α} {sz : Nat} {v : Value} (hsz : sz = r.sz) (hc : ∀ x, (enc x).cells.length = r.sz)
    (hr : ∀ x ∈ l, ∀ (cs : List Value), cs.length = r.sz → (∀ (j : Nat) p u, (enc x).cells[j]? = some p → cs[j]? = some u → PRep ok w p u) → r.rd ok w cs x) (h : PRep ok w (.list sz (l.map enc)) v) : ∃ a n c, v = .slice a n c ∧ Sl r ok w a n c l := by
  generalize he : l.map enc = es at h
  cases h with
  | nil _ a =>
    have : l = [] := by simpa using he
    subst this
    exact ⟨a, 0, 0, rfl, ⟨rfl, Nat.le_refl _, Nat.zero_le _, fun _ => rfl, .inl rfl⟩⟩
  | list _ _ b off c cv h1 h2 h3 h4 h6 h7 h8 =>
    subst hsz he
    refine ⟨_, _, c, rfl, ⟨by simp, h3, h4, (fun e => by cases e), .inr ⟨b, off, rfl, h1, h2.lt, fun i x hx => ?_⟩⟩⟩
    have hi : (l.map enc)[i]? = some (enc x) := by simp [hx]
    refine ⟨(List.range r.sz).map (cv i), fun j hj => ?_, hr x (List.mem_of_getElem? hx) _ (by simp) fun j p u hp hu => ?_⟩
    · have hj' : j < (enc x).cells.length := by rw [hc]; exact hj
      rw [(h7 i _ j _ hi (List.getElem?_eq_getElem hj')).1]
      simp [hj]
    · have hj : j < r.sz := by have := (List.getElem?_eq_some_iff.1 hp).1; rw [hc] at this; exact this
      have : u = cv i j := by simp [hj] at hu; exact hu.symm
      rw [this]
      exact h8 i _ j _ hi hp
theorem prep_of_sl {α : Type} {r : Rep α} {enc : α → PV} {ok ok' : Nat → Prop} {w : World} {l : List α} {a : Option Addr} {n c : Nat} (hk : ∀ b, ok b → b < w.heap.size → ok' b) (hp0 : 0 < r.sz) (hc : ∀ x, (enc x).cells.length = r.sz)
    (hr : ∀ x ∈ l, ∀ (cs : List Value), cs.length = r.sz → r.rd ok w cs x → ∀ (j : Nat) p u, (enc x).cells[j]? = some p → cs[j]? = some u → u.oneCell' = true ∧ PRep ok' w p u) (hz : l = [] → c = 0) (h : Sl r ok w a n c l) : PRep ok' w (.list r.sz (l.map enc)) (.slice a n c) := by
  obtain ⟨h1, h2, h3, h4, h5⟩ := h
  by_cases hl : l = []
  · have := hz hl
    subst hl
    have : n = 0 := by simpa using h1.symm
    subst this
    have : c = 0 := by omega
    subst this
    exact .nil _ _
  · rcases h5 with h5 | ⟨b, off, rfl, hb, hlt, h6⟩
    · exact absurd (List.eq_nil_of_length_eq_zero (by omega)) hl
    · have hn : n = (l.map enc).length := by simp [h1]
      rw [hn]
      have key : ∀ (i : Nat) (x : α) (j : Nat) (p : PV), l[i]? = some x → (enc x).cells[j]? = some p → ∃ u, w.cell? ⟨b, off + i * r.sz + j, none⟩ = some u ∧ u.oneCell' = true ∧ PRep ok' w p u := by
        intro i x j p hx hp
        obtain ⟨cs, g1, g2⟩ := h6 i x hx
        have hj : j < r.sz := by have := (List.getElem?_eq_some_iff.1 hp).1; rw [hc] at this; exact this
        have hl2 := r.len g2
        have hu : cs[j]? = some (cs[j]'(by omega)) := List.getElem?_eq_getElem (by omega)
        obtain ⟨k1, k2⟩ := hr x (List.mem_of_getElem? hx) cs hl2 g2 j p _ hp hu
        exact ⟨_, by rw [g1 j hj, hu], k1, k2⟩
      have get : ∀ {i : Nat} {e : PV}, (l.map enc)[i]? = some e → ∃ x, l[i]? = some x ∧ e = enc x := by
        intro i e he
        rw [List.getElem?_map] at he
        cases hx : l[i]? with
        | none => rw [hx] at he; cases he
        | some x => rw [hx] at he; cases he; exact ⟨x, rfl, rfl⟩
      have hce : Cellish w b := by
        cases l with
        | nil => exact absurd rfl hl
        | cons x l =>
          have hj : 0 < (enc x).cells.length := by rw [hc]; exact hp0
          obtain ⟨u, k1, _⟩ := key 0 x 0 _ rfl (List.getElem?_eq_getElem hj)
          exact cellish_at k1
      refine .list _ _ b off c (fun i j => (w.cell? ⟨b, off + i * r.sz + j, none⟩).getD undef) (hk b hb hlt) hce (by simp; omega) h3 (fun e he => ?_) (fun i e j x hi hj => ?_) fun i e j x hi hj => ?_
      · obtain ⟨x, _, rfl⟩ := List.mem_map.1 he; exact hc x
      · obtain ⟨x', hx, rfl⟩ := get hi
        obtain ⟨u, k1, k2, k3⟩ := key i x' j x hx hj
        rw [k1]; exact ⟨rfl, k2⟩
      · obtain ⟨x', hx, rfl⟩ := get hi
        obtain ⟨u, k1, k2, k3⟩ := key i x' j x hx hj
        rw [k1]; exact k3
theorem secs_in {ok : Nat → Prop} {w : World} {l : List Sec} {v : Value} (h : PRep ok w (eSecs l) v) : ∃ a n c, v = .slice a n c ∧ Sl secR ok w a n c l := by
  refine sl_of_prep (r := secR) (enc := eSec) rfl (fun x => secPV_length x) (fun x _ cs hl hcs => ?_) h
  show cs = secCells x
  refine List.ext_getElem? fun j => ?_
  by_cases hj : j < 8
  · have h1 : cs[j]? = some (cs[j]'(by rw [hl]; exact hj)) := List.getElem?_eq_getElem _
    have h2 : (eSec x).cells[j]? = some (.int .u8 ((x.toList[j]'(by simpa using hj)).toNat : Int)) := by
      show (secPV x)[j]? = _
      have hj' : j < x.toList.length := by simpa using hj
      simp only [secPV, List.getElem?_map, List.getElem?_eq_getElem hj', Option.map_some]
    have := (hcs j _ _ h2 h1).int_inv
    have hj' : j < x.toList.length := by simpa using hj
    rw [h1, this]
    simp only [secCells, List.getElem?_map, List.getElem?_eq_getElem hj', Option.map_some]
  · have e1 : cs.length = 8 := hl
    rw [List.getElem?_eq_none (by omega), List.getElem?_eq_none (by rw [secCells_length]; omega)]
theorem img_in {ok : Nat → Prop} {w : World} {l : List (List Sec)} {v : Value} (h : PRep ok w (.list 1 (l.map eSecs)) v) : ∃ a n c, v = .slice a n c ∧ Sl secsR ok w a n c l := by
  refine sl_of_prep (r := secsR) (enc := eSecs) rfl (fun x => rfl) (fun x _ cs hl hcs => ?_) h
  match cs, hl with
  | [u], _ =>
    obtain ⟨a, n, c, rfl, hs⟩ := secs_in (hcs 0 _ u rfl rfl)
    exact ⟨a, n, c, rfl, hs⟩
theorem wrs_in {ok : Nat → Prop} {w : World} {l : List Wrt} {v : Value} (hok : ∀ x ∈ l, i64b x.volume = true ∧ i64b x.start = true) (h : PRep ok w (.list 3 (l.map eWr)) v) : ∃ a n c, v = .slice a n c ∧ Sl wrR ok w a n c (l.map fun x => (x.volume, x.start, x.data)) := by
  have : ∃ a n c, v = .slice a n c ∧ Sl (α := Wrt) ⟨3, fun ok w cs x => wrR.rd ok w cs (x.volume, x.start, x.data), fun h => wrR.len h, fun hk h => wrR.mono hk h, fun h => wrR.live h, fun hf h => wrR.frame hf h, fun h => wrR.one h⟩ ok w a n c l := by
    refine sl_of_prep rfl (fun x => rfl) (fun x hx cs hl hcs => ?_) h
    match cs, hl with
    | [u, u2, u3], _ =>
      have e1 := (hcs 0 _ u rfl rfl).int_inv
      have e2 := (hcs 1 _ u2 rfl rfl).int_inv
      obtain ⟨a, n, c, rfl, hs⟩ := secs_in (l := x.data) (hcs 2 _ u3 rfl rfl)
      obtain ⟨o1, o2⟩ := hok x hx
      simp only [i64b, Bool.and_eq_true, decide_eq_true_eq] at o1 o2
      exact ⟨[u], [u2, .slice a n c], rfl, ⟨by rw [e1], o1⟩, ⟨[u2], [.slice a n c], rfl, ⟨by rw [e2], o2⟩, a, n, c, rfl, hs⟩⟩
  obtain ⟨a, n, c, rfl, h1, h2, h3, h4, h5⟩ := this
  refine ⟨a, n, c, rfl, ⟨by simpa using h1, h2, h3, h4, h5.imp id fun ⟨b, off, g1, g2, g3, g4⟩ => ⟨b, off, g1, g2, g3, fun i x hx => ?_⟩⟩⟩
  rw [List.getElem?_map] at hx
  cases hx' : l[i]? with
  | none => rw [hx'] at hx; cases hx
  | some y => rw [hx'] at hx; cases hx; exact g4 i y hx'
theorem img_out {ok ok' : Nat → Prop} {w : World} {l : List (List Sec)} {a : Option Addr} {n c : Nat} (hk : ∀ b, ok b → b < w.heap.size → ok' b) (hz : l = [] → c = 0) (hne : ∀ x ∈ l, x ≠ []) (h : Sl secsR ok w a n c l) : PRep ok' w (.list 1 (l.map eSecs)) (.slice a n c) := by
  refine prep_of_sl (r := secsR) (enc := eSecs) hk (by decide) (fun x => rfl) (fun x hx cs hl hrd j p u hp hu => ?_) hz h
  obtain ⟨a, n, c, rfl, hs⟩ := hrd
  match j with
  | j + 1 => simp [eSecs, PV.cells] at hp
  | 0 =>
    cases hp
    cases hu
    refine ⟨rfl, prep_of_sl (r := secR) (enc := eSec) hk (by decide) (fun x => secPV_length x) (fun s _ cs hl hrd j p u hp hu => ?_) (fun e => absurd e (hne x hx)) hs⟩
    have hrd : cs = secCells s := hrd
    subst hrd
    simp only [secCells, List.getElem?_map, Option.map_eq_some_iff] at hu
    have hp : (secPV s)[j]? = some p := hp
    simp only [secPV, List.getElem?_map, Option.map_eq_some_iff] at hp
    obtain ⟨b, h1, rfl⟩ := hu
    obtain ⟨b', h2, rfl⟩ := hp
    rw [h1] at h2
    cases h2
    exact ⟨rfl, .int _ _⟩
theorem szsOf_lens (im : List (List Sec)) : szsOf im = lens im := rfl
theorem wrErr_fit (sz : List Int) (x : Wrt) : wrErr sz x = fitW sz (x.volume, x.start, x.data) := by
  simp only [fitW, fitErr, wrErr]
  repeat' split
  all_goals first | rfl | omega
theorem wrErrs_eq (sz : List Int) : ∀ (l : List Wrt) (i : Nat), wrErrs sz l i = applyErr sz (l.map fun x => (x.volume, x.start, x.data)) i
  | [], _ => rfl
  | x :: l, i => by rw [List.map_cons, wrErrs, applyErr, wrErr_fit, wrErrs_eq sz l (i + 1)]
theorem szErr_eq (im : List (List Sec)) : szErr (szsOf im) = imgErr im := rfl
theorem apE_eq (im : List (List Sec)) (l : List Wrt) : apE im l = applyE im (l.map fun x => (x.volume, x.start, x.data)) := by
  unfold apE applyE; rw [wrErrs_eq]; rfl
theorem apI_eq (im : List (List Sec)) (l : List Wrt) : apI im l = applyIdx im (l.map fun x => (x.volume, x.start, x.data)) := by
  unfold apI applyIdx; rw [wrErrs_eq]; rfl
theorem put1_eq (im : List (List Sec)) (x : Wrt) : put1 im x = putW im (x.volume, x.start, x.data) := rfl
theorem puts_eq : ∀ (l : List Wrt) (im : List (List Sec)), l.foldl put1 im = (l.map fun x => (x.volume, x.start, x.data)).foldl putW im
  | [], _ => rfl
  | x :: l, im => by rw [List.map_cons, List.foldl_cons, List.foldl_cons, put1_eq, puts_eq l]
theorem apO_eq (im : List (List Sec)) (l : List Wrt) : apO im l = applyImg im (l.map fun x => (x.volume, x.start, x.data)) := by
  unfold apO applyImg
  rw [apE_eq, puts_eq]
  unfold applyE orNil
  by_cases h : imgErr im = 0
  · simp [h]
  · simp [h]
theorem wrErr_ok {im : List (List Sec)} {x : Wrt} (h : wrErr (szsOf im) x = 0) : szsOf (put1 im x) = szsOf im := by
  rw [wrErr_fit] at h
  exact lens_put h
theorem wrErrs_shift (sz : List Int) : ∀ (l : List Wrt) (i k : Nat), (wrErrs sz l i).2 = (wrErrs sz l k).2
  | [], _, _ => rfl
  | x :: l, i, k => by
    unfold wrErrs
    split
    · rfl
    · exact wrErrs_shift sz l _ _
theorem puts_sizes : ∀ (l : List Wrt) (im : List (List Sec)) (i : Nat), (wrErrs (szsOf im) l i).2 = 0 → szsOf (l.foldl put1 im) = szsOf im
  | [], _, _, _ => rfl
  | x :: l, im, i, h => by
    unfold wrErrs at h
    split at h
    · rename_i h2; exact absurd h h2
    · rename_i h2
      have h2 : wrErr (szsOf im) x = 0 := by omega
      have e := wrErr_ok h2
      rw [List.foldl_cons, puts_sizes l (put1 im x) (i + 1) (by rw [e]; exact h), e]
theorem apO_sizes {im : List (List Sec)} {l : List Wrt} (h : apE im l = 0) : szsOf (apO im l) = szsOf im := by
  unfold apO
  rw [if_pos h]
  unfold apE at h
  split at h
  · rename_i h2; exact absurd h h2
  · exact puts_sizes l im 0 h
theorem szErr_ne {im : List (List Sec)} (h : szErr (szsOf im) = 0) : im ≠ [] ∧ ∀ v ∈ im, v ≠ [] := by
  unfold szErr at h
  split at h
  · cases h
  · rename_i h1
    split at h
    · cases h
    · rename_i h2
      refine ⟨fun e => by subst e; simp [szsOf] at h1, fun v hv e => ?_⟩
      subst e
      refine h2 (List.any_eq_true.2 ⟨0, ?_, by decide⟩)
      exact List.mem_map.2 ⟨[], hv, rfl⟩
theorem apO_ne {im : List (List Sec)} {l : List Wrt} : (apE im l = 0 → apO im l ≠ []) ∧ ∀ v ∈ apO im l, v ≠ [] := by
  by_cases h : apE im l = 0
  · have h0 : szErr (szsOf im) = 0 := by
      unfold apE at h
      split at h
      · rename_i h2; exact absurd h h2
      · omega
    have := szErr_ne (im := apO im l) (by rw [apO_sizes h]; exact h0)
    exact ⟨fun _ => this.1, this.2⟩
  · exact ⟨fun e => absurd e h, fun v hv => by unfold apO at hv; rw [if_neg h] at hv; cases hv⟩
theorem apply_ok {f : Nat} (hc : callable Try.prog f = true) (hA : ∀ {a : Option Addr} {n c : Nat} {im : List (List Sec)} {ok ok2 : Nat → Prop} {w : World}, Sl secsR ok w a n c im → n ≤ 1000000 → (∀ v ∈ im, v.length ≤ 1000000) →
    ∀ {la : Option Addr} {ln lc : Nat} {l : List Wr}, Sl wrR ok2 w la ln lc l → Calls Try.prog f #[.slice a n c, .slice la ln lc] w (RetApply w im l)) :
    ∀ args rs, applyX args = some rs → callable Try.prog f = true ∧ CallOk Try.prog f args rs := fun args rs h => by
  obtain ⟨im, l, rfl, hw, hn, hv, rfl⟩ := applyX_eq h
  refine ⟨hc, fun T0 w vs h1 h2 h3 h4 => ?_⟩
  match vs, h3 with
  | [v0, v1], _ =>
    obtain ⟨a, n, c, rfl, hs⟩ := img_in (h4 0 _ v0 rfl rfl)
    obtain ⟨la, ln, lc, rfl, hl⟩ := wrs_in hw (h4 1 _ v1 rfl rfl)
    refine (hA hs (by rw [← hs.len]; exact hn) hv hl).mono ?_
    rintro e w' ⟨a', n', c', rfl, hr, hz, hB⟩
    rw [← apI_eq, ← apE_eq]
    rw [← apO_eq] at hr
    rw [← apE_eq] at hz
    refine ⟨_, fun b => if w.heap.size ≤ b ∧ b < w'.heap.size then .ro else T0 b, rfl, hB, fun b hb => if_neg (by omega), fun b hb => ?_, #[_, _, _], rfl, rfl, fun i r u hr' hu => ?_⟩
    · show (if _ then _ else T0 b) = _
      rw [if_neg (by omega)]; exact h2 b (by have := hB.size; omega)
    · match i with
      | 0 =>
        cases hr'; cases hu
        refine img_out (ok := (w.heap.size ≤ ·)) (fun b hb hlt => if_pos ⟨hb, hlt⟩) (fun e => ?_) apO_ne.2 hr
        rcases hz with hz | hz
        · exact hr.nil hz
        · exact absurd e (apO_ne.1 hz)
      | 1 => cases hr'; cases hu; exact .int _ _
      | 2 => cases hr'; cases hu; exact .int _ _
      | i + 3 => simp at hr'
theorem applyI_ok : ∀ args rs, applyX args = some rs → callable Try.prog 23 = true ∧ CallOk Try.prog 23 args rs := apply_ok (by kernel_rfl) fun h hn hv _ _ _ _ hl => applyI_any h hn hv hl
end Go.Proofs.Ytldnpgbacakfeaa

namespace Go.Proofs.Ytldnpgbacakfeaa
open Go.RowKit V
set_option linter.all false

def oneEnv (f : Nat) (fn : VFn) : Env := fun k => if k = f then some (.code fn) else none
theorem oneEnv_ok {P : Program} {f : Nat} {fn : VFn} (h : fnOk P f fn = true) : EnvOk P (oneEnv f fn) := fun k d hk => by
  unfold oneEnv at hk
  split at hk
  · rename_i e; subst e; cases hk; exact h
  · cases hk
theorem sl_nil {ok : Nat → Prop} {w : World} {sz : Nat} {v : Value} (h : PRep ok w (.list sz []) v) : ∃ a c, v = .slice a 0 c ∧ Sl secR (fun _ => True) w a 0 c [] := by
  obtain ⟨l, hl⟩ : ∃ l : List PV, l = [] := ⟨_, rfl⟩
  rw [← hl] at h
  cases h with
  | nil _ a => exact ⟨a, 0, rfl, ⟨rfl, Nat.le_refl _, Nat.zero_le _, fun _ => rfl, .inl rfl⟩⟩
  | list _ _ b off c cv h1 h2 h3 h4 h6 h7 h8 => subst hl; exact ⟨_, c, rfl, ⟨rfl, Nat.zero_le _, h4, (fun e => by cases e), .inl rfl⟩⟩
theorem clone58_fn : fnOk Try.prog 58 fn58 = true := by kernel_rfl
theorem clone58_some {en : Env} (hen : en 58 = some (.code fn58)) {e : PV} {es : List PV} (hl : (e :: es).length ≤ lim) : cal en 58 [.list 8 (e :: es)] = some [(.list 8 (e :: es), true)] := by
  have F1 : (es.length + 1 ≤ lim) = True := eq_true (by simpa using hl)
  rw [cal_code hen rfl]
  simp only [fn58]
  simp only [start, z_map_cons, z_map_nil, z_len_cons, z_len_nil, z_repl_zero, z_repl_succ, z_cons_app, z_nil_app, Nat.reduceAdd, Nat.reduceSub]
  simp only [F1, z_nil_app, val_pvs, frozen_pvs, msnoc_len, msnoc_get, msnoc_set, msnoc_take, Int.le_refl, take_map_all, Nat.le_refl, St.freezeRows, BV.frozen, List.take_length, List.take_append_drop, z_repl_zero, Int.toNat_zero, true_and, and_true, and_self, eq_self, z_take_zero, List.drop_nil, List.take_nil, vAll, List.foldl_nil, List.foldl_cons, resultsOf, resultList, resultOf, zBV, splice, PV.remade, St.freezeAt, St.freezeBox, PV.single, plain, act, dstOf, if_true, if_false, reduceCtorEq, St.get, St.put, St.pvOf, St.putRow, St.consume, St.freeze, St.row, St.elems, St.grab, St.takeRow, St.setRow, St.place, St.optPv, St.setCell, St.setCellRow, binPV, intBin, unPV, BV.val, Nat.reduceEqDiff, bound, consumeAll, buildParts, capsOf, capOf, List.append_nil, Nat.reduceAdd, Nat.reduceLT, Nat.reduceLeDiff, beq_self_eq_true, List.length_map, Nat.beq, dcall, dcallP, List.mapM_cons, St.snapFn, St.snap, St.layAll, St.lay, St.freezeArg, St.freezeArg1]
theorem clone58_ok : ∀ args rs, cloneX 8 args = some rs → callable Try.prog 58 = true ∧ CallOk Try.prog 58 args rs := fun args rs h => by
  unfold cloneX at h
  split at h
  case h_2 => cases h
  rename_i sz es
  split at h
  case isFalse => cases h
  rename_i hc
  obtain ⟨rfl, hl⟩ := hc
  cases h
  cases es with
  | cons e es =>
    obtain ⟨n, hn⟩ := vmCall_of_cal (clone58_some (en := oneEnv 58 fn58) (if_pos rfl) hl)
    exact vmCall_ok (oneEnv_ok clone58_fn) hn
  | nil =>
    refine ⟨by kernel_rfl, fun T0 w vs h1 h2 h3 h4 => ?_⟩
    match vs, h3 with
    | [v], _ =>
      have hv := h4 0 _ v rfl rfl
      obtain ⟨a, c, rfl, hsl⟩ := sl_nil hv
      refine (clone_sec (ok := fun _ => True) hsl (by omega)).mono ?_
      rintro e w' ⟨a', n', c', rfl, hrd, hB⟩
      obtain ⟨v, hv, hb, ⟨xs, hown, _⟩, hnil⟩ := hrd
      obtain rfl : Value.slice a' n' c' = v := by simpa using hv
      rcases hown.2 with ⟨e1, _⟩ | ⟨g, cap, cur, e1, _, hg, _, hm, hs, _⟩
      · refine ⟨_, T0, rfl, hB, fun _ _ => rfl, fun b hb => h2 b (by have := hB.size; omega), #[_], rfl, rfl, fun i r u hr hu => ?_⟩
        cases i with
        | zero => cases hr; cases hu; exact .inl ⟨rfl, none, e1⟩
        | succ i => simp at hr
      · have hg0 : w.heap.size ≤ g := hb g (by rw [e1]; rfl)
        have hgl : g < w'.heap.size := (Array.getElem?_eq_some_iff.1 hg).1
        refine ⟨_, fun b => if b = g then .row (.part 0 0) else T0 b, rfl, hB, fun b hb => if_neg (by omega), fun b hb => ?_, #[_], rfl, rfl, fun i r u hr hu => ?_⟩
        · show (if b = g then _ else T0 b) = _
          rw [if_neg (by omega)]; exact h2 b (by have := hB.size; omega)
        · cases i with
          | zero =>
            cases hr; cases hu
            exact .inr ⟨g, cap, cur, _, e1, if_pos rfl, hg, hs, Nat.zero_le _, hm, (fun e he => by cases he), fun i e j x hi => by simp at hi⟩
          | succ i => simp at hr
end Go.Proofs.Ytldnpgbacakfeaa

namespace Go.Proofs.Ytldnpgbacakfeaa.V
set_option linter.all false

theorem secPV_zero : secPV zSec = [.int .u8 0, .int .u8 0, .int .u8 0, .int .u8 0, .int .u8 0, .int .u8 0, .int .u8 0, .int .u8 0] := rfl
theorem part_sec (x : Sec) : part (secPV x) 0 (some 8) = some (.agg (secPV x)) := by
  simp only [part, secPV_length, Nat.zero_add, List.drop_zero]
  rw [if_pos (Nat.le_refl _), List.take_of_length_le (by rw [secPV_length]; exact Nat.le_refl _)]
theorem eqCells_u8 : ∀ a b : List UInt8, a.length = b.length → eqCells (a.map fun b => .int .u8 (b.toNat : Int)) (b.map fun b => .int .u8 (b.toNat : Int)) = some (decide (a = b))
  | [], [], _ => rfl
  | x :: a, y :: b, h => by
    simp only [List.length_cons, Nat.add_right_cancel_iff] at h
    simp only [List.map_cons, eqCells, if_pos, eqCells_u8 a b h, Option.map_some, List.cons.injEq]
    congr 1
    have : ((x.toNat : Int) == (y.toNat : Int)) = decide (x = y) := by
      by_cases e : x = y
      · subst e; simp
      · have : ¬ x.toNat = y.toNat := fun h => e (UInt8.toNat_inj.1 h)
        simp [e]; omega
    rw [this, Bool.decide_and]
  | [], _ :: _, h => by simp at h
  | _ :: _, [], h => by simp at h
theorem eqCells_sec (a b : Sec) : eqCells (secPV a) (secPV b) = some (decide (a = b)) := by
  unfold secPV
  rw [eqCells_u8 _ _ (by simp)]
  congr 1
  apply decide_eq_decide.2
  exact ⟨fun h => Vector.toList_inj.1 h, fun h => by rw [h]⟩
theorem scal_agg (cs : List PV) : (PV.agg cs).scalar = cs.all fun c => match c with
    | .int _ _ | .bool _ | .str _ => true
    | _ => false := (rfl)
theorem scal_sec (x : Sec) : (PV.agg (secPV x)).scalar = true := by
  rw [scal_agg, List.all_eq_true]
  intro c hc
  obtain ⟨b, _, rfl⟩ := List.mem_map.1 hc
  rfl
end Go.Proofs.Ytldnpgbacakfeaa.V
