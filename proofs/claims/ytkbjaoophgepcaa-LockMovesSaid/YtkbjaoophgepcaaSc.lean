/- Sc -/
import Derived.Test.YtkbjaoophgepcaaLc
open Go.V Go.Pu
set_option linter.unusedVariables false
set_option linter.unusedSimpArgs false
set_option maxRecDepth 20000
namespace Go.Proofs
/-- downspout/downspoutlaw32.LockMoves -/
def vc5 : VCode :=
 (.seq
 (.region 0 false [
 ⟨(some 4), .copy (.c (.bool false)), none, 0, []⟩])
 (.seq
 (.region 1 false [
 ⟨(some 15), .call (.c (.fn 11 [])) [], none, 8192, []⟩,
 ⟨(some 5), .copy (.t 15), none, 8200, [0]⟩])
 (.seq
 (.region 2 false [
 ⟨(some 16), .copy (.t 0), none, 16384, []⟩,
 ⟨(some 17), .call (.c (.fn 12 [])) [(.t 16), (.c (.int .i64 14))], none, 16392, [0]⟩,
 ⟨(some 6), .alloc [.nils, .nils], none, 16400, []⟩,
 ⟨none, .store 2 (.t 6) (.t 17), none, 16408, [2, 1, 0]⟩])
 (.seq
 (.region 3 false [
 ⟨(some 18), .bslice 1 [(.str [])] 4 [(0, (.c (.str [97, 47]))), (1, (.c (.str [98, 47]))), (2, (.c (.str [99, 47]))), (3, (.c (.str [97, 47, 98, 47])))], none, 24576, []⟩,
 ⟨(some 19), .copy (.t 1), none, 24584, []⟩,
 ⟨(some 20), .bin .rem (.t 19) (.c (.int .u8 4)), none, 24592, [1]⟩,
 ⟨(some 21), .iaddr 1 (.t 18) (.t 20), none, 24600, [0, 2, 1]⟩,
 ⟨(some 22), .load false 1 (.t 21), none, 24608, [3, 0, 2, 1]⟩,
 ⟨(some 7), .copy (.t 22), none, 24616, [4, 3, 0, 2, 1]⟩])
 (.seq
 (.region 4 false [
 ⟨(some 23), .load true 2 (.t 6), none, 32768, []⟩,
 ⟨(some 24), .copy (.t 7), none, 32776, []⟩,
 ⟨(some 25), .call (.c (.fn 20 [])) [(.t 23), (.t 24), (.c (.str [120, 47]))], none, 32784, [0, 1]⟩,
 ⟨(some 8), .alloc [.nils, .nils], none, 32792, []⟩,
 ⟨none, .store 2 (.t 8) (.t 25), none, 32800, [3, 2, 0, 1]⟩])
 (.seq
 (.region 5 false [
 ⟨(some 26), .load true 2 (.t 8), none, 40960, []⟩,
 ⟨(some 27), .copy (.t 7), none, 40968, []⟩,
 ⟨(some 28), .call (.c (.fn 20 [])) [(.t 26), (.c (.str [120, 47])), (.t 27)], none, 40976, [0, 1]⟩,
 ⟨(some 9), .alloc [.nils, .nils], none, 40984, []⟩,
 ⟨none, .store 2 (.t 9) (.t 28), none, 40992, [3, 2, 0, 1]⟩])
 (.seq
 (.seq
 (.region 6 false [
 ⟨(some 29), .load true 2 (.t 9), none, 49152, []⟩,
 ⟨(some 30), .load true 2 (.t 6), none, 49160, []⟩,
 ⟨(some 31), .call (.c (.fn 19 [])) [(.t 29), (.t 30)], none, 49168, [0, 1]⟩,
 ⟨(some 32), .not (.t 31), none, 49176, [2, 0, 1]⟩,
 ⟨(some 33), .copy (.t 32), none, 49184, [3, 2, 0, 1]⟩,
 ⟨(some 34), .faddr 0 (.t 8), (some (4, 33, false)), 49192, [4, 3, 2, 0, 1]⟩,
 ⟨(some 35), .load false 1 (.t 34), (some (4, 33, false)), 49200, [5, 4, 3, 2, 0, 1]⟩,
 ⟨(some 36), .len (.t 35), (some (4, 33, false)), 49208, [6, 5, 4, 3, 2, 0, 1]⟩,
 ⟨(some 37), .faddr 0 (.t 6), (some (4, 33, false)), 49216, [4, 3, 2, 0, 1]⟩,
 ⟨(some 38), .load false 1 (.t 37), (some (4, 33, false)), 49224, [8, 4, 3, 2, 0, 1]⟩,
 ⟨(some 39), .len (.t 38), (some (4, 33, false)), 49232, [9, 8, 4, 3, 2, 0, 1]⟩,
 ⟨(some 40), .bin .neq (.t 36) (.t 39), (some (4, 33, false)), 49240, [7, 6, 5, 4, 3, 2, 0, 1, 10, 9, 8]⟩,
 ⟨(some 41), .pick (.t 33) (.c (.bool true)) (.t 40), none, 49248, [4, 3, 2, 0, 1, 11, 7, 6, 5, 10, 9, 8]⟩,
 ⟨(some 42), .copy (.t 41), none, 49256, [12, 4, 3, 2, 0, 1, 11, 7, 6, 5, 10, 9, 8]⟩,
 ⟨(some 43), .faddr 1 (.t 8), (some (13, 42, false)), 49264, [13, 12, 4, 3, 2, 0, 1, 11, 7, 6, 5, 10, 9, 8]⟩,
 ⟨(some 44), .load false 1 (.t 43), (some (13, 42, false)), 49272, [14, 13, 12, 4, 3, 2, 0, 1, 11, 7, 6, 5, 10, 9, 8]⟩,
 ⟨(some 45), .len (.t 44), (some (13, 42, false)), 49280, [15, 14, 13, 12, 4, 3, 2, 0, 1, 11, 7, 6, 5, 10, 9, 8]⟩,
 ⟨(some 46), .faddr 1 (.t 6), (some (13, 42, false)), 49288, [13, 12, 4, 3, 2, 0, 1, 11, 7, 6, 5, 10, 9, 8]⟩,
 ⟨(some 47), .load false 1 (.t 46), (some (13, 42, false)), 49296, [17, 13, 12, 4, 3, 2, 0, 1, 11, 7, 6, 5, 10, 9, 8]⟩,
 ⟨(some 48), .len (.t 47), (some (13, 42, false)), 49304, [18, 17, 13, 12, 4, 3, 2, 0, 1, 11, 7, 6, 5, 10, 9, 8]⟩,
 ⟨(some 49), .bin .neq (.t 45) (.t 48), (some (13, 42, false)), 49312, [16, 15, 14, 13, 12, 4, 3, 2, 0, 1, 11, 7, 6, 5, 10, 9, 8, 19, 18, 17]⟩,
 ⟨(some 50), .pick (.t 42) (.c (.bool true)) (.t 49), none, 49320, [13, 12, 4, 3, 2, 0, 1, 11, 7, 6, 5, 10, 9, 8, 20, 16, 15, 14, 19, 18, 17]⟩])
 (.cond (.t 50)
 (.seq
 (.region 7 false [
 ⟨(some 4), .copy (.c (.bool false)), none, 57344, []⟩])
 .ret)
 .skip))
 (.seq
 (.seq
 (.region 8 false [
 ⟨(some 10), .copy (.c (.int .i64 0)), none, 65536, []⟩])
 (.block 0
 (.loop
 (.seq
 (.seq
 (.region 9 false [
 ⟨(some 51), .copy (.t 10), none, 73728, []⟩,
 ⟨(some 52), .faddr 0 (.t 6), none, 73736, []⟩,
 ⟨(some 53), .load false 1 (.t 52), none, 73744, [1]⟩,
 ⟨(some 54), .len (.t 53), none, 73752, [2, 1]⟩,
 ⟨(some 55), .bin .lss (.t 51) (.t 54), none, 73760, [0, 3, 2, 1]⟩])
 (.cond (.t 55)
 .skip
 (.exit 0)))
 (.seq
 (.block 1
 (.seq
 (.region 11 false [
 ⟨(some 59), .faddr 0 (.t 6), none, 90112, []⟩,
 ⟨(some 60), .load false 1 (.t 59), none, 90120, [0]⟩,
 ⟨(some 61), .copy (.t 10), none, 90128, []⟩,
 ⟨(some 62), .iaddr 5 (.t 60) (.t 61), none, 90136, [1, 0, 2]⟩,
 ⟨(some 63), .faddr 1 (.t 62), none, 90144, [3, 1, 0, 2]⟩,
 ⟨(some 64), .load false 1 (.t 63), none, 90152, [4, 3, 1, 0, 2]⟩,
 ⟨(some 65), .copy (.t 7), none, 90160, []⟩,
 ⟨(some 66), .call (.c (.fn 21 [])) [(.t 64), (.t 65), (.c (.str [120, 47]))], none, 90168, [5, 4, 3, 1, 0, 2, 6]⟩,
 ⟨(some 58), .copy (.t 66), none, 90176, [7, 5, 4, 3, 1, 0, 2, 6]⟩,
 ⟨(some 67), .extract (.t 58) 0, none, 90184, [8, 7, 5, 4, 3, 1, 0, 2, 6]⟩,
 ⟨(some 68), .extract (.t 58) 1, none, 90192, [8, 7, 5, 4, 3, 1, 0, 2, 6]⟩,
 ⟨(some 11), .copy (.t 67), none, 90200, [9, 8, 7, 5, 4, 3, 1, 0, 2, 6]⟩,
 ⟨(some 12), .copy (.t 68), none, 90208, [10, 8, 7, 5, 4, 3, 1, 0, 2, 6, 11, 9]⟩])
 (.seq
 (.seq
 (.region 12 false [
 ⟨(some 69), .copy (.t 12), none, 98304, []⟩,
 ⟨(some 70), .not (.t 69), none, 98312, [0]⟩])
 (.cond (.t 70)
 (.region 13 false [
 ⟨(some 71), .faddr 0 (.t 6), none, 106496, []⟩,
 ⟨(some 72), .load false 1 (.t 71), none, 106504, [0]⟩,
 ⟨(some 73), .copy (.t 10), none, 106512, []⟩,
 ⟨(some 74), .iaddr 5 (.t 72) (.t 73), none, 106520, [1, 0, 2]⟩,
 ⟨(some 75), .faddr 1 (.t 74), none, 106528, [3, 1, 0, 2]⟩,
 ⟨(some 76), .load false 1 (.t 75), none, 106536, [4, 3, 1, 0, 2]⟩,
 ⟨(some 11), .copy (.t 76), none, 106544, [5, 4, 3, 1, 0, 2]⟩])
 .skip))
 (.seq
 (.region 14 true [
 ⟨(some 77), .faddr 0 (.t 8), none, 114688, []⟩,
 ⟨(some 78), .load false 1 (.t 77), none, 114696, [0]⟩,
 ⟨(some 79), .copy (.t 10), none, 114704, []⟩,
 ⟨(some 80), .iaddr 5 (.t 78) (.t 79), none, 114712, [1, 0, 2]⟩,
 ⟨(some 81), .faddr 1 (.t 80), none, 114720, [3, 1, 0, 2]⟩,
 ⟨(some 82), .load false 1 (.t 81), none, 114728, [4, 3, 1, 0, 2]⟩,
 ⟨(some 83), .copy (.t 11), none, 114736, []⟩,
 ⟨(some 84), .bin .neq (.t 82) (.t 83), none, 114744, [5, 4, 3, 1, 0, 2, 6]⟩,
 ⟨(some 85), .copy (.t 84), none, 114752, [7, 5, 4, 3, 1, 0, 2, 6]⟩,
 ⟨(some 86), .faddr 0 (.t 8), (some (8, 85, false)), 114760, [8, 7, 5, 4, 3, 1, 0, 2, 6]⟩,
 ⟨(some 87), .load false 1 (.t 86), (some (8, 85, false)), 114768, [9, 8, 7, 5, 4, 3, 1, 0, 2, 6]⟩,
 ⟨(some 88), .copy (.t 10), (some (8, 85, false)), 114776, [8, 7, 5, 4, 3, 1, 0, 2, 6]⟩,
 ⟨(some 89), .iaddr 5 (.t 87) (.t 88), (some (8, 85, false)), 114784, [10, 9, 8, 7, 5, 4, 3, 1, 0, 2, 6, 11]⟩,
 ⟨(some 90), .faddr 0 (.t 89), (some (8, 85, false)), 114792, [12, 10, 9, 8, 7, 5, 4, 3, 1, 0, 2, 6, 11]⟩,
 ⟨(some 91), .load false 1 (.t 90), (some (8, 85, false)), 114800, [13, 12, 10, 9, 8, 7, 5, 4, 3, 1, 0, 2, 6, 11]⟩,
 ⟨(some 92), .faddr 0 (.t 6), (some (8, 85, false)), 114808, [8, 7, 5, 4, 3, 1, 0, 2, 6]⟩,
 ⟨(some 93), .load false 1 (.t 92), (some (8, 85, false)), 114816, [15, 8, 7, 5, 4, 3, 1, 0, 2, 6]⟩,
 ⟨(some 94), .copy (.t 10), (some (8, 85, false)), 114824, [8, 7, 5, 4, 3, 1, 0, 2, 6]⟩,
 ⟨(some 95), .iaddr 5 (.t 93) (.t 94), (some (8, 85, false)), 114832, [16, 15, 8, 7, 5, 4, 3, 1, 0, 2, 6, 17]⟩,
 ⟨(some 96), .faddr 0 (.t 95), (some (8, 85, false)), 114840, [18, 16, 15, 8, 7, 5, 4, 3, 1, 0, 2, 6, 17]⟩,
 ⟨(some 97), .load false 1 (.t 96), (some (8, 85, false)), 114848, [19, 18, 16, 15, 8, 7, 5, 4, 3, 1, 0, 2, 6, 17]⟩,
 ⟨(some 98), .bin .neq (.t 91) (.t 97), (some (8, 85, false)), 114856, [14, 13, 12, 10, 9, 8, 7, 5, 4, 3, 1, 0, 2, 6, 11, 20, 19, 18, 16, 15, 17]⟩,
 ⟨(some 99), .pick (.t 85) (.c (.bool true)) (.t 98), none, 114864, [8, 7, 5, 4, 3, 1, 0, 2, 6, 21, 14, 13, 12, 10, 9, 11, 20, 19, 18, 16, 15, 17]⟩,
 ⟨(some 100), .copy (.t 99), none, 114872, [22, 8, 7, 5, 4, 3, 1, 0, 2, 6, 21, 14, 13, 12, 10, 9, 11, 20, 19, 18, 16, 15, 17]⟩,
 ⟨(some 101), .faddr 0 (.t 8), (some (23, 100, false)), 114880, [23, 22, 8, 7, 5, 4, 3, 1, 0, 2, 6, 21, 14, 13, 12, 10, 9, 11, 20, 19, 18, 16, 15, 17]⟩,
 ⟨(some 102), .load false 1 (.t 101), (some (23, 100, false)), 114888, [24, 23, 22, 8, 7, 5, 4, 3, 1, 0, 2, 6, 21, 14, 13, 12, 10, 9, 11, 20, 19, 18, 16, 15, 17]⟩,
 ⟨(some 103), .copy (.t 10), (some (23, 100, false)), 114896, [23, 22, 8, 7, 5, 4, 3, 1, 0, 2, 6, 21, 14, 13, 12, 10, 9, 11, 20, 19, 18, 16, 15, 17]⟩,
 ⟨(some 104), .iaddr 5 (.t 102) (.t 103), (some (23, 100, false)), 114904, [25, 24, 23, 22, 8, 7, 5, 4, 3, 1, 0, 2, 6, 21, 14, 13, 12, 10, 9, 11, 20, 19, 18, 16, 15, 17, 26]⟩,
 ⟨(some 105), .faddr 2 (.t 104), (some (23, 100, false)), 114912, [27, 25, 24, 23, 22, 8, 7, 5, 4, 3, 1, 0, 2, 6, 21, 14, 13, 12, 10, 9, 11, 20, 19, 18, 16, 15, 17, 26]⟩,
 ⟨(some 106), .load false 1 (.t 105), (some (23, 100, false)), 114920, [28, 27, 25, 24, 23, 22, 8, 7, 5, 4, 3, 1, 0, 2, 6, 21, 14, 13, 12, 10, 9, 11, 20, 19, 18, 16, 15, 17, 26]⟩,
 ⟨(some 107), .faddr 0 (.t 6), (some (23, 100, false)), 114928, [23, 22, 8, 7, 5, 4, 3, 1, 0, 2, 6, 21, 14, 13, 12, 10, 9, 11, 20, 19, 18, 16, 15, 17]⟩,
 ⟨(some 108), .load false 1 (.t 107), (some (23, 100, false)), 114936, [30, 23, 22, 8, 7, 5, 4, 3, 1, 0, 2, 6, 21, 14, 13, 12, 10, 9, 11, 20, 19, 18, 16, 15, 17]⟩,
 ⟨(some 109), .copy (.t 10), (some (23, 100, false)), 114944, [23, 22, 8, 7, 5, 4, 3, 1, 0, 2, 6, 21, 14, 13, 12, 10, 9, 11, 20, 19, 18, 16, 15, 17]⟩,
 ⟨(some 110), .iaddr 5 (.t 108) (.t 109), (some (23, 100, false)), 114952, [31, 30, 23, 22, 8, 7, 5, 4, 3, 1, 0, 2, 6, 21, 14, 13, 12, 10, 9, 11, 20, 19, 18, 16, 15, 17, 32]⟩,
 ⟨(some 111), .faddr 2 (.t 110), (some (23, 100, false)), 114960, [33, 31, 30, 23, 22, 8, 7, 5, 4, 3, 1, 0, 2, 6, 21, 14, 13, 12, 10, 9, 11, 20, 19, 18, 16, 15, 17, 32]⟩,
 ⟨(some 112), .load false 1 (.t 111), (some (23, 100, false)), 114968, [34, 33, 31, 30, 23, 22, 8, 7, 5, 4, 3, 1, 0, 2, 6, 21, 14, 13, 12, 10, 9, 11, 20, 19, 18, 16, 15, 17, 32]⟩,
 ⟨(some 113), .bin .neq (.t 106) (.t 112), (some (23, 100, false)), 114976, [29, 28, 27, 25, 24, 23, 22, 8, 7, 5, 4, 3, 1, 0, 2, 6, 21, 14, 13, 12, 10, 9, 11, 20, 19, 18, 16, 15, 17, 26, 35, 34, 33, 31, 30, 32]⟩,
 ⟨(some 114), .pick (.t 100) (.c (.bool true)) (.t 113), none, 114984, [23, 22, 8, 7, 5, 4, 3, 1, 0, 2, 6, 21, 14, 13, 12, 10, 9, 11, 20, 19, 18, 16, 15, 17, 36, 29, 28, 27, 25, 24, 26, 35, 34, 33, 31, 30, 32]⟩])
 (.cond (.t 114)
 (.seq
 (.region 15 false [
 ⟨(some 4), .copy (.c (.bool false)), none, 122880, []⟩])
 .ret)
 .skip)))))
 (.region 10 false [
 ⟨(some 56), .copy (.t 10), none, 81920, []⟩,
 ⟨(some 57), .bin .add (.t 56) (.c (.int .i64 1)), none, 81928, [0]⟩,
 ⟨(some 10), .copy (.t 57), none, 81936, [1, 0]⟩]))))))
 (.seq
 (.region 16 false [
 ⟨(some 115), .load true 2 (.t 6), none, 131072, []⟩,
 ⟨(some 116), .call (.c (.fn 20 [])) [(.t 115), (.c (.str [99, 47])), (.c (.str [97, 47]))], none, 131080, [0]⟩,
 ⟨(some 13), .alloc [.nils, .nils], none, 131088, []⟩,
 ⟨none, .store 2 (.t 13) (.t 116), none, 131096, [2, 1, 0]⟩])
 (.seq
 (.seq
 (.region 17 false [
 ⟨(some 14), .copy (.c (.int .i64 0)), none, 139264, []⟩])
 (.block 2
 (.loop
 (.seq
 (.seq
 (.region 18 false [
 ⟨(some 117), .copy (.t 14), none, 147456, []⟩,
 ⟨(some 118), .faddr 0 (.t 13), none, 147464, []⟩,
 ⟨(some 119), .load false 1 (.t 118), none, 147472, [1]⟩,
 ⟨(some 120), .len (.t 119), none, 147480, [2, 1]⟩,
 ⟨(some 121), .bin .lss (.t 117) (.t 120), none, 147488, [0, 3, 2, 1]⟩])
 (.cond (.t 121)
 .skip
 (.exit 2)))
 (.seq
 (.block 3
 (.seq
 (.region 20 false [
 ⟨(some 124), .faddr 0 (.t 13), none, 163840, []⟩,
 ⟨(some 125), .load false 1 (.t 124), none, 163848, [0]⟩,
 ⟨(some 126), .copy (.t 14), none, 163856, []⟩,
 ⟨(some 127), .iaddr 5 (.t 125) (.t 126), none, 163864, [1, 0, 2]⟩,
 ⟨(some 128), .faddr 1 (.t 127), none, 163872, [3, 1, 0, 2]⟩,
 ⟨(some 129), .load false 1 (.t 128), none, 163880, [4, 3, 1, 0, 2]⟩,
 ⟨(some 130), .call (.c (.fn 22 [])) [(.t 129), (.c (.str [99, 47]))], none, 163888, [5, 4, 3, 1, 0, 2]⟩,
 ⟨(some 131), .copy (.t 130), none, 163896, [6, 5, 4, 3, 1, 0, 2]⟩,
 ⟨(some 132), .faddr 0 (.t 13), (some (7, 131, false)), 163904, [7, 6, 5, 4, 3, 1, 0, 2]⟩,
 ⟨(some 133), .load false 1 (.t 132), (some (7, 131, false)), 163912, [8, 7, 6, 5, 4, 3, 1, 0, 2]⟩,
 ⟨(some 134), .copy (.t 14), (some (7, 131, false)), 163920, [7, 6, 5, 4, 3, 1, 0, 2]⟩,
 ⟨(some 135), .iaddr 5 (.t 133) (.t 134), (some (7, 131, false)), 163928, [9, 8, 7, 6, 5, 4, 3, 1, 0, 2, 10]⟩,
 ⟨(some 136), .faddr 1 (.t 135), (some (7, 131, false)), 163936, [11, 9, 8, 7, 6, 5, 4, 3, 1, 0, 2, 10]⟩,
 ⟨(some 137), .load false 1 (.t 136), (some (7, 131, false)), 163944, [12, 11, 9, 8, 7, 6, 5, 4, 3, 1, 0, 2, 10]⟩,
 ⟨(some 138), .call (.c (.fn 22 [])) [(.t 137), (.c (.str [97, 47, 98, 47]))], (some (7, 131, false)), 163952, [13, 12, 11, 9, 8, 7, 6, 5, 4, 3, 1, 0, 2, 10]⟩,
 ⟨(some 139), .pick (.t 131) (.c (.bool true)) (.t 138), none, 163960, [7, 6, 5, 4, 3, 1, 0, 2, 14, 13, 12, 11, 9, 8, 10]⟩])
 (.cond (.t 139)
 (.seq
 (.region 21 false [
 ⟨(some 4), .copy (.c (.bool false)), none, 172032, []⟩])
 .ret)
 .skip)))
 (.region 19 false [
 ⟨(some 122), .copy (.t 14), none, 155648, []⟩,
 ⟨(some 123), .bin .add (.t 122) (.c (.int .i64 1)), none, 155656, [0]⟩,
 ⟨(some 14), .copy (.t 123), none, 155664, [1, 0]⟩]))))))
 (.seq
 (.region 22 false [
 ⟨(some 140), .load true 2 (.t 13), none, 180224, []⟩,
 ⟨(some 141), .call (.c (.fn 23 [])) [(.t 140)], none, 180232, [0]⟩,
 ⟨(some 142), .copy (.t 141), none, 180240, [1, 0]⟩,
 ⟨(some 143), .copy (.t 5), (some (2, 142, true)), 180248, [2, 1, 0]⟩,
 ⟨(some 144), .pick (.t 142) (.t 143) (.c (.bool false)), none, 180256, [2, 1, 0, 3]⟩,
 ⟨(some 4), .copy (.t 144), none, 180264, [4, 2, 1, 0, 3]⟩])
 .ret)))))))))))
theorem vf5 : VF Try.prog 5 = some (145, vc5, [.tmp 4]) := by kernel_rfl
set_option maxHeartbeats 8000000 in
theorem moves_law_vc {rs : List RawL} (hl : rs.length ≤ 9223372036854775807) (hr : ∀ r ∈ rs, r.ok) {w : Nat} (hw : w < 256) : VC Try.prog 5 [.sh false (rs.map encR), .int .u8 w] [] (.bool true) [] := by
  have hp := play_vc hl hr 14 (by omega)
  have hS := play_scr (rs.take 14)
  have hn : (playL (rs.take 14)).held.length + (playL (rs.take 14)).waits.length ≤ 14 := Nat.le_trans hS.n (by rw [List.length_take]; omega)
  have hs := hS.s
  generalize playL (rs.take 14) = s at hp hn hs hS
  have hss := sanity_vc
  have hRt := hs.toSoundW.right
  have hb1 : (s.held.map encL).length ≤ 14 := by rw [List.length_map]; omega
  have hb2 : (s.waits.map encL).length ≤ 14 := by rw [List.length_map]; omega
  obtain ⟨p1, p2⟩ := scr_five hS
  have m1 : Int.tmod (w : Int) 4 = ((w % 4 : Nat) : Int) := tm w 4
  have hlt : w % 4 < 4 := Nat.mod_lt _ (by omega)
  have hx : [[PV.str [97, 47]], [.str [98, 47]], [.str [99, 47]], [.str [97, 47, 98, 47]]][((w % 4 : Nat) : Int).toNat]? = some [.str (fourAt w)] := by
    unfold fourAt fourL
    rw [Int.toNat_natCast]
    generalize w % 4 = m at hlt
    match m, hlt with
    | 0, _ => rfl
    | 1, _ => rfl
    | 2, _ => rfl
    | 3, _ => rfl
  have hf := four_mem w
  generalize fourAt w = f at hx hf
  have hfl := four_len hf
  have hm1 := pmoved_vc (l := s) (by omega) f xL p1 p2 (by omega) (by decide)
  rw [show movedG pmt s f xL = movedG rmt s f xL from moved_eq hRt (fun x hx _ => by
    have h1 := five_len (hS.p x hx)
    have h2 := pi_len (f := f) (t := xL) (p := x.path)
    have h3 : xL.length = 2 := rfl
    omega), mv_there hS hf] at hm1
  have hT := there_sound hS hf
  have hm2 := pmoved_vc (l := thereL s f) (by have := hT.len; omega) xL f (fun x hx => by have := there_path (x := x) hS (by rw [List.mem_append]; exact .inl hx); omega) (fun x hx => by have := there_path (x := x) hS (by rw [List.mem_append]; exact .inr hx); omega) (by decide) (by omega)
  rw [show movedG pmt (thereL s f) xL f = movedG rmt (thereL s f) xL f from moved_eq hT.toSoundW.right (fun x hx _ => by
    have h1 := there_path hS hx
    have h2 := pi_len (f := xL) (t := f) (p := x.path)
    omega), mv_back hS hf] at hm2
  have q1 := rsame_vc (a := s) (b := s) (by omega) (by omega) (by omega) (by omega)
  rw [decide_eq_true rfl] at q1
  have hpl : ∀ x ∈ s.held ++ s.waits, beginsL x.path [97, 47] = false → (piL [99, 47] [97, 47] x.path).length ≤ 200 := fun x hx _ => by
    have h1 := five_len (hS.p x hx)
    have h2 := pi_len (f := [99, 47]) (t := [97, 47]) (p := x.path)
    simp only [List.length_cons, List.length_nil] at h2
    omega
  have hm3 := pmoved_vc (l := s) (by omega) [99, 47] [97, 47] p1 p2 (by decide) (by decide)
  rw [show movedG pmt s [99, 47] [97, 47] = movedG rmt s [99, 47] [97, 47] from moved_eq hRt hpl] at hm3
  have hO := moved_sound hs hpl
  have hOl := moved_len s [99, 47] [97, 47]
  have hOh : ∀ x ∈ (movedG rmt s [99, 47] [97, 47]).held, beginsL x.path [99, 47] = false ∧ beginsL x.path [97, 47, 98, 47] = false := fun x => over_held hS
  have hOq : ∀ x ∈ (movedG rmt s [99, 47] [97, 47]).held, x.path.length ≤ 200 := fun x hx => by
    have := hO.rt x (by rw [List.mem_append]; exact .inl hx)
    unfold rightL at this
    simp only [Bool.and_eq_true, decide_eq_true_eq] at this
    exact this.1.1.1.2
  generalize movedG rmt s [99, 47] [97, 47] = O at hm3 hO hOl hOh hOq
  have hso := sound_vc hO
  have t1 : ((thereL s f).held.map encL).length = (s.held.map encL).length := by simp [thereL]
  have t2 : ((thereL s f).waits.map encL).length = (s.waits.map encL).length := by simp [thereL]
  have c1 : (!(((thereL s f).held.map encL).length : Int) == ((s.held.map encL).length : Int)) = false := by rw [t1]; simp
  have c2 : (!(((thereL s f).waits.map encL).length : Int) == ((s.waits.map encL).length : Int)) = false := by rw [t2]; simp
  refine vc_of vf5 ?_ (Nat.le_of_ble_eq_true rfl) (by intro vs h; cases h)
  repeat first | refine o_copy ?_ | refine nl ?_ | refine ct_seq ?_ | refine rg ?_ | refine ct_block ?_ | refine bq ?_ | refine cv0 hss ?_ | refine cf hp ?_ | refine o_rem ?_ | refine cf hm1 ?_ | refine cf hm2 ?_ | refine cv0 q1 ?_ | refine o_loads ?_ | refine o_loadp ?_ | refine o_faddr ?_ | refine o_iaddr ?_ | refine o_iaddrO ?_ | refine o_iaddrR ?_ | refine o_add ?_ | refine o_cat ?_ | refine o_bin ?_ | refine o_lenq ?_ | refine o_len ?_ | refine o_loadsA ?_ | refine o_loadpA ?_ | refine o_alloc ?_ | refine o_bslice ?_ | refine o_store ?_ | refine o_not ?_ | refine o_pickt ?_ | refine o_pickf ?_ | refine o_extract ?_ | refine skF ?_ | refine skU ?_
  refine cndf (ct_skip ?_)
  repeat first | refine o_copy ?_ | refine nl ?_ | refine ct_seq ?_ | refine rg ?_ | refine ct_block ?_ | refine bq ?_ | refine o_loads ?_ | refine o_loadp ?_ | refine o_faddr ?_ | refine o_iaddr ?_ | refine o_iaddrO ?_ | refine o_iaddrR ?_ | refine o_add ?_ | refine o_cat ?_ | refine o_bin ?_ | refine o_lenq ?_ | refine o_len ?_ | refine o_loadsA ?_ | refine o_loadpA ?_ | refine o_alloc ?_ | refine o_bslice ?_ | refine o_store ?_ | refine o_not ?_ | refine o_pickt ?_ | refine o_pickf ?_ | refine o_extract ?_ | refine skF ?_ | refine skU ?_
  refine ct_loopG (fun (i : Nat) => [(5, .bool true), (6, .ptr ⟨1, 16400⟩ 1 0 0), (7, .str f), (8, .ptr ⟨1, 32792⟩ 1 0 0), (10, .int .i64 i)]) (fun i => [(⟨1, 16400⟩, ⟨true, false, 2, [encLs s]⟩), (⟨1, 32792⟩, ⟨true, false, 2, [encLs (thereL s f)]⟩)]) (fun i => s.held.length - i)
    (fun i => i ≤ s.held.length) 0 goesE (Nat.zero_le _) ?_
  intro i hi
  repeat first | refine o_copy ?_ | refine nl ?_ | refine ct_seq ?_ | refine rg ?_ | refine ct_block ?_ | refine bq ?_ | refine o_loads ?_ | refine o_loadp ?_ | refine o_faddr ?_ | refine o_iaddr ?_ | refine o_iaddrO ?_ | refine o_iaddrR ?_ | refine o_add ?_ | refine o_cat ?_ | refine o_bin ?_ | refine o_lenq ?_ | refine o_len ?_ | refine o_loadsA ?_ | refine o_loadpA ?_ | refine o_alloc ?_ | refine o_bslice ?_ | refine o_store ?_ | refine o_not ?_ | refine o_pickt ?_ | refine o_pickf ?_ | refine o_extract ?_ | refine skF ?_ | refine skU ?_
  refine cnd (fun hh => ct_skip ?_) (fun hh => ct_exit ?_)
  · have hlt : i < s.held.length := by have h' := of_decide_eq_true hh; simp only [List.length_map] at h'; omega
    have hlt2 : (i : Int) < ((s.held.map encL).length : Nat) := by rw [List.length_map]; omega
    have hlt3 : (i : Int) < (((thereL s f).held.map encL).length : Nat) := by rw [t1, List.length_map]; omega
    obtain ⟨y, hy⟩ : ∃ y, s.held[i]? = some y := ⟨_, List.getElem?_eq_getElem hlt⟩
    have hye := gm (enc := encL) (n := (i : Int)) hy (by omega)
    have hy2 : (thereL s f).held[i]? = some (rhoL f xL y) := by unfold thereL; simp [hy]
    have hze := gm (enc := encL) (n := (i : Int)) hy2 (by omega)
    have hyp := five_len (hS.p y (by simp [List.mem_of_getElem? hy]))
    have hmv := rmvd_vc y.path f xL (by omega) (by omega) (by decide)
    have c3 : (!piL f xL y.path == piL f xL y.path) = false := by simp
    have c4 : (!y.own == y.own) = false := by simp
    have c5 : (!y.lo == y.lo) = false := by simp
    cases hb : beginsL y.path f with
    | true =>
      have e : movedL y.path f xL = (piL f xL y.path, true) := by unfold movedL piL; rw [if_pos hb, if_pos hb]
      rw [e] at hmv
      repeat first | refine o_copy ?_ | refine nl ?_ | refine ct_seq ?_ | refine rg ?_ | refine ct_block ?_ | refine bq ?_ | refine cv0 hmv ?_ | refine o_loads ?_ | refine o_loadp ?_ | refine o_faddr ?_ | refine o_iaddr ?_ | refine o_iaddrO ?_ | refine o_iaddrR ?_ | refine o_add ?_ | refine o_cat ?_ | refine o_bin ?_ | refine o_lenq ?_ | refine o_len ?_ | refine o_loadsA ?_ | refine o_loadpA ?_ | refine o_alloc ?_ | refine o_bslice ?_ | refine o_store ?_ | refine o_not ?_ | refine o_pickt ?_ | refine o_pickf ?_ | refine o_extract ?_ | refine skF ?_ | refine skU ?_
      refine cndf (ct_skip ?_)
      repeat first | refine o_copy ?_ | refine nl ?_ | refine ct_seq ?_ | refine rg ?_ | refine ct_block ?_ | refine bq ?_ | refine o_loads ?_ | refine o_loadp ?_ | refine o_faddr ?_ | refine o_iaddr ?_ | refine o_iaddrO ?_ | refine o_iaddrR ?_ | refine o_add ?_ | refine o_cat ?_ | refine o_bin ?_ | refine o_lenq ?_ | refine o_len ?_ | refine o_loadsA ?_ | refine o_loadpA ?_ | refine o_alloc ?_ | refine o_bslice ?_ | refine o_store ?_ | refine o_not ?_ | refine o_pickt ?_ | refine o_pickf ?_ | refine o_extract ?_ | refine skF ?_ | refine skU ?_
      refine cndf (ct_skip ?_)
      repeat first | refine o_copy ?_ | refine nl ?_ | refine ct_seq ?_ | refine rg ?_ | refine ct_block ?_ | refine bq ?_ | refine o_loads ?_ | refine o_loadp ?_ | refine o_faddr ?_ | refine o_iaddr ?_ | refine o_iaddrO ?_ | refine o_iaddrR ?_ | refine o_add ?_ | refine o_cat ?_ | refine o_bin ?_ | refine o_lenq ?_ | refine o_len ?_ | refine o_loadsA ?_ | refine o_loadpA ?_ | refine o_alloc ?_ | refine o_bslice ?_ | refine o_store ?_ | refine o_not ?_ | refine o_pickt ?_ | refine o_pickf ?_ | refine o_extract ?_ | refine skF ?_ | refine skU ?_
      exact agn (Q := fun _ _ => True) (i + 1) (by omega) goesE
    | false =>
      have e : movedL y.path f xL = ([], false) := by unfold movedL; rw [if_neg (by rw [hb]; simp)]
      have e2 : piL f xL y.path = y.path := by unfold piL; rw [if_neg (by rw [hb]; simp)]
      rw [e] at hmv
      have c6 : (!piL f xL y.path == y.path) = false := by rw [e2]; simp
      repeat first | refine o_copy ?_ | refine nl ?_ | refine ct_seq ?_ | refine rg ?_ | refine ct_block ?_ | refine bq ?_ | refine cv0 hmv ?_ | refine o_loads ?_ | refine o_loadp ?_ | refine o_faddr ?_ | refine o_iaddr ?_ | refine o_iaddrO ?_ | refine o_iaddrR ?_ | refine o_add ?_ | refine o_cat ?_ | refine o_bin ?_ | refine o_lenq ?_ | refine o_len ?_ | refine o_loadsA ?_ | refine o_loadpA ?_ | refine o_alloc ?_ | refine o_bslice ?_ | refine o_store ?_ | refine o_not ?_ | refine o_pickt ?_ | refine o_pickf ?_ | refine o_extract ?_ | refine skF ?_ | refine skU ?_
      refine cndt ?_
      repeat first | refine o_copy ?_ | refine nl ?_ | refine ct_seq ?_ | refine rg ?_ | refine ct_block ?_ | refine bq ?_ | refine o_loads ?_ | refine o_loadp ?_ | refine o_faddr ?_ | refine o_iaddr ?_ | refine o_iaddrO ?_ | refine o_iaddrR ?_ | refine o_add ?_ | refine o_cat ?_ | refine o_bin ?_ | refine o_lenq ?_ | refine o_len ?_ | refine o_loadsA ?_ | refine o_loadpA ?_ | refine o_alloc ?_ | refine o_bslice ?_ | refine o_store ?_ | refine o_not ?_ | refine o_pickt ?_ | refine o_pickf ?_ | refine o_extract ?_ | refine skF ?_ | refine skU ?_
      refine cndf (ct_skip ?_)
      repeat first | refine o_copy ?_ | refine nl ?_ | refine ct_seq ?_ | refine rg ?_ | refine ct_block ?_ | refine bq ?_ | refine o_loads ?_ | refine o_loadp ?_ | refine o_faddr ?_ | refine o_iaddr ?_ | refine o_iaddrO ?_ | refine o_iaddrR ?_ | refine o_add ?_ | refine o_cat ?_ | refine o_bin ?_ | refine o_lenq ?_ | refine o_len ?_ | refine o_loadsA ?_ | refine o_loadpA ?_ | refine o_alloc ?_ | refine o_bslice ?_ | refine o_store ?_ | refine o_not ?_ | refine o_pickt ?_ | refine o_pickf ?_ | refine o_extract ?_ | refine skF ?_ | refine skU ?_
      exact agn (Q := fun _ _ => True) (i + 1) (by omega) goesE
  repeat first | refine o_copy ?_ | refine nl ?_ | refine ct_seq ?_ | refine rg ?_ | refine ct_block ?_ | refine bq ?_ | refine cf hm3 ?_ | refine o_loads ?_ | refine o_loadp ?_ | refine o_faddr ?_ | refine o_iaddr ?_ | refine o_iaddrO ?_ | refine o_iaddrR ?_ | refine o_add ?_ | refine o_cat ?_ | refine o_bin ?_ | refine o_lenq ?_ | refine o_len ?_ | refine o_loadsA ?_ | refine o_loadpA ?_ | refine o_alloc ?_ | refine o_bslice ?_ | refine o_store ?_ | refine o_not ?_ | refine o_pickt ?_ | refine o_pickf ?_ | refine o_extract ?_ | refine skF ?_ | refine skU ?_
  refine ct_loopG (fun (i : Nat) => [(5, .bool true), (13, .ptr ⟨1, 131088⟩ 1 0 0), (14, .int .i64 i)]) (fun i => [(⟨1, 131088⟩, ⟨true, false, 2, [encLs O]⟩)]) (fun i => O.held.length - i)
    (fun i => i ≤ O.held.length) 0 goesE (Nat.zero_le _) ?_
  intro i hi
  have hbo : (O.held.map encL).length ≤ 14 := by rw [List.length_map]; omega
  repeat first | refine o_copy ?_ | refine nl ?_ | refine ct_seq ?_ | refine rg ?_ | refine ct_block ?_ | refine bq ?_ | refine o_loads ?_ | refine o_loadp ?_ | refine o_faddr ?_ | refine o_iaddr ?_ | refine o_iaddrO ?_ | refine o_iaddrR ?_ | refine o_add ?_ | refine o_cat ?_ | refine o_bin ?_ | refine o_lenq ?_ | refine o_len ?_ | refine o_loadsA ?_ | refine o_loadpA ?_ | refine o_alloc ?_ | refine o_bslice ?_ | refine o_store ?_ | refine o_not ?_ | refine o_pickt ?_ | refine o_pickf ?_ | refine o_extract ?_ | refine skF ?_ | refine skU ?_
  refine cnd (fun hh => ct_skip ?_) (fun hh => ct_exit ?_)
  · have hlt : i < O.held.length := by have h' := of_decide_eq_true hh; simp only [List.length_map] at h'; omega
    have hlt2 : (i : Int) < ((O.held.map encL).length : Nat) := by rw [List.length_map]; omega
    obtain ⟨y, hy⟩ : ∃ y, O.held[i]? = some y := ⟨_, List.getElem?_eq_getElem hlt⟩
    have hye := gm (enc := encL) (n := (i : Int)) hy (by omega)
    have hyp := hOq y (List.mem_of_getElem? hy)
    obtain ⟨b1, b2⟩ := hOh y (List.mem_of_getElem? hy)
    have v1 := begins_vc y.path [99, 47] (by omega) (by decide)
    have v2 := begins_vc y.path [97, 47, 98, 47] (by omega) (by decide)
    rw [b1] at v1
    rw [b2] at v2
    repeat first | refine o_copy ?_ | refine nl ?_ | refine ct_seq ?_ | refine rg ?_ | refine ct_block ?_ | refine bq ?_ | refine cv0 v1 ?_ | refine cv0 v2 ?_ | refine o_loads ?_ | refine o_loadp ?_ | refine o_faddr ?_ | refine o_iaddr ?_ | refine o_iaddrO ?_ | refine o_iaddrR ?_ | refine o_add ?_ | refine o_cat ?_ | refine o_bin ?_ | refine o_lenq ?_ | refine o_len ?_ | refine o_loadsA ?_ | refine o_loadpA ?_ | refine o_alloc ?_ | refine o_bslice ?_ | refine o_store ?_ | refine o_not ?_ | refine o_pickt ?_ | refine o_pickf ?_ | refine o_extract ?_ | refine skF ?_ | refine skU ?_
    refine cndf (ct_skip ?_)
    repeat first | refine o_copy ?_ | refine nl ?_ | refine ct_seq ?_ | refine rg ?_ | refine ct_block ?_ | refine bq ?_ | refine o_loads ?_ | refine o_loadp ?_ | refine o_faddr ?_ | refine o_iaddr ?_ | refine o_iaddrO ?_ | refine o_iaddrR ?_ | refine o_add ?_ | refine o_cat ?_ | refine o_bin ?_ | refine o_lenq ?_ | refine o_len ?_ | refine o_loadsA ?_ | refine o_loadpA ?_ | refine o_alloc ?_ | refine o_bslice ?_ | refine o_store ?_ | refine o_not ?_ | refine o_pickt ?_ | refine o_pickf ?_ | refine o_extract ?_ | refine skF ?_ | refine skU ?_
    exact agn (Q := fun _ _ => True) (i + 1) (by omega) goesE
  repeat first | refine o_copy ?_ | refine nl ?_ | refine ct_seq ?_ | refine rg ?_ | refine ct_block ?_ | refine bq ?_ | refine cv0 hso ?_ | refine o_loads ?_ | refine o_loadp ?_ | refine o_faddr ?_ | refine o_iaddr ?_ | refine o_iaddrO ?_ | refine o_iaddrR ?_ | refine o_add ?_ | refine o_cat ?_ | refine o_bin ?_ | refine o_lenq ?_ | refine o_len ?_ | refine o_loadsA ?_ | refine o_loadpA ?_ | refine o_alloc ?_ | refine o_bslice ?_ | refine o_store ?_ | refine o_not ?_ | refine o_pickt ?_ | refine o_pickf ?_ | refine o_extract ?_ | refine skF ?_ | refine skU ?_
  exact ct_ret ⟨.inr rfl, oB rfl⟩
theorem lockMoves_in (l : List (List PV)) (il : InTy (.sl [.int .u8, .int .u8, .int .u8, .int .u8, .int .u8]) (.sh false l)) (b : Int) (hb : (Lit.int .u8 b).wf = true) : VC Try.prog 5 [.sh false l, .int .u8 b] [] (.bool true) [] := by
  obtain ⟨rs, rfl, h1, h2⟩ := decRs il
  obtain ⟨n, rfl, hn⟩ := wfU8 hb
  exact moves_law_vc h2 h1 hn
end Go.Proofs
