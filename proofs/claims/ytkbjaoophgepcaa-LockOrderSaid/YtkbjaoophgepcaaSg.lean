/- Sg -/
import Derived.Test.YtkbjaoophgepcaaLc
open Go.V Go.Pu
set_option linter.unusedVariables false
set_option linter.unusedSimpArgs false
set_option maxRecDepth 20000
namespace Go.Proofs
/-- downspout/downspoutlaw32.LockOrder -/
def vc9 : VCode :=
 (.seq
 (.region 0 false [
 ⟨(some 6), .copy (.c (.bool false)), none, 0, []⟩])
 (.seq
 (.region 1 false [
 ⟨(some 16), .call (.c (.fn 11 [])) [], none, 8192, []⟩,
 ⟨(some 7), .copy (.t 16), none, 8200, [0]⟩])
 (.seq
 (.region 2 false [
 ⟨(some 17), .copy (.t 0), none, 16384, []⟩,
 ⟨(some 18), .call (.c (.fn 12 [])) [(.t 17), (.c (.int .i64 14))], none, 16392, [0]⟩,
 ⟨(some 8), .alloc [.nils, .nils], none, 16400, []⟩,
 ⟨none, .store 2 (.t 8) (.t 18), none, 16408, [2, 1, 0]⟩])
 (.seq
 (.region 3 false [
 ⟨(some 19), .load true 2 (.t 8), none, 24576, []⟩,
 ⟨(some 20), .copy (.t 2), none, 24584, []⟩,
 ⟨(some 21), .bin .rem (.t 20) (.c (.int .u8 5)), none, 24592, [1]⟩,
 ⟨(some 22), .conv .i64 (.t 21), none, 24600, [2, 1]⟩,
 ⟨(some 23), .call (.c (.fn 28 [])) [(.t 19), (.t 22)], none, 24608, [0, 3, 2, 1]⟩,
 ⟨(some 24), .bslice 4 [.nils, .nils, .nils, (.int .i64 0)] 1 [(0, (.t 23))], none, 24616, [4, 0, 3, 2, 1]⟩,
 ⟨(some 9), .copy (.t 24), none, 24624, [5, 4, 0, 3, 2, 1]⟩])
 (.seq
 (.seq
 (.region 4 false [
 ⟨(some 25), .faddr 0 (.t 8), none, 32768, []⟩,
 ⟨(some 26), .load false 1 (.t 25), none, 32776, [0]⟩,
 ⟨(some 27), .len (.t 26), none, 32784, [1, 0]⟩,
 ⟨(some 28), .bin .gtr (.t 27) (.c (.int .i64 0)), none, 32792, [2, 1, 0]⟩])
 (.cond (.t 28)
 (.region 5 true [
 ⟨(some 29), .copy (.t 9), none, 40960, []⟩,
 ⟨(some 30), .load true 2 (.t 8), none, 40968, []⟩,
 ⟨(some 31), .faddr 0 (.t 8), none, 40976, []⟩,
 ⟨(some 32), .load false 1 (.t 31), none, 40984, [2]⟩,
 ⟨(some 33), .copy (.t 1), none, 40992, []⟩,
 ⟨(some 34), .conv .i64 (.t 33), none, 41000, [4]⟩,
 ⟨(some 35), .faddr 0 (.t 8), none, 41008, []⟩,
 ⟨(some 36), .load false 1 (.t 35), none, 41016, [6]⟩,
 ⟨(some 37), .len (.t 36), none, 41024, [7, 6]⟩,
 ⟨(some 38), .bin .rem (.t 34) (.t 37), none, 41032, [5, 4, 8, 7, 6]⟩,
 ⟨(some 39), .iaddr 5 (.t 32) (.t 38), none, 41040, [3, 2, 9, 5, 4, 8, 7, 6]⟩,
 ⟨(some 40), .load true 5 (.t 39), none, 41048, [10, 3, 2, 9, 5, 4, 8, 7, 6]⟩,
 ⟨(some 41), .call (.c (.fn 13 [])) [(.t 30), (.t 40)], none, 41056, [1, 11, 10, 3, 2, 9, 5, 4, 8, 7, 6]⟩,
 ⟨(some 42), .bslice 4 [.nils, .nils, .nils, (.int .i64 0)] 1 [(0, (.t 41))], none, 41064, [12, 1, 11, 10, 3, 2, 9, 5, 4, 8, 7, 6]⟩,
 ⟨(some 43), .append 4 80 [.nils, .nils, .nils, (.int .i64 0)] (.t 29) (.t 42), none, 41072, [0, 13, 12, 1, 11, 10, 3, 2, 9, 5, 4, 8, 7, 6]⟩,
 ⟨(some 9), .copy (.t 43), none, 41080, [14, 0, 13, 12, 1, 11, 10, 3, 2, 9, 5, 4, 8, 7, 6]⟩])
 .skip))
 (.seq
 (.seq
 (.region 6 false [
 ⟨(some 10), .copy (.c (.int .i64 0)), none, 49152, []⟩])
 (.block 0
 (.loop
 (.seq
 (.seq
 (.region 7 false [
 ⟨(some 44), .copy (.t 10), none, 57344, []⟩,
 ⟨(some 45), .copy (.t 9), none, 57352, []⟩,
 ⟨(some 46), .len (.t 45), none, 57360, [1]⟩,
 ⟨(some 47), .bin .lss (.t 44) (.t 46), none, 57368, [0, 2, 1]⟩])
 (.cond (.t 47)
 .skip
 (.exit 0)))
 (.seq
 (.block 1
 (.seq
 (.region 9 false [
 ⟨(some 50), .copy (.t 9), none, 73728, []⟩,
 ⟨(some 51), .copy (.t 10), none, 73736, []⟩,
 ⟨(some 52), .iaddr 4 (.t 50) (.t 51), none, 73744, [0, 1]⟩,
 ⟨(some 53), .load true 4 (.t 52), none, 73752, [2, 0, 1]⟩,
 ⟨(some 11), .alloc [.nils, .nils, .nils, (.int .i64 0)], none, 73760, []⟩,
 ⟨none, .store 4 (.t 11) (.t 53), none, 73768, [4, 3, 2, 0, 1]⟩,
 ⟨(some 12), .copy (.c (.int .i64 0)), none, 73776, [5, 4, 3, 2, 0, 1]⟩])
 (.seq
 (.seq
 (.region 10 false [
 ⟨(some 13), .copy (.c (.int .i64 0)), none, 81920, []⟩])
 (.block 2
 (.loop
 (.seq
 (.seq
 (.region 11 false [
 ⟨(some 54), .copy (.t 13), none, 90112, []⟩,
 ⟨(some 55), .faddr 1 (.t 8), none, 90120, []⟩,
 ⟨(some 56), .load false 1 (.t 55), none, 90128, [1]⟩,
 ⟨(some 57), .len (.t 56), none, 90136, [2, 1]⟩,
 ⟨(some 58), .bin .lss (.t 54) (.t 57), none, 90144, [0, 3, 2, 1]⟩,
 ⟨(some 59), .copy (.t 58), none, 90152, [4, 0, 3, 2, 1]⟩,
 ⟨(some 60), .copy (.t 12), (some (5, 59, true)), 90160, [5, 4, 0, 3, 2, 1]⟩,
 ⟨(some 61), .faddr 2 (.t 11), (some (5, 59, true)), 90168, [5, 4, 0, 3, 2, 1]⟩,
 ⟨(some 62), .load false 1 (.t 61), (some (5, 59, true)), 90176, [7, 5, 4, 0, 3, 2, 1]⟩,
 ⟨(some 63), .len (.t 62), (some (5, 59, true)), 90184, [8, 7, 5, 4, 0, 3, 2, 1]⟩,
 ⟨(some 64), .bin .lss (.t 60) (.t 63), (some (5, 59, true)), 90192, [6, 5, 4, 0, 3, 2, 1, 9, 8, 7]⟩,
 ⟨(some 65), .pick (.t 59) (.t 64) (.c (.bool false)), none, 90200, [5, 4, 0, 3, 2, 1, 10, 6, 9, 8, 7]⟩])
 (.cond (.t 65)
 .skip
 (.exit 2)))
 (.seq
 (.block 3
 (.seq
 (.region 13 true [
 ⟨(some 68), .faddr 1 (.t 8), none, 106496, []⟩,
 ⟨(some 69), .load false 1 (.t 68), none, 106504, [0]⟩,
 ⟨(some 70), .copy (.t 13), none, 106512, []⟩,
 ⟨(some 71), .iaddr 5 (.t 69) (.t 70), none, 106520, [1, 0, 2]⟩,
 ⟨(some 72), .load true 5 (.t 71), none, 106528, [3, 1, 0, 2]⟩,
 ⟨(some 73), .faddr 2 (.t 11), none, 106536, []⟩,
 ⟨(some 74), .load false 1 (.t 73), none, 106544, [5]⟩,
 ⟨(some 75), .copy (.t 12), none, 106552, []⟩,
 ⟨(some 76), .iaddr 5 (.t 74) (.t 75), none, 106560, [6, 5, 7]⟩,
 ⟨(some 77), .load true 5 (.t 76), none, 106568, [8, 6, 5, 7]⟩,
 ⟨(some 78), .eqc false [1, 2, 1, 1, 0] (.t 72) (.t 77), none, 106576, [4, 3, 1, 0, 2, 9, 8, 6, 5, 7]⟩])
 (.cond (.t 78)
 (.region 14 false [
 ⟨(some 79), .copy (.t 12), none, 114688, []⟩,
 ⟨(some 80), .bin .add (.t 79) (.c (.int .i64 1)), none, 114696, [0]⟩,
 ⟨(some 12), .copy (.t 80), none, 114704, [1, 0]⟩])
 .skip)))
 (.region 12 false [
 ⟨(some 66), .copy (.t 13), none, 98304, []⟩,
 ⟨(some 67), .bin .add (.t 66) (.c (.int .i64 1)), none, 98312, [0]⟩,
 ⟨(some 13), .copy (.t 67), none, 98320, [1, 0]⟩]))))))
 (.seq
 (.seq
 (.region 15 false [
 ⟨(some 81), .copy (.t 12), none, 122880, []⟩,
 ⟨(some 82), .faddr 2 (.t 11), none, 122888, []⟩,
 ⟨(some 83), .load false 1 (.t 82), none, 122896, [1]⟩,
 ⟨(some 84), .len (.t 83), none, 122904, [2, 1]⟩,
 ⟨(some 85), .bin .neq (.t 81) (.t 84), none, 122912, [0, 3, 2, 1]⟩,
 ⟨(some 86), .copy (.t 85), none, 122920, [4, 0, 3, 2, 1]⟩,
 ⟨(some 87), .faddr 0 (.t 11), (some (5, 86, false)), 122928, [5, 4, 0, 3, 2, 1]⟩,
 ⟨(some 88), .faddr 0 (.t 87), (some (5, 86, false)), 122936, [6, 5, 4, 0, 3, 2, 1]⟩,
 ⟨(some 89), .load false 1 (.t 88), (some (5, 86, false)), 122944, [7, 6, 5, 4, 0, 3, 2, 1]⟩,
 ⟨(some 90), .len (.t 89), (some (5, 86, false)), 122952, [8, 7, 6, 5, 4, 0, 3, 2, 1]⟩,
 ⟨(some 91), .faddr 2 (.t 11), (some (5, 86, false)), 122960, [5, 4, 0, 3, 2, 1]⟩,
 ⟨(some 92), .load false 1 (.t 91), (some (5, 86, false)), 122968, [10, 5, 4, 0, 3, 2, 1]⟩,
 ⟨(some 93), .len (.t 92), (some (5, 86, false)), 122976, [11, 10, 5, 4, 0, 3, 2, 1]⟩,
 ⟨(some 94), .bin .lss (.t 90) (.t 93), (some (5, 86, false)), 122984, [9, 8, 7, 6, 5, 4, 0, 3, 2, 1, 12, 11, 10]⟩,
 ⟨(some 95), .pick (.t 86) (.c (.bool true)) (.t 94), none, 122992, [5, 4, 0, 3, 2, 1, 13, 9, 8, 7, 6, 12, 11, 10]⟩])
 (.cond (.t 95)
 (.seq
 (.region 16 false [
 ⟨(some 6), .copy (.c (.bool false)), none, 131072, []⟩])
 .ret)
 .skip))
 (.seq
 (.seq
 (.region 17 false [
 ⟨(some 14), .copy (.c (.int .i64 0)), none, 139264, []⟩])
 (.block 4
 (.loop
 (.seq
 (.seq
 (.region 18 false [
 ⟨(some 96), .copy (.t 14), none, 147456, []⟩,
 ⟨(some 97), .faddr 2 (.t 11), none, 147464, []⟩,
 ⟨(some 98), .load false 1 (.t 97), none, 147472, [1]⟩,
 ⟨(some 99), .len (.t 98), none, 147480, [2, 1]⟩,
 ⟨(some 100), .bin .lss (.t 96) (.t 99), none, 147488, [0, 3, 2, 1]⟩])
 (.cond (.t 100)
 .skip
 (.exit 4)))
 (.seq
 (.block 5
 (.seq
 (.region 20 true [
 ⟨(some 103), .faddr 0 (.t 11), none, 163840, []⟩,
 ⟨(some 104), .faddr 0 (.t 103), none, 163848, [0]⟩,
 ⟨(some 105), .load false 1 (.t 104), none, 163856, [1, 0]⟩,
 ⟨(some 106), .faddr 0 (.t 11), none, 163864, []⟩,
 ⟨(some 107), .faddr 0 (.t 106), none, 163872, [3]⟩,
 ⟨(some 108), .load false 1 (.t 107), none, 163880, [4, 3]⟩,
 ⟨(some 109), .len (.t 108), none, 163888, [5, 4, 3]⟩,
 ⟨(some 110), .faddr 2 (.t 11), none, 163896, []⟩,
 ⟨(some 111), .load false 1 (.t 110), none, 163904, [7]⟩,
 ⟨(some 112), .len (.t 111), none, 163912, [8, 7]⟩,
 ⟨(some 113), .bin .sub (.t 109) (.t 112), none, 163920, [6, 5, 4, 3, 9, 8, 7]⟩,
 ⟨(some 114), .copy (.t 14), none, 163928, []⟩,
 ⟨(some 115), .bin .add (.t 113) (.t 114), none, 163936, [10, 6, 5, 4, 3, 9, 8, 7, 11]⟩,
 ⟨(some 116), .iaddr 5 (.t 105) (.t 115), none, 163944, [2, 1, 0, 12, 10, 6, 5, 4, 3, 9, 8, 7, 11]⟩,
 ⟨(some 117), .load true 5 (.t 116), none, 163952, [13, 2, 1, 0, 12, 10, 6, 5, 4, 3, 9, 8, 7, 11]⟩,
 ⟨(some 118), .faddr 2 (.t 11), none, 163960, []⟩,
 ⟨(some 119), .load false 1 (.t 118), none, 163968, [15]⟩,
 ⟨(some 120), .copy (.t 14), none, 163976, []⟩,
 ⟨(some 121), .iaddr 5 (.t 119) (.t 120), none, 163984, [16, 15, 17]⟩,
 ⟨(some 122), .load true 5 (.t 121), none, 163992, [18, 16, 15, 17]⟩,
 ⟨(some 123), .eqc true [1, 2, 1, 1, 0] (.t 117) (.t 122), none, 164000, [14, 13, 2, 1, 0, 12, 10, 6, 5, 4, 3, 9, 8, 7, 11, 19, 18, 16, 15, 17]⟩,
 ⟨(some 124), .copy (.t 123), none, 164008, [20, 14, 13, 2, 1, 0, 12, 10, 6, 5, 4, 3, 9, 8, 7, 11, 19, 18, 16, 15, 17]⟩,
 ⟨(some 125), .faddr 0 (.t 11), (some (21, 124, false)), 164016, [21, 20, 14, 13, 2, 1, 0, 12, 10, 6, 5, 4, 3, 9, 8, 7, 11, 19, 18, 16, 15, 17]⟩,
 ⟨(some 126), .faddr 0 (.t 125), (some (21, 124, false)), 164024, [22, 21, 20, 14, 13, 2, 1, 0, 12, 10, 6, 5, 4, 3, 9, 8, 7, 11, 19, 18, 16, 15, 17]⟩,
 ⟨(some 127), .load false 1 (.t 126), (some (21, 124, false)), 164032, [23, 22, 21, 20, 14, 13, 2, 1, 0, 12, 10, 6, 5, 4, 3, 9, 8, 7, 11, 19, 18, 16, 15, 17]⟩,
 ⟨(some 128), .faddr 2 (.t 11), (some (21, 124, false)), 164040, [21, 20, 14, 13, 2, 1, 0, 12, 10, 6, 5, 4, 3, 9, 8, 7, 11, 19, 18, 16, 15, 17]⟩,
 ⟨(some 129), .load false 1 (.t 128), (some (21, 124, false)), 164048, [25, 21, 20, 14, 13, 2, 1, 0, 12, 10, 6, 5, 4, 3, 9, 8, 7, 11, 19, 18, 16, 15, 17]⟩,
 ⟨(some 130), .copy (.t 14), (some (21, 124, false)), 164056, [21, 20, 14, 13, 2, 1, 0, 12, 10, 6, 5, 4, 3, 9, 8, 7, 11, 19, 18, 16, 15, 17]⟩,
 ⟨(some 131), .iaddr 5 (.t 129) (.t 130), (some (21, 124, false)), 164064, [26, 25, 21, 20, 14, 13, 2, 1, 0, 12, 10, 6, 5, 4, 3, 9, 8, 7, 11, 19, 18, 16, 15, 17, 27]⟩,
 ⟨(some 132), .load true 5 (.t 131), (some (21, 124, false)), 164072, [28, 26, 25, 21, 20, 14, 13, 2, 1, 0, 12, 10, 6, 5, 4, 3, 9, 8, 7, 11, 19, 18, 16, 15, 17, 27]⟩,
 ⟨(some 133), .call (.c (.fn 31 [])) [(.t 127), (.t 132)], (some (21, 124, false)), 164080, [24, 23, 22, 21, 20, 14, 13, 2, 1, 0, 12, 10, 6, 5, 4, 3, 9, 8, 7, 11, 19, 18, 16, 15, 17, 29, 28, 26, 25, 27]⟩,
 ⟨(some 134), .pick (.t 124) (.c (.bool true)) (.t 133), none, 164088, [21, 20, 14, 13, 2, 1, 0, 12, 10, 6, 5, 4, 3, 9, 8, 7, 11, 19, 18, 16, 15, 17, 30, 24, 23, 22, 29, 28, 26, 25, 27]⟩])
 (.cond (.t 134)
 (.seq
 (.region 21 false [
 ⟨(some 6), .copy (.c (.bool false)), none, 172032, []⟩])
 .ret)
 .skip)))
 (.region 19 false [
 ⟨(some 101), .copy (.t 14), none, 155648, []⟩,
 ⟨(some 102), .bin .add (.t 101) (.c (.int .i64 1)), none, 155656, [0]⟩,
 ⟨(some 14), .copy (.t 102), none, 155664, [1, 0]⟩]))))))
 (.seq
 (.region 22 false [
 ⟨(some 15), .copy (.c (.int .i64 0)), none, 180224, []⟩])
 (.block 6
 (.loop
 (.seq
 (.seq
 (.region 23 false [
 ⟨(some 135), .copy (.t 15), none, 188416, []⟩,
 ⟨(some 136), .faddr 0 (.t 11), none, 188424, []⟩,
 ⟨(some 137), .faddr 1 (.t 136), none, 188432, [1]⟩,
 ⟨(some 138), .load false 1 (.t 137), none, 188440, [2, 1]⟩,
 ⟨(some 139), .len (.t 138), none, 188448, [3, 2, 1]⟩,
 ⟨(some 140), .bin .lss (.t 135) (.t 139), none, 188456, [0, 4, 3, 2, 1]⟩])
 (.cond (.t 140)
 .skip
 (.exit 6)))
 (.seq
 (.block 7
 (.seq
 (.region 25 true [
 ⟨(some 143), .faddr 0 (.t 11), none, 204800, []⟩,
 ⟨(some 144), .faddr 0 (.t 143), none, 204808, [0]⟩,
 ⟨(some 145), .load false 1 (.t 144), none, 204816, [1, 0]⟩,
 ⟨(some 146), .faddr 0 (.t 11), none, 204824, []⟩,
 ⟨(some 147), .faddr 1 (.t 146), none, 204832, [3]⟩,
 ⟨(some 148), .load false 1 (.t 147), none, 204840, [4, 3]⟩,
 ⟨(some 149), .copy (.t 15), none, 204848, []⟩,
 ⟨(some 150), .iaddr 5 (.t 148) (.t 149), none, 204856, [5, 4, 3, 6]⟩,
 ⟨(some 151), .load true 5 (.t 150), none, 204864, [7, 5, 4, 3, 6]⟩,
 ⟨(some 152), .call (.c (.fn 31 [])) [(.t 145), (.t 151)], none, 204872, [2, 1, 0, 8, 7, 5, 4, 3, 6]⟩,
 ⟨(some 153), .not (.t 152), none, 204880, [9, 2, 1, 0, 8, 7, 5, 4, 3, 6]⟩,
 ⟨(some 154), .copy (.t 153), none, 204888, [10, 9, 2, 1, 0, 8, 7, 5, 4, 3, 6]⟩,
 ⟨(some 155), .faddr 0 (.t 11), (some (11, 154, true)), 204896, [11, 10, 9, 2, 1, 0, 8, 7, 5, 4, 3, 6]⟩,
 ⟨(some 156), .faddr 1 (.t 155), (some (11, 154, true)), 204904, [12, 11, 10, 9, 2, 1, 0, 8, 7, 5, 4, 3, 6]⟩,
 ⟨(some 157), .load false 1 (.t 156), (some (11, 154, true)), 204912, [13, 12, 11, 10, 9, 2, 1, 0, 8, 7, 5, 4, 3, 6]⟩,
 ⟨(some 158), .copy (.t 15), (some (11, 154, true)), 204920, [11, 10, 9, 2, 1, 0, 8, 7, 5, 4, 3, 6]⟩,
 ⟨(some 159), .slsl 5 (.t 157) none (some (.t 158)) none, (some (11, 154, true)), 204928, [14, 13, 12, 11, 10, 9, 2, 1, 0, 8, 7, 5, 4, 3, 6, 15]⟩,
 ⟨(some 160), .faddr 0 (.t 11), (some (11, 154, true)), 204936, [11, 10, 9, 2, 1, 0, 8, 7, 5, 4, 3, 6]⟩,
 ⟨(some 161), .faddr 1 (.t 160), (some (11, 154, true)), 204944, [17, 11, 10, 9, 2, 1, 0, 8, 7, 5, 4, 3, 6]⟩,
 ⟨(some 162), .load false 1 (.t 161), (some (11, 154, true)), 204952, [18, 17, 11, 10, 9, 2, 1, 0, 8, 7, 5, 4, 3, 6]⟩,
 ⟨(some 163), .copy (.t 15), (some (11, 154, true)), 204960, [11, 10, 9, 2, 1, 0, 8, 7, 5, 4, 3, 6]⟩,
 ⟨(some 164), .iaddr 5 (.t 162) (.t 163), (some (11, 154, true)), 204968, [19, 18, 17, 11, 10, 9, 2, 1, 0, 8, 7, 5, 4, 3, 6, 20]⟩,
 ⟨(some 165), .load true 5 (.t 164), (some (11, 154, true)), 204976, [21, 19, 18, 17, 11, 10, 9, 2, 1, 0, 8, 7, 5, 4, 3, 6, 20]⟩,
 ⟨(some 166), .call (.c (.fn 31 [])) [(.t 159), (.t 165)], (some (11, 154, true)), 204984, [16, 14, 13, 12, 11, 10, 9, 2, 1, 0, 8, 7, 5, 4, 3, 6, 15, 22, 21, 19, 18, 17, 20]⟩,
 ⟨(some 167), .not (.t 166), (some (11, 154, true)), 204992, [23, 16, 14, 13, 12, 11, 10, 9, 2, 1, 0, 8, 7, 5, 4, 3, 6, 15, 22, 21, 19, 18, 17, 20]⟩,
 ⟨(some 168), .pick (.t 154) (.t 167) (.c (.bool false)), none, 205000, [11, 10, 9, 2, 1, 0, 8, 7, 5, 4, 3, 6, 24, 23, 16, 14, 13, 12, 15, 22, 21, 19, 18, 17, 20]⟩])
 (.cond (.t 168)
 (.seq
 (.region 26 false [
 ⟨(some 6), .copy (.c (.bool false)), none, 212992, []⟩])
 .ret)
 .skip)))
 (.region 24 false [
 ⟨(some 141), .copy (.t 15), none, 196608, []⟩,
 ⟨(some 142), .bin .add (.t 141) (.c (.int .i64 1)), none, 196616, [0]⟩,
 ⟨(some 15), .copy (.t 142), none, 196624, [1, 0]⟩])))))))))))
 (.region 8 false [
 ⟨(some 48), .copy (.t 10), none, 65536, []⟩,
 ⟨(some 49), .bin .add (.t 48) (.c (.int .i64 1)), none, 65544, [0]⟩,
 ⟨(some 10), .copy (.t 49), none, 65552, [1, 0]⟩]))))))
 (.seq
 (.region 27 false [
 ⟨(some 169), .copy (.t 7), none, 221184, []⟩,
 ⟨(some 6), .copy (.t 169), none, 221192, [0]⟩])
 .ret)))))))
theorem vf9 : VF Try.prog 9 = some (170, vc9, [.tmp 6]) := by kernel_rfl
theorem vneL (a : LockL) {lvl site : Nat} {tf : TF} {hf : HF} {x y : VX} (hx : ev tf x = some (.agg (encL a)) := by rfl) (hy : ev tf y = some (.agg (encL a)) := by rfl) :
    vop lvl site tf hf (.eqc true [1, 2, 1, 1, 0] x y) = some ⟨.bool false, [], []⟩ := by
  have h := veqL a a (neg := true) (lvl := lvl) (site := site) (hf := hf) hx hy
  rw [h]
  simp
set_option maxHeartbeats 8000000 in
theorem order_law_vc {rs : List RawL} (hl : rs.length ≤ 9223372036854775807) (hr : ∀ r ∈ rs, r.ok) {w o : Nat} (hw : w < 256) (ho : o < 256) : VC Try.prog 9 [.sh false (rs.map encR), .int .u8 w, .int .u8 o] [] (.bool true) [] := by
  have hp := play_vc hl hr 14 (by omega)
  have hS := play_scr (rs.take 14)
  have hn : (playL (rs.take 14)).held.length + (playL (rs.take 14)).waits.length ≤ 14 := Nat.le_trans hS.n (by rw [List.length_take]; omega)
  have hs := hS.s
  generalize playL (rs.take 14) = s at hp hn hs hS
  have hss := sanity_vc
  have hRt := hs.toSoundW.right
  have hb1 : (s.held.map encL).length ≤ 14 := by rw [List.length_map]; omega
  have hb2 : (s.waits.map encL).length ≤ 14 := by rw [List.length_map]; omega
  have m1 : Int.tmod (o : Int) 5 = ((o % 5 : Nat) : Int) := tm o 5
  have w1 : IntKind.i64.wrap ((o % 5 : Nat) : Int) = ((o % 5 : Nat) : Int) := wrap64 (by omega) (by omega)
  have w2 : IntKind.i64.wrap (w : Int) = (w : Int) := wrap64 (by omega) (by omega)
  have hlv := hleave_vc (l := s) (by omega) ((o % 5 : Nat) : Int)
  rw [show leaveG pmt s ((o % 5 : Nat) : Int) = leaveG rmt s ((o % 5 : Nat) : Int) from leave_eq hRt _] at hlv
  have hG := leave_ord hs ((o % 5 : Nat) : Int)
  generalize leaveG rmt s ((o % 5 : Nat) : Int) = G at hlv hG
  refine vc_of vf9 ?_ (Nat.le_of_ble_eq_true rfl) (by intro vs h; cases h)
  refine ct_seq (rg ?_)
  repeat first | refine o_copy ?_ | refine o_loads ?_ | refine o_loadp ?_ | refine o_faddr ?_ | refine o_iaddr ?_ | refine o_iaddrO ?_ | refine o_iaddrR ?_ | refine o_add ?_ | refine o_sub ?_ | refine o_cat ?_ | refine o_bin ?_ | refine o_lenq ?_ | refine o_len ?_ | refine o_loadsA ?_ | refine o_loadpA ?_ | refine o_alloc ?_ | refine o_bslice ?_ | refine o_store ?_ | refine o_not ?_ | refine o_pickt ?_ | refine o_pickf ?_ | refine o_eqc ?_ | refine skF ?_ | refine skU ?_
  refine nl ?_
  refine ct_seq (rg ?_)
  repeat first | refine o_copy ?_ | refine cv0 hss ?_ | refine o_loads ?_ | refine o_loadp ?_ | refine o_faddr ?_ | refine o_iaddr ?_ | refine o_iaddrO ?_ | refine o_iaddrR ?_ | refine o_add ?_ | refine o_sub ?_ | refine o_cat ?_ | refine o_bin ?_ | refine o_lenq ?_ | refine o_len ?_ | refine o_loadsA ?_ | refine o_loadpA ?_ | refine o_alloc ?_ | refine o_bslice ?_ | refine o_store ?_ | refine o_not ?_ | refine o_pickt ?_ | refine o_pickf ?_ | refine o_eqc ?_ | refine skF ?_ | refine skU ?_
  refine nl ?_
  refine ct_seq (rg ?_)
  repeat first | refine o_copy ?_ | refine cf hp ?_ | refine o_loads ?_ | refine o_loadp ?_ | refine o_faddr ?_ | refine o_iaddr ?_ | refine o_iaddrO ?_ | refine o_iaddrR ?_ | refine o_add ?_ | refine o_sub ?_ | refine o_cat ?_ | refine o_bin ?_ | refine o_lenq ?_ | refine o_len ?_ | refine o_loadsA ?_ | refine o_loadpA ?_ | refine o_alloc ?_ | refine o_bslice ?_ | refine o_store ?_ | refine o_not ?_ | refine o_pickt ?_ | refine o_pickf ?_ | refine o_eqc ?_ | refine skF ?_ | refine skU ?_
  refine nl ?_
  refine ct_seq (rg ?_)
  repeat first | refine o_copy ?_ | refine o_rem ?_ | refine o_convE ?_ | refine cf hlv ?_ | refine o_loads ?_ | refine o_loadp ?_ | refine o_faddr ?_ | refine o_iaddr ?_ | refine o_iaddrO ?_ | refine o_iaddrR ?_ | refine o_add ?_ | refine o_sub ?_ | refine o_cat ?_ | refine o_bin ?_ | refine o_lenq ?_ | refine o_len ?_ | refine o_loadsA ?_ | refine o_loadpA ?_ | refine o_alloc ?_ | refine o_bslice ?_ | refine o_store ?_ | refine o_not ?_ | refine o_pickt ?_ | refine o_pickf ?_ | refine o_eqc ?_ | refine skF ?_ | refine skU ?_
  refine nl ?_
  refine ct_mid (lvl := 1) (fun (Rs : List GrL) => [(7, .bool true), (8, .ptr ⟨1, 16400⟩ 1 0 0), (9, .sh false (Rs.map encGr))]) (fun Rs => [(⟨1, 16400⟩, ⟨true, false, 2, [encLs s]⟩)]) (fun Rs => Rs.length ≤ 2 ∧ ∀ G ∈ Rs, OrdP s G) ?_ ?_
  · by_cases hA : 0 < s.held.length
    · have g2 : decide (((s.held.map encL).length : Int) > 0) = true := decide_eq_true (by rw [List.length_map]; omega)
      have hml : w % s.held.length < s.held.length := Nat.mod_lt _ hA
      obtain ⟨x, hxx⟩ : ∃ x, s.held[w % s.held.length]? = some x := ⟨_, List.getElem?_eq_getElem hml⟩
      have hye := gm (enc := encL) (n := ((w % s.held.length : Nat) : Int)) hxx (Int.toNat_natCast _)
      have m2 : Int.tmod (w : Int) ((s.held.map encL).length : Nat) = ((w % s.held.length : Nat) : Int) := by rw [List.length_map]; exact tm _ _
      have m3 : ((s.held.map encL).length : Int) ≠ 0 := by rw [List.length_map]; omega
      have m4 : ((w % s.held.length : Nat) : Int) < ((s.held.map encL).length : Nat) := by rw [List.length_map]; omega
      have hd := hdrop_vc (l := s) (by omega) x
      rw [show dropG pmt s x = dropG rmt s x from drop_eq hRt x] at hd
      have hD := drop_ord hs (List.mem_of_getElem? hxx)
      generalize dropG rmt s x = D at hd hD
      repeat first | refine o_copy ?_ | refine nl ?_ | refine ct_seq ?_ | refine rg ?_ | refine ct_block ?_ | refine bq ?_ | refine o_loads ?_ | refine o_loadp ?_ | refine o_faddr ?_ | refine o_iaddr ?_ | refine o_iaddrO ?_ | refine o_iaddrR ?_ | refine o_add ?_ | refine o_sub ?_ | refine o_cat ?_ | refine o_bin ?_ | refine o_lenq ?_ | refine o_len ?_ | refine o_loadsA ?_ | refine o_loadpA ?_ | refine o_alloc ?_ | refine o_bslice ?_ | refine o_store ?_ | refine o_not ?_ | refine o_pickt ?_ | refine o_pickf ?_ | refine o_eqc ?_ | refine skF ?_ | refine skU ?_
      refine cndt ?_
      repeat first | refine o_copy ?_ | refine nl ?_ | refine ct_seq ?_ | refine rg ?_ | refine ct_block ?_ | refine bq ?_ | refine o_convE ?_ | refine o_rem ?_ | refine cf hd ?_ | refine o_v (vap encGr D (ys := [G])) ?_ | refine o_loads ?_ | refine o_loadp ?_ | refine o_faddr ?_ | refine o_iaddr ?_ | refine o_iaddrO ?_ | refine o_iaddrR ?_ | refine o_add ?_ | refine o_sub ?_ | refine o_cat ?_ | refine o_bin ?_ | refine o_lenq ?_ | refine o_len ?_ | refine o_loadsA ?_ | refine o_loadpA ?_ | refine o_alloc ?_ | refine o_bslice ?_ | refine o_store ?_ | refine o_not ?_ | refine o_pickt ?_ | refine o_pickf ?_ | refine o_eqc ?_ | refine skF ?_ | refine skU ?_
      refine ⟨[G, D], ⟨by simp, ?_⟩, (Imp.wr (t := 9) rfl (l_own rfl rfl)).trans goesD⟩
      intro X hX
      simp only [List.mem_cons, List.not_mem_nil, or_false] at hX
      rcases hX with rfl | rfl
      · exact hG
      · exact hD
    · have g2 : decide (((s.held.map encL).length : Int) > 0) = false := decide_eq_false (by rw [List.length_map]; omega)
      repeat first | refine o_copy ?_ | refine nl ?_ | refine ct_seq ?_ | refine rg ?_ | refine ct_block ?_ | refine bq ?_ | refine o_loads ?_ | refine o_loadp ?_ | refine o_faddr ?_ | refine o_iaddr ?_ | refine o_iaddrO ?_ | refine o_iaddrR ?_ | refine o_add ?_ | refine o_sub ?_ | refine o_cat ?_ | refine o_bin ?_ | refine o_lenq ?_ | refine o_len ?_ | refine o_loadsA ?_ | refine o_loadpA ?_ | refine o_alloc ?_ | refine o_bslice ?_ | refine o_store ?_ | refine o_not ?_ | refine o_pickt ?_ | refine o_pickf ?_ | refine o_eqc ?_ | refine skF ?_ | refine skU ?_
      refine ct_imp (Imp.wr (t := 9) rfl (l_own rfl rfl)) ?_
      refine cndf (ct_skip ?_)
      refine ⟨[G], ⟨by simp, ?_⟩, goesD⟩
      intro X hX
      rw [List.mem_singleton.1 hX]
      exact hG
  clear hlv hG
  rintro Rs ⟨hR1, hR2⟩
  repeat first | refine o_copy ?_ | refine nl ?_ | refine ct_seq ?_ | refine rg ?_ | refine ct_block ?_ | refine bq ?_ | refine o_loads ?_ | refine o_loadp ?_ | refine o_faddr ?_ | refine o_iaddr ?_ | refine o_iaddrO ?_ | refine o_iaddrR ?_ | refine o_add ?_ | refine o_sub ?_ | refine o_cat ?_ | refine o_bin ?_ | refine o_lenq ?_ | refine o_len ?_ | refine o_loadsA ?_ | refine o_loadpA ?_ | refine o_alloc ?_ | refine o_bslice ?_ | refine o_store ?_ | refine o_not ?_ | refine o_pickt ?_ | refine o_pickf ?_ | refine o_eqc ?_ | refine skF ?_ | refine skU ?_
  have hb9 : (Rs.map encGr).length ≤ 2 := by rw [List.length_map]; exact hR1
  refine ct_loopG (fun (i : Nat) => [(7, .bool true), (8, .ptr ⟨1, 16400⟩ 1 0 0), (9, .sh false (Rs.map encGr)), (10, .int .i64 i)]) (fun i => [(⟨1, 16400⟩, ⟨true, false, 2, [encLs s]⟩)]) (fun i => Rs.length - i)
    (fun i => i ≤ Rs.length) 0 goesD (Nat.zero_le _) ?_
  intro i hi
  repeat first | refine o_copy ?_ | refine nl ?_ | refine ct_seq ?_ | refine rg ?_ | refine ct_block ?_ | refine bq ?_ | refine o_loads ?_ | refine o_loadp ?_ | refine o_faddr ?_ | refine o_iaddr ?_ | refine o_iaddrO ?_ | refine o_iaddrR ?_ | refine o_add ?_ | refine o_sub ?_ | refine o_cat ?_ | refine o_bin ?_ | refine o_lenq ?_ | refine o_len ?_ | refine o_loadsA ?_ | refine o_loadpA ?_ | refine o_alloc ?_ | refine o_bslice ?_ | refine o_store ?_ | refine o_not ?_ | refine o_pickt ?_ | refine o_pickf ?_ | refine o_eqc ?_ | refine skF ?_ | refine skU ?_
  refine cnd (fun hh => ct_skip ?_) (fun hh => ct_exit ?_)
  rotate_left
  · repeat first | refine o_copy ?_ | refine nl ?_ | refine ct_seq ?_ | refine rg ?_ | refine ct_block ?_ | refine bq ?_ | refine o_loads ?_ | refine o_loadp ?_ | refine o_faddr ?_ | refine o_iaddr ?_ | refine o_iaddrO ?_ | refine o_iaddrR ?_ | refine o_add ?_ | refine o_sub ?_ | refine o_cat ?_ | refine o_bin ?_ | refine o_lenq ?_ | refine o_len ?_ | refine o_loadsA ?_ | refine o_loadpA ?_ | refine o_alloc ?_ | refine o_bslice ?_ | refine o_store ?_ | refine o_not ?_ | refine o_pickt ?_ | refine o_pickf ?_ | refine o_eqc ?_ | refine skF ?_ | refine skU ?_
    exact ct_ret ⟨.inr rfl, oB rfl⟩
  have hlt : i < Rs.length := by have h' := of_decide_eq_true hh; simp only [List.length_map] at h'; omega
  have hlt2 : (i : Int) < ((Rs.map encGr).length : Nat) := by rw [List.length_map]; omega
  obtain ⟨g, hg⟩ : ∃ g, Rs[i]? = some g := ⟨_, List.getElem?_eq_getElem hlt⟩
  have hge := gm (enc := encGr) (n := (i : Int)) hg (by omega)
  have hO := hR2 g (List.mem_of_getElem? hg)
  obtain ⟨⟨gh, gw⟩, gg, ge⟩ := g
  obtain ⟨o1, ⟨h0, o2⟩, o3, o4, o5⟩ := hO
  dsimp only at o1 o2 o3 o4 o5
  have o6 := o1.length_le
  have b1 : (gh.map encL).length ≤ 14 := by rw [List.length_map]; omega
  have b2 : (gw.map encL).length ≤ 14 := by rw [List.length_map]; omega
  have b3 : (gg.map encL).length ≤ 14 := by rw [List.length_map]; omega
  have b4 : gh.length = h0.length + gg.length := by rw [o2, List.length_append]
  refine ct_seq (ct_block (ct_seq (rg ?_)))
  repeat first | refine o_copy ?_ | refine o_loads ?_ | refine o_loadp ?_ | refine o_faddr ?_ | refine o_iaddr ?_ | refine o_iaddrO ?_ | refine o_iaddrR ?_ | refine o_add ?_ | refine o_sub ?_ | refine o_cat ?_ | refine o_bin ?_ | refine o_lenq ?_ | refine o_len ?_ | refine o_loadsA ?_ | refine o_loadpA ?_ | refine o_alloc ?_ | refine o_bslice ?_ | refine o_store ?_ | refine o_not ?_ | refine o_pickt ?_ | refine o_pickf ?_ | refine o_eqc ?_ | refine skF ?_ | refine skU ?_
  refine nl ?_
  refine ct_mid (lvl := 1) (fun (_ : Unit) => [(7, .bool true), (8, .ptr ⟨1, 16400⟩ 1 0 0), (9, .sh false (Rs.map encGr)), (10, .int .i64 i), (11, .ptr ⟨1, 73760⟩ 1 0 0), (12, .int .i64 gg.length)]) (fun _ => [(⟨1, 16400⟩, ⟨true, false, 2, [encLs s]⟩), (⟨1, 73760⟩, ⟨true, false, 4, [encG gh gw gg ge]⟩)]) (fun _ => True) ?_ ?_
  · repeat first | refine o_copy ?_ | refine nl ?_ | refine ct_seq ?_ | refine rg ?_ | refine ct_block ?_ | refine bq ?_ | refine o_loads ?_ | refine o_loadp ?_ | refine o_faddr ?_ | refine o_iaddr ?_ | refine o_iaddrO ?_ | refine o_iaddrR ?_ | refine o_add ?_ | refine o_sub ?_ | refine o_cat ?_ | refine o_bin ?_ | refine o_lenq ?_ | refine o_len ?_ | refine o_loadsA ?_ | refine o_loadpA ?_ | refine o_alloc ?_ | refine o_bslice ?_ | refine o_store ?_ | refine o_not ?_ | refine o_pickt ?_ | refine o_pickf ?_ | refine o_eqc ?_ | refine skF ?_ | refine skU ?_
    refine ct_loopG (fun (g : Nat × Nat) => [(7, .bool true), (8, .ptr ⟨1, 16400⟩ 1 0 0), (9, .sh false (Rs.map encGr)), (10, .int .i64 i), (11, .ptr ⟨1, 73760⟩ 1 0 0), (12, .int .i64 g.2), (13, .int .i64 g.1)]) (fun g => [(⟨1, 16400⟩, ⟨true, false, 2, [encLs s]⟩), (⟨1, 73760⟩, ⟨true, false, 4, [encG gh gw gg ge]⟩)]) (fun g => s.waits.length - g.1)
      (fun g => g.1 ≤ s.waits.length ∧ g.2 ≤ gg.length ∧ (gg.drop g.2).Sublist (s.waits.drop g.1)) (0, 0) goesD ⟨Nat.zero_le _, Nat.zero_le _, o1⟩ ?_
    rintro ⟨j, a⟩ ⟨q1, q2, q3⟩
    dsimp only at q1 q2 q3 ⊢
    by_cases hA : j < s.waits.length
    · have c1 : decide ((j : Int) < ((s.waits.map encL).length : Nat)) = true := decide_eq_true (by rw [List.length_map]; omega)
      have c1' : (j : Int) < ((s.waits.map encL).length : Nat) := by rw [List.length_map]; omega
      obtain ⟨u, hu⟩ : ∃ u, s.waits[j]? = some u := ⟨_, List.getElem?_eq_getElem hA⟩
      have hue := gm (enc := encL) (n := (j : Int)) hu (by omega)
      by_cases hB : a < gg.length
      · have c2 : decide ((a : Int) < ((gg.map encL).length : Nat)) = true := decide_eq_true (by rw [List.length_map]; omega)
        have c2' : (a : Int) < ((gg.map encL).length : Nat) := by rw [List.length_map]; omega
        obtain ⟨v, hv⟩ : ∃ v, gg[a]? = some v := ⟨_, List.getElem?_eq_getElem hB⟩
        have hve := gm (enc := encL) (n := (a : Int)) hv (by omega)
        rw [drop_get hu, drop_get hv] at q3
        have q4 := sub_step q3
        repeat first | refine o_copy ?_ | refine nl ?_ | refine ct_seq ?_ | refine rg ?_ | refine ct_block ?_ | refine bq ?_ | refine o_loads ?_ | refine o_loadp ?_ | refine o_faddr ?_ | refine o_iaddr ?_ | refine o_iaddrO ?_ | refine o_iaddrR ?_ | refine o_add ?_ | refine o_sub ?_ | refine o_cat ?_ | refine o_bin ?_ | refine o_lenq ?_ | refine o_len ?_ | refine o_loadsA ?_ | refine o_loadpA ?_ | refine o_alloc ?_ | refine o_bslice ?_ | refine o_store ?_ | refine o_not ?_ | refine o_pickt ?_ | refine o_pickf ?_ | refine o_eqc ?_ | refine skF ?_ | refine skU ?_
        refine cndt (ct_skip ?_)
        repeat first | refine o_copy ?_ | refine nl ?_ | refine ct_seq ?_ | refine rg ?_ | refine ct_block ?_ | refine bq ?_ | refine o_v (veqL u v) ?_ | refine o_loads ?_ | refine o_loadp ?_ | refine o_faddr ?_ | refine o_iaddr ?_ | refine o_iaddrO ?_ | refine o_iaddrR ?_ | refine o_add ?_ | refine o_sub ?_ | refine o_cat ?_ | refine o_bin ?_ | refine o_lenq ?_ | refine o_len ?_ | refine o_loadsA ?_ | refine o_loadpA ?_ | refine o_alloc ?_ | refine o_bslice ?_ | refine o_store ?_ | refine o_not ?_ | refine o_pickt ?_ | refine o_pickf ?_ | refine o_eqc ?_ | refine skF ?_ | refine skU ?_
        refine cnd (fun h2 => ?_) (fun h2 => ct_skip ?_)
        · have h2 : u = v := by simpa using h2
          rw [if_pos h2] at q4
          repeat first | refine o_copy ?_ | refine nl ?_ | refine ct_seq ?_ | refine rg ?_ | refine ct_block ?_ | refine bq ?_ | refine o_loads ?_ | refine o_loadp ?_ | refine o_faddr ?_ | refine o_iaddr ?_ | refine o_iaddrO ?_ | refine o_iaddrR ?_ | refine o_add ?_ | refine o_sub ?_ | refine o_cat ?_ | refine o_bin ?_ | refine o_lenq ?_ | refine o_len ?_ | refine o_loadsA ?_ | refine o_loadpA ?_ | refine o_alloc ?_ | refine o_bslice ?_ | refine o_store ?_ | refine o_not ?_ | refine o_pickt ?_ | refine o_pickf ?_ | refine o_eqc ?_ | refine skF ?_ | refine skU ?_
          exact agn (Q := fun _ _ => True) (j + 1, a + 1) ⟨hA, hB, q4⟩ goesD
        · have h2 : ¬ u = v := by simpa using h2
          rw [if_neg h2, ← drop_get hv] at q4
          repeat first | refine o_copy ?_ | refine nl ?_ | refine ct_seq ?_ | refine rg ?_ | refine ct_block ?_ | refine bq ?_ | refine o_loads ?_ | refine o_loadp ?_ | refine o_faddr ?_ | refine o_iaddr ?_ | refine o_iaddrO ?_ | refine o_iaddrR ?_ | refine o_add ?_ | refine o_sub ?_ | refine o_cat ?_ | refine o_bin ?_ | refine o_lenq ?_ | refine o_len ?_ | refine o_loadsA ?_ | refine o_loadpA ?_ | refine o_alloc ?_ | refine o_bslice ?_ | refine o_store ?_ | refine o_not ?_ | refine o_pickt ?_ | refine o_pickf ?_ | refine o_eqc ?_ | refine skF ?_ | refine skU ?_
          exact agn (Q := fun _ _ => True) (j + 1, a) ⟨hA, q2, q4⟩ goesD
      · have c2 : decide ((a : Int) < ((gg.map encL).length : Nat)) = false := decide_eq_false (by rw [List.length_map]; omega)
        have : a = gg.length := by omega
        subst this
        repeat first | refine o_copy ?_ | refine nl ?_ | refine ct_seq ?_ | refine rg ?_ | refine ct_block ?_ | refine bq ?_ | refine o_loads ?_ | refine o_loadp ?_ | refine o_faddr ?_ | refine o_iaddr ?_ | refine o_iaddrO ?_ | refine o_iaddrR ?_ | refine o_add ?_ | refine o_sub ?_ | refine o_cat ?_ | refine o_bin ?_ | refine o_lenq ?_ | refine o_len ?_ | refine o_loadsA ?_ | refine o_loadpA ?_ | refine o_alloc ?_ | refine o_bslice ?_ | refine o_store ?_ | refine o_not ?_ | refine o_pickt ?_ | refine o_pickf ?_ | refine o_eqc ?_ | refine skF ?_ | refine skU ?_
        refine cndf (ct_exit ?_)
        exact ⟨(), trivial, goesD⟩
    · have c1 : decide ((j : Int) < ((s.waits.map encL).length : Nat)) = false := decide_eq_false (by rw [List.length_map]; omega)
      have : a = gg.length := by
        have hd : s.waits.drop j = [] := List.drop_eq_nil_of_le (by omega)
        rw [hd, List.sublist_nil, List.drop_eq_nil_iff] at q3
        omega
      subst this
      repeat first | refine o_copy ?_ | refine nl ?_ | refine ct_seq ?_ | refine rg ?_ | refine ct_block ?_ | refine bq ?_ | refine o_loads ?_ | refine o_loadp ?_ | refine o_faddr ?_ | refine o_iaddr ?_ | refine o_iaddrO ?_ | refine o_iaddrR ?_ | refine o_add ?_ | refine o_sub ?_ | refine o_cat ?_ | refine o_bin ?_ | refine o_lenq ?_ | refine o_len ?_ | refine o_loadsA ?_ | refine o_loadpA ?_ | refine o_alloc ?_ | refine o_bslice ?_ | refine o_store ?_ | refine o_not ?_ | refine o_pickt ?_ | refine o_pickf ?_ | refine o_eqc ?_ | refine skF ?_ | refine skU ?_
      refine cndf (ct_exit ?_)
      exact ⟨(), trivial, goesD⟩
  intro _ _
  have c1 : (!((gg.length : Nat) : Int) == ((gg.map encL).length : Nat)) = false := by simp
  have c2 : decide (((gh.map encL).length : Int) < ((gg.map encL).length : Nat)) = false := decide_eq_false (by rw [List.length_map, List.length_map]; omega)
  repeat first | refine o_copy ?_ | refine nl ?_ | refine ct_seq ?_ | refine rg ?_ | refine ct_block ?_ | refine bq ?_ | refine o_loads ?_ | refine o_loadp ?_ | refine o_faddr ?_ | refine o_iaddr ?_ | refine o_iaddrO ?_ | refine o_iaddrR ?_ | refine o_add ?_ | refine o_sub ?_ | refine o_cat ?_ | refine o_bin ?_ | refine o_lenq ?_ | refine o_len ?_ | refine o_loadsA ?_ | refine o_loadpA ?_ | refine o_alloc ?_ | refine o_bslice ?_ | refine o_store ?_ | refine o_not ?_ | refine o_pickt ?_ | refine o_pickf ?_ | refine o_eqc ?_ | refine skF ?_ | refine skU ?_
  refine cndf (ct_skip ?_)
  refine ct_mid (lvl := 1) (fun (_ : Unit) => [(7, .bool true), (8, .ptr ⟨1, 16400⟩ 1 0 0), (9, .sh false (Rs.map encGr)), (10, .int .i64 i), (11, .ptr ⟨1, 73760⟩ 1 0 0)]) (fun _ => [(⟨1, 16400⟩, ⟨true, false, 2, [encLs s]⟩), (⟨1, 73760⟩, ⟨true, false, 4, [encG gh gw gg ge]⟩)]) (fun _ => True) ?_ ?_
  · repeat first | refine o_copy ?_ | refine nl ?_ | refine ct_seq ?_ | refine rg ?_ | refine ct_block ?_ | refine bq ?_ | refine o_loads ?_ | refine o_loadp ?_ | refine o_faddr ?_ | refine o_iaddr ?_ | refine o_iaddrO ?_ | refine o_iaddrR ?_ | refine o_add ?_ | refine o_sub ?_ | refine o_cat ?_ | refine o_bin ?_ | refine o_lenq ?_ | refine o_len ?_ | refine o_loadsA ?_ | refine o_loadpA ?_ | refine o_alloc ?_ | refine o_bslice ?_ | refine o_store ?_ | refine o_not ?_ | refine o_pickt ?_ | refine o_pickf ?_ | refine o_eqc ?_ | refine skF ?_ | refine skU ?_
    refine ct_loopG (fun (k : Nat) => [(7, .bool true), (8, .ptr ⟨1, 16400⟩ 1 0 0), (9, .sh false (Rs.map encGr)), (10, .int .i64 i), (11, .ptr ⟨1, 73760⟩ 1 0 0), (14, .int .i64 k)]) (fun _ => [(⟨1, 16400⟩, ⟨true, false, 2, [encLs s]⟩), (⟨1, 73760⟩, ⟨true, false, 4, [encG gh gw gg ge]⟩)]) (fun k => gg.length - k)
      (fun k => k ≤ gg.length) 0 goesD (Nat.zero_le _) ?_
    intro k hk
    repeat first | refine o_copy ?_ | refine nl ?_ | refine ct_seq ?_ | refine rg ?_ | refine ct_block ?_ | refine bq ?_ | refine o_loads ?_ | refine o_loadp ?_ | refine o_faddr ?_ | refine o_iaddr ?_ | refine o_iaddrO ?_ | refine o_iaddrR ?_ | refine o_add ?_ | refine o_sub ?_ | refine o_cat ?_ | refine o_bin ?_ | refine o_lenq ?_ | refine o_len ?_ | refine o_loadsA ?_ | refine o_loadpA ?_ | refine o_alloc ?_ | refine o_bslice ?_ | refine o_store ?_ | refine o_not ?_ | refine o_pickt ?_ | refine o_pickf ?_ | refine o_eqc ?_ | refine skF ?_ | refine skU ?_
    refine cnd (fun hh => ct_skip ?_) (fun hh => ct_exit ?_)
    · have hlt : k < gg.length := by have h' := of_decide_eq_true hh; simp only [List.length_map] at h'; omega
      have hlt2 : (k : Int) < ((gg.map encL).length : Nat) := by rw [List.length_map]; omega
      obtain ⟨u, hu⟩ : ∃ u, gg[k]? = some u := ⟨_, List.getElem?_eq_getElem hlt⟩
      have hue := gm (enc := encL) (n := (k : Int)) hu (by omega)
      have hu2 : gh[h0.length + k]? = some u := by rw [o2, List.getElem?_append_right (by omega), ← hu]; congr 1; omega
      have e1 : ((gh.map encL).length : Int) - ((gg.map encL).length : Nat) + (k : Int) = ((h0.length + k : Nat) : Int) := by rw [List.length_map, List.length_map]; omega
      have e2 : ((gh.map encL).length : Int) - ((gg.map encL).length : Nat) + (k : Int) < ((gh.map encL).length : Nat) := by rw [e1, List.length_map]; omega
      have e3 : 0 ≤ ((gh.map encL).length : Int) - ((gg.map encL).length : Nat) + (k : Int) := by omega
      have e4 : 0 ≤ ((gh.map encL).length : Int) - ((gg.map encL).length : Nat) := by rw [List.length_map, List.length_map]; omega
      have hve := gm (enc := encL) (n := ((gh.map encL).length : Int) - ((gg.map encL).length : Nat) + (k : Int)) hu2 (by rw [e1]; exact Int.toNat_natCast _)
      have hm := rmeets_vc (l := gh) (by omega) u
      rw [o3 u (List.mem_of_getElem? hu)] at hm
      repeat first | refine o_copy ?_ | refine nl ?_ | refine ct_seq ?_ | refine rg ?_ | refine ct_block ?_ | refine bq ?_ | refine o_v (vneL u) ?_ | refine cv0 hm ?_ | refine o_loads ?_ | refine o_loadp ?_ | refine o_faddr ?_ | refine o_iaddr ?_ | refine o_iaddrO ?_ | refine o_iaddrR ?_ | refine o_add ?_ | refine o_sub ?_ | refine o_cat ?_ | refine o_bin ?_ | refine o_lenq ?_ | refine o_len ?_ | refine o_loadsA ?_ | refine o_loadpA ?_ | refine o_alloc ?_ | refine o_bslice ?_ | refine o_store ?_ | refine o_not ?_ | refine o_pickt ?_ | refine o_pickf ?_ | refine o_eqc ?_ | refine skF ?_ | refine skU ?_
      refine cndf (ct_skip ?_)
      repeat first | refine o_copy ?_ | refine nl ?_ | refine ct_seq ?_ | refine rg ?_ | refine ct_block ?_ | refine bq ?_ | refine o_loads ?_ | refine o_loadp ?_ | refine o_faddr ?_ | refine o_iaddr ?_ | refine o_iaddrO ?_ | refine o_iaddrR ?_ | refine o_add ?_ | refine o_sub ?_ | refine o_cat ?_ | refine o_bin ?_ | refine o_lenq ?_ | refine o_len ?_ | refine o_loadsA ?_ | refine o_loadpA ?_ | refine o_alloc ?_ | refine o_bslice ?_ | refine o_store ?_ | refine o_not ?_ | refine o_pickt ?_ | refine o_pickf ?_ | refine o_eqc ?_ | refine skF ?_ | refine skU ?_
      exact agn (Q := fun _ _ => True) (k + 1) (by omega) goesD
    · exact ⟨(), trivial, goesD⟩
  intro _ _
  repeat first | refine o_copy ?_ | refine nl ?_ | refine ct_seq ?_ | refine rg ?_ | refine ct_block ?_ | refine bq ?_ | refine o_loads ?_ | refine o_loadp ?_ | refine o_faddr ?_ | refine o_iaddr ?_ | refine o_iaddrO ?_ | refine o_iaddrR ?_ | refine o_add ?_ | refine o_sub ?_ | refine o_cat ?_ | refine o_bin ?_ | refine o_lenq ?_ | refine o_len ?_ | refine o_loadsA ?_ | refine o_loadpA ?_ | refine o_alloc ?_ | refine o_bslice ?_ | refine o_store ?_ | refine o_not ?_ | refine o_pickt ?_ | refine o_pickf ?_ | refine o_eqc ?_ | refine skF ?_ | refine skU ?_
  refine ct_loopG (fun (k : Nat) => [(7, .bool true), (8, .ptr ⟨1, 16400⟩ 1 0 0), (9, .sh false (Rs.map encGr)), (10, .int .i64 i), (11, .ptr ⟨1, 73760⟩ 1 0 0), (15, .int .i64 k)]) (fun _ => [(⟨1, 16400⟩, ⟨true, false, 2, [encLs s]⟩), (⟨1, 73760⟩, ⟨true, false, 4, [encG gh gw gg ge]⟩)]) (fun k => gw.length - k)
    (fun k => k ≤ gw.length) 0 goesD (Nat.zero_le _) ?_
  intro k hk
  repeat first | refine o_copy ?_ | refine nl ?_ | refine ct_seq ?_ | refine rg ?_ | refine ct_block ?_ | refine bq ?_ | refine o_loads ?_ | refine o_loadp ?_ | refine o_faddr ?_ | refine o_iaddr ?_ | refine o_iaddrO ?_ | refine o_iaddrR ?_ | refine o_add ?_ | refine o_sub ?_ | refine o_cat ?_ | refine o_bin ?_ | refine o_lenq ?_ | refine o_len ?_ | refine o_loadsA ?_ | refine o_loadpA ?_ | refine o_alloc ?_ | refine o_bslice ?_ | refine o_store ?_ | refine o_not ?_ | refine o_pickt ?_ | refine o_pickf ?_ | refine o_eqc ?_ | refine skF ?_ | refine skU ?_
  refine cnd (fun hh => ct_skip ?_) (fun hh => ct_exit ?_)
  · have hlt : k < gw.length := by have h' := of_decide_eq_true hh; simp only [List.length_map] at h'; omega
    have hlt2 : (k : Int) < ((gw.map encL).length : Nat) := by rw [List.length_map]; omega
    obtain ⟨u, hu⟩ : ∃ u, gw[k]? = some u := ⟨_, List.getElem?_eq_getElem hlt⟩
    have hue := gm (enc := encL) (n := (k : Int)) hu (by omega)
    have hm1 := rmeets_vc (l := gh) (by omega) u
    have hm2 := rmeets_vc (l := gw.take k) (by rw [List.length_take]; omega) u
    have hy := o4 k u hu
    dsimp only at hy
    cases hc : rmeetsL gh u with
    | true =>
      rw [hc] at hm1
      repeat first | refine o_copy ?_ | refine nl ?_ | refine ct_seq ?_ | refine rg ?_ | refine ct_block ?_ | refine bq ?_ | refine cv0 hm1 ?_ | refine o_loads ?_ | refine o_loadp ?_ | refine o_faddr ?_ | refine o_iaddr ?_ | refine o_iaddrO ?_ | refine o_iaddrR ?_ | refine o_add ?_ | refine o_sub ?_ | refine o_cat ?_ | refine o_bin ?_ | refine o_lenq ?_ | refine o_len ?_ | refine o_loadsA ?_ | refine o_loadpA ?_ | refine o_alloc ?_ | refine o_bslice ?_ | refine o_store ?_ | refine o_not ?_ | refine o_pickt ?_ | refine o_pickf ?_ | refine o_eqc ?_ | refine skF ?_ | refine skU ?_
      refine cndf (ct_skip ?_)
      repeat first | refine o_copy ?_ | refine nl ?_ | refine ct_seq ?_ | refine rg ?_ | refine ct_block ?_ | refine bq ?_ | refine o_loads ?_ | refine o_loadp ?_ | refine o_faddr ?_ | refine o_iaddr ?_ | refine o_iaddrO ?_ | refine o_iaddrR ?_ | refine o_add ?_ | refine o_sub ?_ | refine o_cat ?_ | refine o_bin ?_ | refine o_lenq ?_ | refine o_len ?_ | refine o_loadsA ?_ | refine o_loadpA ?_ | refine o_alloc ?_ | refine o_bslice ?_ | refine o_store ?_ | refine o_not ?_ | refine o_pickt ?_ | refine o_pickf ?_ | refine o_eqc ?_ | refine skF ?_ | refine skU ?_
      exact agn (Q := fun _ _ => True) (k + 1) (by omega) goesD
    | false =>
      rw [hc] at hm1
      have hy : rmeetsL (gw.take k) u = true := hy.resolve_left (by rw [hc]; simp)
      rw [hy] at hm2
      repeat first | refine o_copy ?_ | refine nl ?_ | refine ct_seq ?_ | refine rg ?_ | refine ct_block ?_ | refine bq ?_ | refine cv0 hm1 ?_ | refine o_v (slL gw 0 k (Nat.zero_le _) (by omega)) ?_ | refine cv0 hm2 ?_ | refine o_loads ?_ | refine o_loadp ?_ | refine o_faddr ?_ | refine o_iaddr ?_ | refine o_iaddrO ?_ | refine o_iaddrR ?_ | refine o_add ?_ | refine o_sub ?_ | refine o_cat ?_ | refine o_bin ?_ | refine o_lenq ?_ | refine o_len ?_ | refine o_loadsA ?_ | refine o_loadpA ?_ | refine o_alloc ?_ | refine o_bslice ?_ | refine o_store ?_ | refine o_not ?_ | refine o_pickt ?_ | refine o_pickf ?_ | refine o_eqc ?_ | refine skF ?_ | refine skU ?_
      refine cndf (ct_skip ?_)
      repeat first | refine o_copy ?_ | refine nl ?_ | refine ct_seq ?_ | refine rg ?_ | refine ct_block ?_ | refine bq ?_ | refine o_loads ?_ | refine o_loadp ?_ | refine o_faddr ?_ | refine o_iaddr ?_ | refine o_iaddrO ?_ | refine o_iaddrR ?_ | refine o_add ?_ | refine o_sub ?_ | refine o_cat ?_ | refine o_bin ?_ | refine o_lenq ?_ | refine o_len ?_ | refine o_loadsA ?_ | refine o_loadpA ?_ | refine o_alloc ?_ | refine o_bslice ?_ | refine o_store ?_ | refine o_not ?_ | refine o_pickt ?_ | refine o_pickf ?_ | refine o_eqc ?_ | refine skF ?_ | refine skU ?_
      exact agn (Q := fun _ _ => True) (k + 1) (by omega) goesD
  · repeat first | refine o_copy ?_ | refine nl ?_ | refine ct_seq ?_ | refine rg ?_ | refine ct_block ?_ | refine bq ?_ | refine o_loads ?_ | refine o_loadp ?_ | refine o_faddr ?_ | refine o_iaddr ?_ | refine o_iaddrO ?_ | refine o_iaddrR ?_ | refine o_add ?_ | refine o_sub ?_ | refine o_cat ?_ | refine o_bin ?_ | refine o_lenq ?_ | refine o_len ?_ | refine o_loadsA ?_ | refine o_loadpA ?_ | refine o_alloc ?_ | refine o_bslice ?_ | refine o_store ?_ | refine o_not ?_ | refine o_pickt ?_ | refine o_pickf ?_ | refine o_eqc ?_ | refine skF ?_ | refine skU ?_
    exact agn (Q := fun _ _ => True) (i + 1) (by omega) goesE
theorem lockOrder_in (l : List (List PV)) (il : InTy (.sl [.int .u8, .int .u8, .int .u8, .int .u8, .int .u8]) (.sh false l)) (b : Int) (hb : (Lit.int .u8 b).wf = true) (c : Int) (hc : (Lit.int .u8 c).wf = true) : VC Try.prog 9 [.sh false l, .int .u8 b, .int .u8 c] [] (.bool true) [] := by
  obtain ⟨rs, rfl, h1, h2⟩ := decRs il
  obtain ⟨n, rfl, hn⟩ := wfU8 hb
  obtain ⟨k, rfl, hk⟩ := wfU8 hc
  exact order_law_vc h2 h1 hn hk
end Go.Proofs
