/- Sd -/
import Derived.Test.YtkbjaoophgepcaaLc
open Go.V Go.Pu
set_option linter.unusedVariables false
set_option linter.unusedSimpArgs false
set_option maxRecDepth 20000
namespace Go.Proofs
/-- downspout/downspoutlaw32.LockRefuses -/
def vc6 : VCode :=
 (.seq
 (.region 0 false [
 ⟨(some 6), .copy (.c (.bool false)), none, 0, []⟩])
 (.seq
 (.region 1 false [
 ⟨(some 18), .call (.c (.fn 11 [])) [], none, 8192, []⟩,
 ⟨(some 7), .copy (.t 18), none, 8200, [0]⟩])
 (.seq
 (.region 2 false [
 ⟨(some 19), .copy (.t 0), none, 16384, []⟩,
 ⟨(some 20), .call (.c (.fn 12 [])) [(.t 19), (.c (.int .i64 14))], none, 16392, [0]⟩,
 ⟨(some 8), .alloc [.nils, .nils], none, 16400, []⟩,
 ⟨none, .store 2 (.t 8) (.t 20), none, 16408, [2, 1, 0]⟩])
 (.seq
 (.region 3 false [
 ⟨(some 21), .build [(.int .i64 0), (.str []), (.int .i64 0), (.int .i64 0), (.bool false)] [(0, 1, (.c (.int .i64 7))), (1, 1, (.c (.str [121]))), (2, 1, (.c (.int .i64 0))), (3, 1, (.c (.int .i64 60000)))], none, 24576, []⟩,
 ⟨(some 22), .copy (.t 1), none, 24584, []⟩,
 ⟨(some 23), .conv .i64 (.t 22), none, 24592, [1]⟩,
 ⟨(some 9), .alloc [(.int .i64 0), (.str []), (.int .i64 0), (.int .i64 0), (.bool false)], none, 24600, []⟩,
 ⟨none, .store 5 (.t 9) (.t 21), none, 24608, [3, 0]⟩,
 ⟨(some 10), .copy (.t 23), none, 24616, [2, 1, 4, 3, 0]⟩])
 (.seq
 (.region 4 false [
 ⟨(some 11), .copy (.c (.bool true)), none, 32768, []⟩])
 (.seq
 (.seq
 (.region 5 false [
 ⟨(some 24), .copy (.t 2), none, 40960, []⟩,
 ⟨(some 25), .bin .rem (.t 24) (.c (.int .u8 4)), none, 40968, [0]⟩])
 (.block 0
 (.seq
 (.region 8 false [
 ⟨(some 39), .bin .eql (.t 25) (.c (.int .u8 0)), none, 65536, []⟩,
 ⟨(some 38), .copy (.t 39), none, 65544, [0]⟩])
 (.cond (.t 38)
 (.seq
 (.region 9 false [
 ⟨(some 40), .copy (.t 10), none, 73728, []⟩,
 ⟨(some 41), .faddr 0 (.t 9), none, 73736, [0]⟩,
 ⟨none, .store 1 (.t 41) (.t 40), none, 73744, [1, 0]⟩])
 (.region 10 false [
 ⟨(some 42), .copy (.t 10), none, 81920, []⟩,
 ⟨(some 43), .bin .geq (.t 42) (.c (.int .i64 0)), none, 81928, [0]⟩,
 ⟨(some 44), .copy (.t 43), none, 81936, [1, 0]⟩,
 ⟨(some 45), .copy (.t 10), (some (2, 44, true)), 81944, [2, 1, 0]⟩,
 ⟨(some 46), .bin .leq (.t 45) (.c (.int .i64 1000000000)), (some (2, 44, true)), 81952, [3, 2, 1, 0]⟩,
 ⟨(some 47), .pick (.t 44) (.t 46) (.c (.bool false)), none, 81960, [2, 1, 0, 4, 3]⟩,
 ⟨(some 11), .copy (.t 47), none, 81968, [5, 2, 1, 0, 4, 3]⟩]))
 (.seq
 (.region 11 false [
 ⟨(some 49), .bin .eql (.t 25) (.c (.int .u8 1)), none, 90112, []⟩,
 ⟨(some 48), .copy (.t 49), none, 90120, [0]⟩])
 (.cond (.t 48)
 (.seq
 (.region 12 false [
 ⟨(some 50), .copy (.t 10), none, 98304, []⟩,
 ⟨(some 51), .faddr 2 (.t 9), none, 98312, [0]⟩,
 ⟨none, .store 1 (.t 51) (.t 50), none, 98320, [1, 0]⟩])
 (.region 13 false [
 ⟨(some 52), .copy (.t 10), none, 106496, []⟩,
 ⟨(some 53), .bin .geq (.t 52) (.c (.int .i64 0)), none, 106504, [0]⟩,
 ⟨(some 54), .copy (.t 53), none, 106512, [1, 0]⟩,
 ⟨(some 55), .copy (.t 10), (some (2, 54, true)), 106520, [2, 1, 0]⟩,
 ⟨(some 56), .bin .lss (.t 55) (.c (.int .i64 60000)), (some (2, 54, true)), 106528, [3, 2, 1, 0]⟩,
 ⟨(some 57), .pick (.t 54) (.t 56) (.c (.bool false)), none, 106536, [2, 1, 0, 4, 3]⟩,
 ⟨(some 11), .copy (.t 57), none, 106544, [5, 2, 1, 0, 4, 3]⟩]))
 (.seq
 (.region 14 false [
 ⟨(some 59), .bin .eql (.t 25) (.c (.int .u8 2)), none, 114688, []⟩,
 ⟨(some 58), .copy (.t 59), none, 114696, [0]⟩])
 (.cond (.t 58)
 (.seq
 (.region 15 false [
 ⟨(some 60), .copy (.t 10), none, 122880, []⟩,
 ⟨(some 61), .faddr 3 (.t 9), none, 122888, [0]⟩,
 ⟨none, .store 1 (.t 61) (.t 60), none, 122896, [1, 0]⟩])
 (.region 16 false [
 ⟨(some 62), .copy (.t 10), none, 131072, []⟩,
 ⟨(some 63), .bin .gtr (.t 62) (.c (.int .i64 0)), none, 131080, [0]⟩,
 ⟨(some 64), .copy (.t 63), none, 131088, [1, 0]⟩,
 ⟨(some 65), .copy (.t 10), (some (2, 64, true)), 131096, [2, 1, 0]⟩,
 ⟨(some 66), .bin .leq (.t 65) (.c (.int .i64 60000)), (some (2, 64, true)), 131104, [3, 2, 1, 0]⟩,
 ⟨(some 67), .pick (.t 64) (.t 66) (.c (.bool false)), none, 131112, [2, 1, 0, 4, 3]⟩,
 ⟨(some 11), .copy (.t 67), none, 131120, [5, 2, 1, 0, 4, 3]⟩]))
 (.seq
 (.region 6 false [
 ⟨(some 26), .copy (.t 2), none, 49152, []⟩,
 ⟨(some 27), .conv .i64 (.t 26), none, 49160, [0]⟩,
 ⟨(some 28), .bin .quo (.t 27) (.c (.int .i64 4)), none, 49168, [1, 0]⟩,
 ⟨(some 29), .bin .rem (.t 28) (.c (.int .i64 4)), none, 49176, [2, 1, 0]⟩,
 ⟨(some 30), .bin .add (.c (.int .i64 199)) (.t 29), none, 49184, [3, 2, 1, 0]⟩,
 ⟨(some 31), .mkslice 1 [(.int .u8 0)] (.t 30) (.t 30), none, 49192, [4, 3, 2, 1, 0]⟩,
 ⟨(some 32), .b2s (.t 31), none, 49200, [5, 4, 3, 2, 1, 0]⟩,
 ⟨(some 33), .faddr 1 (.t 9), none, 49208, [0, 1, 2, 3, 4, 5, 6]⟩,
 ⟨none, .store 1 (.t 33) (.t 32), none, 49216, [7, 0, 1, 2, 3, 4, 5, 6]⟩])
 (.region 7 false [
 ⟨(some 34), .faddr 1 (.t 9), none, 57344, []⟩,
 ⟨(some 35), .load false 1 (.t 34), none, 57352, [0]⟩,
 ⟨(some 36), .lenS (.t 35), none, 57360, [1, 0]⟩,
 ⟨(some 37), .bin .leq (.t 36) (.c (.int .i64 200)), none, 57368, [2, 1, 0]⟩,
 ⟨(some 11), .copy (.t 37), none, 57376, [3, 2, 1, 0]⟩]))))))))))
 (.seq
 (.region 17 false [
 ⟨(some 68), .load true 2 (.t 8), none, 139264, []⟩,
 ⟨(some 69), .load true 5 (.t 9), none, 139272, []⟩,
 ⟨(some 70), .call (.c (.fn 15 [])) [(.t 68), (.t 69)], none, 139280, [0, 1]⟩,
 ⟨(some 12), .alloc [.nils, .nils, (.bool false), (.int .i64 0)], none, 139288, []⟩,
 ⟨none, .store 4 (.t 12) (.t 70), none, 139296, [3, 2, 0, 1]⟩])
 (.seq
 (.seq
 (.region 18 false [
 ⟨(some 71), .faddr 3 (.t 12), none, 147456, []⟩,
 ⟨(some 72), .load false 1 (.t 71), none, 147464, [0]⟩,
 ⟨(some 73), .bin .eql (.t 72) (.c (.int .i64 0)), none, 147472, [1, 0]⟩,
 ⟨(some 74), .copy (.t 11), none, 147480, []⟩,
 ⟨(some 75), .eqb true (.t 73) (.t 74), none, 147488, [2, 1, 0, 3]⟩,
 ⟨(some 76), .copy (.t 75), none, 147496, [4, 2, 1, 0, 3]⟩,
 ⟨(some 77), .faddr 3 (.t 12), (some (5, 76, false)), 147504, [5, 4, 2, 1, 0, 3]⟩,
 ⟨(some 78), .load false 1 (.t 77), (some (5, 76, false)), 147512, [6, 5, 4, 2, 1, 0, 3]⟩,
 ⟨(some 79), .bin .neq (.t 78) (.c (.int .i64 0)), (some (5, 76, false)), 147520, [7, 6, 5, 4, 2, 1, 0, 3]⟩,
 ⟨(some 80), .copy (.t 79), (some (5, 76, false)), 147528, [8, 7, 6, 5, 4, 2, 1, 0, 3]⟩,
 ⟨(some 81), .faddr 3 (.t 12), (some (9, 80, true)), 147536, [9, 8, 7, 6, 5, 4, 2, 1, 0, 3]⟩,
 ⟨(some 82), .load false 1 (.t 81), (some (9, 80, true)), 147544, [10, 9, 8, 7, 6, 5, 4, 2, 1, 0, 3]⟩,
 ⟨(some 83), .bin .neq (.t 82) (.c (.int .i64 1)), (some (9, 80, true)), 147552, [11, 10, 9, 8, 7, 6, 5, 4, 2, 1, 0, 3]⟩,
 ⟨(some 84), .copy (.t 83), (some (9, 80, true)), 147560, [12, 11, 10, 9, 8, 7, 6, 5, 4, 2, 1, 0, 3]⟩,
 ⟨(some 85), .faddr 0 (.t 12), (some (13, 84, false)), 147568, [13, 12, 11, 10, 9, 8, 7, 6, 5, 4, 2, 1, 0, 3]⟩,
 ⟨(some 86), .load true 2 (.t 85), (some (13, 84, false)), 147576, [14, 13, 12, 11, 10, 9, 8, 7, 6, 5, 4, 2, 1, 0, 3]⟩,
 ⟨(some 87), .load true 2 (.t 8), (some (13, 84, false)), 147584, [13, 12, 11, 10, 9, 8, 7, 6, 5, 4, 2, 1, 0, 3]⟩,
 ⟨(some 88), .call (.c (.fn 19 [])) [(.t 86), (.t 87)], (some (13, 84, false)), 147592, [15, 14, 13, 12, 11, 10, 9, 8, 7, 6, 5, 4, 2, 1, 0, 3, 16]⟩,
 ⟨(some 89), .not (.t 88), (some (13, 84, false)), 147600, [17, 15, 14, 13, 12, 11, 10, 9, 8, 7, 6, 5, 4, 2, 1, 0, 3, 16]⟩,
 ⟨(some 90), .pick (.t 84) (.c (.bool true)) (.t 89), (some (9, 80, true)), 147608, [13, 12, 11, 10, 9, 8, 7, 6, 5, 4, 2, 1, 0, 3, 18, 17, 15, 14, 16]⟩,
 ⟨(some 91), .pick (.t 80) (.t 90) (.c (.bool false)), (some (5, 76, false)), 147616, [9, 8, 7, 6, 5, 4, 2, 1, 0, 3, 19, 13, 12, 11, 10, 18, 17, 15, 14, 16]⟩,
 ⟨(some 92), .pick (.t 76) (.c (.bool true)) (.t 91), none, 147624, [5, 4, 2, 1, 0, 3, 20, 9, 8, 7, 6, 19, 13, 12, 11, 10, 18, 17, 15, 14, 16]⟩,
 ⟨(some 93), .copy (.t 92), none, 147632, [21, 5, 4, 2, 1, 0, 3, 20, 9, 8, 7, 6, 19, 13, 12, 11, 10, 18, 17, 15, 14, 16]⟩,
 ⟨(some 94), .load true 2 (.t 8), (some (22, 93, false)), 147640, [22, 21, 5, 4, 2, 1, 0, 3, 20, 9, 8, 7, 6, 19, 13, 12, 11, 10, 18, 17, 15, 14, 16]⟩,
 ⟨(some 95), .load true 5 (.t 9), (some (22, 93, false)), 147648, [22, 21, 5, 4, 2, 1, 0, 3, 20, 9, 8, 7, 6, 19, 13, 12, 11, 10, 18, 17, 15, 14, 16]⟩,
 ⟨(some 96), .call (.c (.fn 16 [])) [(.t 94), (.t 95)], (some (22, 93, false)), 147656, [23, 22, 21, 5, 4, 2, 1, 0, 3, 20, 9, 8, 7, 6, 19, 13, 12, 11, 10, 18, 17, 15, 14, 16, 24]⟩,
 ⟨(some 97), .copy (.t 11), (some (22, 93, false)), 147664, [22, 21, 5, 4, 2, 1, 0, 3, 20, 9, 8, 7, 6, 19, 13, 12, 11, 10, 18, 17, 15, 14, 16]⟩,
 ⟨(some 98), .eqb true (.t 96) (.t 97), (some (22, 93, false)), 147672, [25, 23, 22, 21, 5, 4, 2, 1, 0, 3, 20, 9, 8, 7, 6, 19, 13, 12, 11, 10, 18, 17, 15, 14, 16, 24, 26]⟩,
 ⟨(some 99), .pick (.t 93) (.c (.bool true)) (.t 98), none, 147680, [22, 21, 5, 4, 2, 1, 0, 3, 20, 9, 8, 7, 6, 19, 13, 12, 11, 10, 18, 17, 15, 14, 16, 27, 25, 23, 24, 26]⟩])
 (.cond (.t 99)
 (.seq
 (.region 19 false [
 ⟨(some 6), .copy (.c (.bool false)), none, 155648, []⟩])
 .ret)
 .skip))
 (.seq
 (.region 20 false [
 ⟨(some 100), .load true 2 (.t 8), none, 163840, []⟩,
 ⟨(some 101), .build [(.int .i64 0), (.str []), (.int .i64 0), (.int .i64 0), (.bool false)] [(0, 1, (.c (.int .i64 7))), (1, 1, (.c (.str [122]))), (3, 1, (.c (.int .i64 1)))], none, 163848, []⟩,
 ⟨(some 102), .call (.c (.fn 13 [])) [(.t 100), (.t 101)], none, 163856, [0, 1]⟩,
 ⟨(some 13), .alloc [.nils, .nils, .nils, (.int .i64 0)], none, 163864, []⟩,
 ⟨none, .store 4 (.t 13) (.t 102), none, 163872, [3, 2, 0, 1]⟩])
 (.seq
 (.seq
 (.region 21 false [
 ⟨(some 103), .faddr 0 (.t 8), none, 172032, []⟩,
 ⟨(some 104), .load false 1 (.t 103), none, 172040, [0]⟩,
 ⟨(some 105), .len (.t 104), none, 172048, [1, 0]⟩,
 ⟨(some 106), .faddr 1 (.t 8), none, 172056, []⟩,
 ⟨(some 107), .load false 1 (.t 106), none, 172064, [3]⟩,
 ⟨(some 108), .len (.t 107), none, 172072, [4, 3]⟩,
 ⟨(some 109), .bin .add (.t 105) (.t 108), none, 172080, [2, 1, 0, 5, 4, 3]⟩,
 ⟨(some 14), .copy (.t 109), none, 172088, [6, 2, 1, 0, 5, 4, 3]⟩])
 (.block 1
 (.loop
 (.seq
 (.seq
 (.region 22 false [
 ⟨(some 110), .copy (.t 14), none, 180224, []⟩,
 ⟨(some 111), .bin .lss (.t 110) (.c (.int .i64 32)), none, 180232, [0]⟩])
 (.cond (.t 111)
 .skip
 (.exit 1)))
 (.seq
 (.block 2
 (.seq
 (.region 24 false [
 ⟨(some 114), .load true 2 (.t 8), none, 196608, []⟩,
 ⟨(some 115), .copy (.t 14), none, 196616, []⟩,
 ⟨(some 116), .copy (.t 14), none, 196624, []⟩,
 ⟨(some 117), .bin .add (.t 116) (.c (.int .i64 1)), none, 196632, [2]⟩,
 ⟨(some 118), .build [(.int .i64 0), (.str []), (.int .i64 0), (.int .i64 0), (.bool false)] [(0, 1, (.c (.int .i64 8))), (1, 1, (.c (.str [119]))), (2, 1, (.t 115)), (3, 1, (.t 117))], none, 196640, [1, 3, 2]⟩,
 ⟨(some 119), .call (.c (.fn 15 [])) [(.t 114), (.t 118)], none, 196648, [0, 4, 1, 3, 2]⟩,
 ⟨(some 15), .alloc [.nils, .nils, (.bool false), (.int .i64 0)], none, 196656, []⟩,
 ⟨none, .store 4 (.t 15) (.t 119), none, 196664, [6, 5, 0, 4, 1, 3, 2]⟩])
 (.seq
 (.seq
 (.region 25 false [
 ⟨(some 120), .faddr 3 (.t 15), none, 204800, []⟩,
 ⟨(some 121), .load false 1 (.t 120), none, 204808, [0]⟩,
 ⟨(some 122), .bin .neq (.t 121) (.c (.int .i64 0)), none, 204816, [1, 0]⟩,
 ⟨(some 123), .copy (.t 122), none, 204824, [2, 1, 0]⟩,
 ⟨(some 124), .faddr 2 (.t 15), (some (3, 123, false)), 204832, [3, 2, 1, 0]⟩,
 ⟨(some 125), .load false 1 (.t 124), (some (3, 123, false)), 204840, [4, 3, 2, 1, 0]⟩,
 ⟨(some 126), .not (.t 125), (some (3, 123, false)), 204848, [5, 4, 3, 2, 1, 0]⟩,
 ⟨(some 127), .pick (.t 123) (.c (.bool true)) (.t 126), none, 204856, [3, 2, 1, 0, 6, 5, 4]⟩])
 (.cond (.t 127)
 (.seq
 (.region 26 false [
 ⟨(some 6), .copy (.c (.bool false)), none, 212992, []⟩])
 .ret)
 .skip))
 (.region 27 false [
 ⟨(some 128), .faddr 0 (.t 15), none, 221184, []⟩,
 ⟨(some 129), .load true 2 (.t 128), none, 221192, [0]⟩,
 ⟨none, .store 2 (.t 8) (.t 129), none, 221200, [1, 0]⟩]))))
 (.region 23 false [
 ⟨(some 112), .copy (.t 14), none, 188416, []⟩,
 ⟨(some 113), .bin .add (.t 112) (.c (.int .i64 1)), none, 188424, [0]⟩,
 ⟨(some 14), .copy (.t 113), none, 188432, [1, 0]⟩]))))))
 (.seq
 (.region 28 false [
 ⟨(some 130), .load true 2 (.t 8), none, 229376, []⟩,
 ⟨(some 131), .build [(.int .i64 0), (.str []), (.int .i64 0), (.int .i64 0), (.bool false)] [(0, 1, (.c (.int .i64 8))), (1, 1, (.c (.str [119]))), (2, 1, (.c (.int .i64 40))), (3, 1, (.c (.int .i64 41)))], none, 229384, []⟩,
 ⟨(some 132), .call (.c (.fn 15 [])) [(.t 130), (.t 131)], none, 229392, [0, 1]⟩,
 ⟨(some 16), .alloc [.nils, .nils, (.bool false), (.int .i64 0)], none, 229400, []⟩,
 ⟨none, .store 4 (.t 16) (.t 132), none, 229408, [3, 2, 0, 1]⟩])
 (.seq
 (.region 29 false [
 ⟨(some 133), .load true 2 (.t 8), none, 237568, []⟩,
 ⟨(some 134), .build [(.int .i64 0), (.str []), (.int .i64 0), (.int .i64 0), (.bool false)] [(0, 1, (.c (.int .i64 8))), (1, 1, (.c (.str [119]))), (2, 1, (.c (.int .i64 41))), (3, 1, (.c (.int .i64 41)))], none, 237576, []⟩,
 ⟨(some 135), .call (.c (.fn 15 [])) [(.t 133), (.t 134)], none, 237584, [0, 1]⟩,
 ⟨(some 17), .alloc [.nils, .nils, (.bool false), (.int .i64 0)], none, 237592, []⟩,
 ⟨none, .store 4 (.t 17) (.t 135), none, 237600, [3, 2, 0, 1]⟩])
 (.seq
 (.region 30 false [
 ⟨(some 136), .faddr 3 (.t 13), none, 245760, []⟩,
 ⟨(some 137), .load false 1 (.t 136), none, 245768, [0]⟩,
 ⟨(some 138), .bin .eql (.t 137) (.c (.int .i64 330)), none, 245776, [1, 0]⟩,
 ⟨(some 139), .copy (.t 138), none, 245784, [2, 1, 0]⟩,
 ⟨(some 140), .faddr 2 (.t 13), (some (3, 139, true)), 245792, [3, 2, 1, 0]⟩,
 ⟨(some 141), .load false 1 (.t 140), (some (3, 139, true)), 245800, [4, 3, 2, 1, 0]⟩,
 ⟨(some 142), .len (.t 141), (some (3, 139, true)), 245808, [5, 4, 3, 2, 1, 0]⟩,
 ⟨(some 143), .bin .eql (.t 142) (.c (.int .i64 0)), (some (3, 139, true)), 245816, [6, 5, 4, 3, 2, 1, 0]⟩,
 ⟨(some 144), .pick (.t 139) (.t 143) (.c (.bool false)), none, 245824, [3, 2, 1, 0, 7, 6, 5, 4]⟩,
 ⟨(some 145), .copy (.t 144), none, 245832, [8, 3, 2, 1, 0, 7, 6, 5, 4]⟩,
 ⟨(some 146), .faddr 3 (.t 16), (some (9, 145, true)), 245840, [9, 8, 3, 2, 1, 0, 7, 6, 5, 4]⟩,
 ⟨(some 147), .load false 1 (.t 146), (some (9, 145, true)), 245848, [10, 9, 8, 3, 2, 1, 0, 7, 6, 5, 4]⟩,
 ⟨(some 148), .bin .eql (.t 147) (.c (.int .i64 322)), (some (9, 145, true)), 245856, [11, 10, 9, 8, 3, 2, 1, 0, 7, 6, 5, 4]⟩,
 ⟨(some 149), .pick (.t 145) (.t 148) (.c (.bool false)), none, 245864, [9, 8, 3, 2, 1, 0, 7, 6, 5, 4, 12, 11, 10]⟩,
 ⟨(some 150), .copy (.t 149), none, 245872, [13, 9, 8, 3, 2, 1, 0, 7, 6, 5, 4, 12, 11, 10]⟩,
 ⟨(some 151), .faddr 0 (.t 16), (some (14, 150, true)), 245880, [14, 13, 9, 8, 3, 2, 1, 0, 7, 6, 5, 4, 12, 11, 10]⟩,
 ⟨(some 152), .load true 2 (.t 151), (some (14, 150, true)), 245888, [15, 14, 13, 9, 8, 3, 2, 1, 0, 7, 6, 5, 4, 12, 11, 10]⟩,
 ⟨(some 153), .load true 2 (.t 8), (some (14, 150, true)), 245896, [14, 13, 9, 8, 3, 2, 1, 0, 7, 6, 5, 4, 12, 11, 10]⟩,
 ⟨(some 154), .call (.c (.fn 19 [])) [(.t 152), (.t 153)], (some (14, 150, true)), 245904, [16, 15, 14, 13, 9, 8, 3, 2, 1, 0, 7, 6, 5, 4, 12, 11, 10, 17]⟩,
 ⟨(some 155), .pick (.t 150) (.t 154) (.c (.bool false)), none, 245912, [14, 13, 9, 8, 3, 2, 1, 0, 7, 6, 5, 4, 12, 11, 10, 18, 16, 15, 17]⟩,
 ⟨(some 156), .copy (.t 155), none, 245920, [19, 14, 13, 9, 8, 3, 2, 1, 0, 7, 6, 5, 4, 12, 11, 10, 18, 16, 15, 17]⟩,
 ⟨(some 157), .faddr 3 (.t 17), (some (20, 156, true)), 245928, [20, 19, 14, 13, 9, 8, 3, 2, 1, 0, 7, 6, 5, 4, 12, 11, 10, 18, 16, 15, 17]⟩,
 ⟨(some 158), .load false 1 (.t 157), (some (20, 156, true)), 245936, [21, 20, 19, 14, 13, 9, 8, 3, 2, 1, 0, 7, 6, 5, 4, 12, 11, 10, 18, 16, 15, 17]⟩,
 ⟨(some 159), .bin .eql (.t 158) (.c (.int .i64 1)), (some (20, 156, true)), 245944, [22, 21, 20, 19, 14, 13, 9, 8, 3, 2, 1, 0, 7, 6, 5, 4, 12, 11, 10, 18, 16, 15, 17]⟩,
 ⟨(some 160), .pick (.t 156) (.t 159) (.c (.bool false)), none, 245952, [20, 19, 14, 13, 9, 8, 3, 2, 1, 0, 7, 6, 5, 4, 12, 11, 10, 18, 16, 15, 17, 23, 22, 21]⟩,
 ⟨(some 161), .copy (.t 160), none, 245960, [24, 20, 19, 14, 13, 9, 8, 3, 2, 1, 0, 7, 6, 5, 4, 12, 11, 10, 18, 16, 15, 17, 23, 22, 21]⟩,
 ⟨(some 162), .copy (.t 7), (some (25, 161, true)), 245968, [25, 24, 20, 19, 14, 13, 9, 8, 3, 2, 1, 0, 7, 6, 5, 4, 12, 11, 10, 18, 16, 15, 17, 23, 22, 21]⟩,
 ⟨(some 163), .pick (.t 161) (.t 162) (.c (.bool false)), none, 245976, [25, 24, 20, 19, 14, 13, 9, 8, 3, 2, 1, 0, 7, 6, 5, 4, 12, 11, 10, 18, 16, 15, 17, 23, 22, 21, 26]⟩,
 ⟨(some 6), .copy (.t 163), none, 245984, [27, 25, 24, 20, 19, 14, 13, 9, 8, 3, 2, 1, 0, 7, 6, 5, 4, 12, 11, 10, 18, 16, 15, 17, 23, 22, 21, 26]⟩])
 .ret)))))))))))))
theorem vf6 : VF Try.prog 6 = some (164, vc6, [.tmp 6]) := by kernel_rfl
theorem quo_nat {k : IntKind} {n m : Nat} {z : Int} (hz : z = n) (hm : 0 < m) (hw : k.wrap ((n / m : Nat) : Int) = ((n / m : Nat) : Int)) : bin .quo (.int k z) (.int k (m : Nat)) = some (.int k ((n / m : Nat) : Int)) := by
  subst hz
  have h1 : ((m : Nat) : Int) ≠ 0 := by omega
  have h2 : (n : Int).tdiv (m : Int) = ((n / m : Nat) : Int) := rfl
  simp only [bin, if_true, binInt, if_neg h1, h2, hw]
set_option maxHeartbeats 8000000 in
theorem refuses_law_vc {rs : List RawL} (hl : rs.length ≤ 9223372036854775807) (hr : ∀ r ∈ rs, r.ok) {m : Int} (hm1 : -2147483648 ≤ m) (hm2 : m ≤ 2147483647) {k : Nat} (hk : k < 256) : VC Try.prog 6 [.sh false (rs.map encR), .int .i32 m, .int .u8 k] [] (.bool true) [] := by
  have hp := play_vc hl hr 14 (by omega)
  have hS := play_scr (rs.take 14)
  have hn : (playL (rs.take 14)).held.length + (playL (rs.take 14)).waits.length ≤ 14 := Nat.le_trans hS.n (by rw [List.length_take]; omega)
  have hs := hS.s
  generalize playL (rs.take 14) = s at hp hn hs hS
  have hss := sanity_vc
  have hRt := hs.toSoundW.right
  have hb1 : (s.held.map encL).length ≤ 14 := by rw [List.length_map]; omega
  have hb2 : (s.waits.map encL).length ≤ 14 := by rw [List.length_map]; omega
  have m1 : Int.tmod (k : Int) 4 = ((k % 4 : Nat) : Int) := tm k 4
  have w1 : IntKind.i64.wrap m = m := wrap64 (by omega) (by omega)
  have w2 : IntKind.i64.wrap (k : Int) = (k : Int) := wrap64 (by omega) (by omega)
  have hq : bin .quo (.int .i64 (k : Int)) (.int .i64 4) = some (.int .i64 ((k / 4 : Nat) : Int)) := quo_nat (k := .i64) (n := k) (m := 4) rfl (by omega) (wrap64 (by omega) (by omega))
  have m2 : Int.tmod ((k / 4 : Nat) : Int) 4 = ((k / 4 % 4 : Nat) : Int) := tm (k / 4) 4
  have hc4 : k / 4 % 4 < 4 := Nat.mod_lt _ (by omega)
  have hpath := refX_path k m
  refine vc_of vf6 ?_ (Nat.le_of_ble_eq_true rfl) (by intro vs h; cases h)
  refine ct_seq (rg ?_)
  repeat first | refine o_copy ?_ | refine o_loads ?_ | refine o_loadp ?_ | refine o_faddr ?_ | refine o_b2sR ?_ | refine o_add ?_ | refine o_cat ?_ | refine o_bin ?_ | refine o_lenq ?_ | refine o_len ?_ | refine o_loadsA ?_ | refine o_loadpA ?_ | refine o_alloc ?_ | refine o_store ?_ | refine o_not ?_ | refine o_pickt ?_ | refine o_pickf ?_ | refine o_build ?_ | refine o_eqb ?_ | refine o_lenS ?_ | refine skF ?_ | refine skU ?_
  refine nl ?_
  refine ct_seq (rg ?_)
  repeat first | refine o_copy ?_ | refine cv0 hss ?_ | refine o_loads ?_ | refine o_loadp ?_ | refine o_faddr ?_ | refine o_b2sR ?_ | refine o_add ?_ | refine o_cat ?_ | refine o_bin ?_ | refine o_lenq ?_ | refine o_len ?_ | refine o_loadsA ?_ | refine o_loadpA ?_ | refine o_alloc ?_ | refine o_store ?_ | refine o_not ?_ | refine o_pickt ?_ | refine o_pickf ?_ | refine o_build ?_ | refine o_eqb ?_ | refine o_lenS ?_ | refine skF ?_ | refine skU ?_
  refine nl ?_
  refine ct_seq (rg ?_)
  repeat first | refine o_copy ?_ | refine cf hp ?_ | refine o_loads ?_ | refine o_loadp ?_ | refine o_faddr ?_ | refine o_b2sR ?_ | refine o_add ?_ | refine o_cat ?_ | refine o_bin ?_ | refine o_lenq ?_ | refine o_len ?_ | refine o_loadsA ?_ | refine o_loadpA ?_ | refine o_alloc ?_ | refine o_store ?_ | refine o_not ?_ | refine o_pickt ?_ | refine o_pickf ?_ | refine o_build ?_ | refine o_eqb ?_ | refine o_lenS ?_ | refine skF ?_ | refine skU ?_
  refine nl ?_
  refine ct_seq (rg ?_)
  repeat first | refine o_copy ?_ | refine o_convE ?_ | refine o_loads ?_ | refine o_loadp ?_ | refine o_faddr ?_ | refine o_b2sR ?_ | refine o_add ?_ | refine o_cat ?_ | refine o_bin ?_ | refine o_lenq ?_ | refine o_len ?_ | refine o_loadsA ?_ | refine o_loadpA ?_ | refine o_alloc ?_ | refine o_store ?_ | refine o_not ?_ | refine o_pickt ?_ | refine o_pickf ?_ | refine o_build ?_ | refine o_eqb ?_ | refine o_lenS ?_ | refine skF ?_ | refine skU ?_
  refine nl ?_
  refine ct_seq (rg ?_)
  repeat first | refine o_copy ?_ | refine o_loads ?_ | refine o_loadp ?_ | refine o_faddr ?_ | refine o_b2sR ?_ | refine o_add ?_ | refine o_cat ?_ | refine o_bin ?_ | refine o_lenq ?_ | refine o_len ?_ | refine o_loadsA ?_ | refine o_loadpA ?_ | refine o_alloc ?_ | refine o_store ?_ | refine o_not ?_ | refine o_pickt ?_ | refine o_pickf ?_ | refine o_build ?_ | refine o_eqb ?_ | refine o_lenS ?_ | refine skF ?_ | refine skU ?_
  refine nl ?_
  refine ct_mid (lvl := 1) (fun (_ : Unit) => [(7, .bool true), (8, .ptr ⟨1, 16400⟩ 1 0 0), (9, .ptr ⟨1, 24600⟩ 1 0 0), (11, .bool (rightL (refX k m)))]) (fun _ => [(⟨1, 16400⟩, ⟨true, false, 2, [encLs s]⟩), (⟨1, 24600⟩, ⟨true, false, 5, [encL (refX k m)]⟩)]) (fun _ => True) ?_ ?_
  · have hc : k % 4 = 0 ∨ k % 4 = 1 ∨ k % 4 = 2 ∨ k % 4 = 3 := by omega
    rcases hc with h | h | h | h
    · have g1 : (((k % 4 : Nat) : Int) == 0) = true := by rw [h]; rfl
      rw [ref0 h]
      by_cases c1 : 0 ≤ m
      · have d1 : decide (m ≥ 0) = true := decide_eq_true c1
        have e : rightL ⟨m, [121], 0, 60000, false⟩ = decide (m ≤ 1000000000) := by unfold rightL; simp [c1]
        rw [e]
        repeat first | refine o_copy ?_ | refine nl ?_ | refine ct_seq ?_ | refine rg ?_ | refine ct_block ?_ | refine bq ?_ | refine o_rem ?_ | refine o_loads ?_ | refine o_loadp ?_ | refine o_faddr ?_ | refine o_b2sR ?_ | refine o_add ?_ | refine o_cat ?_ | refine o_bin ?_ | refine o_lenq ?_ | refine o_len ?_ | refine o_loadsA ?_ | refine o_loadpA ?_ | refine o_alloc ?_ | refine o_store ?_ | refine o_not ?_ | refine o_pickt ?_ | refine o_pickf ?_ | refine o_build ?_ | refine o_eqb ?_ | refine o_lenS ?_ | refine skF ?_ | refine skU ?_
        refine cndt ?_
        repeat first | refine o_copy ?_ | refine nl ?_ | refine ct_seq ?_ | refine rg ?_ | refine ct_block ?_ | refine bq ?_ | refine o_loads ?_ | refine o_loadp ?_ | refine o_faddr ?_ | refine o_b2sR ?_ | refine o_add ?_ | refine o_cat ?_ | refine o_bin ?_ | refine o_lenq ?_ | refine o_len ?_ | refine o_loadsA ?_ | refine o_loadpA ?_ | refine o_alloc ?_ | refine o_store ?_ | refine o_not ?_ | refine o_pickt ?_ | refine o_pickf ?_ | refine o_build ?_ | refine o_eqb ?_ | refine o_lenS ?_ | refine skF ?_ | refine skU ?_
        exact ⟨(), trivial, goesE⟩
      · have d1 : decide (m ≥ 0) = false := decide_eq_false c1
        have e : rightL ⟨m, [121], 0, 60000, false⟩ = false := by unfold rightL; simp [c1]
        rw [e]
        repeat first | refine o_copy ?_ | refine nl ?_ | refine ct_seq ?_ | refine rg ?_ | refine ct_block ?_ | refine bq ?_ | refine o_rem ?_ | refine o_loads ?_ | refine o_loadp ?_ | refine o_faddr ?_ | refine o_b2sR ?_ | refine o_add ?_ | refine o_cat ?_ | refine o_bin ?_ | refine o_lenq ?_ | refine o_len ?_ | refine o_loadsA ?_ | refine o_loadpA ?_ | refine o_alloc ?_ | refine o_store ?_ | refine o_not ?_ | refine o_pickt ?_ | refine o_pickf ?_ | refine o_build ?_ | refine o_eqb ?_ | refine o_lenS ?_ | refine skF ?_ | refine skU ?_
        refine cndt ?_
        repeat first | refine o_copy ?_ | refine nl ?_ | refine ct_seq ?_ | refine rg ?_ | refine ct_block ?_ | refine bq ?_ | refine o_loads ?_ | refine o_loadp ?_ | refine o_faddr ?_ | refine o_b2sR ?_ | refine o_add ?_ | refine o_cat ?_ | refine o_bin ?_ | refine o_lenq ?_ | refine o_len ?_ | refine o_loadsA ?_ | refine o_loadpA ?_ | refine o_alloc ?_ | refine o_store ?_ | refine o_not ?_ | refine o_pickt ?_ | refine o_pickf ?_ | refine o_build ?_ | refine o_eqb ?_ | refine o_lenS ?_ | refine skF ?_ | refine skU ?_
        exact ⟨(), trivial, goesE⟩
    · have g1 : (((k % 4 : Nat) : Int) == 0) = false := by rw [h]; rfl
      have g2 : (((k % 4 : Nat) : Int) == 1) = true := by rw [h]; rfl
      rw [ref1 h]
      by_cases c1 : 0 ≤ m
      · have d1 : decide (m ≥ 0) = true := decide_eq_true c1
        have e : rightL ⟨7, [121], m, 60000, false⟩ = decide (m < 60000) := by unfold rightL; simp [c1]
        rw [e]
        repeat first | refine o_copy ?_ | refine nl ?_ | refine ct_seq ?_ | refine rg ?_ | refine ct_block ?_ | refine bq ?_ | refine o_rem ?_ | refine o_loads ?_ | refine o_loadp ?_ | refine o_faddr ?_ | refine o_b2sR ?_ | refine o_add ?_ | refine o_cat ?_ | refine o_bin ?_ | refine o_lenq ?_ | refine o_len ?_ | refine o_loadsA ?_ | refine o_loadpA ?_ | refine o_alloc ?_ | refine o_store ?_ | refine o_not ?_ | refine o_pickt ?_ | refine o_pickf ?_ | refine o_build ?_ | refine o_eqb ?_ | refine o_lenS ?_ | refine skF ?_ | refine skU ?_
        refine cndf ?_
        repeat first | refine o_copy ?_ | refine nl ?_ | refine ct_seq ?_ | refine rg ?_ | refine ct_block ?_ | refine bq ?_ | refine o_loads ?_ | refine o_loadp ?_ | refine o_faddr ?_ | refine o_b2sR ?_ | refine o_add ?_ | refine o_cat ?_ | refine o_bin ?_ | refine o_lenq ?_ | refine o_len ?_ | refine o_loadsA ?_ | refine o_loadpA ?_ | refine o_alloc ?_ | refine o_store ?_ | refine o_not ?_ | refine o_pickt ?_ | refine o_pickf ?_ | refine o_build ?_ | refine o_eqb ?_ | refine o_lenS ?_ | refine skF ?_ | refine skU ?_
        refine cndt ?_
        repeat first | refine o_copy ?_ | refine nl ?_ | refine ct_seq ?_ | refine rg ?_ | refine ct_block ?_ | refine bq ?_ | refine o_loads ?_ | refine o_loadp ?_ | refine o_faddr ?_ | refine o_b2sR ?_ | refine o_add ?_ | refine o_cat ?_ | refine o_bin ?_ | refine o_lenq ?_ | refine o_len ?_ | refine o_loadsA ?_ | refine o_loadpA ?_ | refine o_alloc ?_ | refine o_store ?_ | refine o_not ?_ | refine o_pickt ?_ | refine o_pickf ?_ | refine o_build ?_ | refine o_eqb ?_ | refine o_lenS ?_ | refine skF ?_ | refine skU ?_
        exact ⟨(), trivial, goesE⟩
      · have d1 : decide (m ≥ 0) = false := decide_eq_false c1
        have e : rightL ⟨7, [121], m, 60000, false⟩ = false := by unfold rightL; simp [c1]
        rw [e]
        repeat first | refine o_copy ?_ | refine nl ?_ | refine ct_seq ?_ | refine rg ?_ | refine ct_block ?_ | refine bq ?_ | refine o_rem ?_ | refine o_loads ?_ | refine o_loadp ?_ | refine o_faddr ?_ | refine o_b2sR ?_ | refine o_add ?_ | refine o_cat ?_ | refine o_bin ?_ | refine o_lenq ?_ | refine o_len ?_ | refine o_loadsA ?_ | refine o_loadpA ?_ | refine o_alloc ?_ | refine o_store ?_ | refine o_not ?_ | refine o_pickt ?_ | refine o_pickf ?_ | refine o_build ?_ | refine o_eqb ?_ | refine o_lenS ?_ | refine skF ?_ | refine skU ?_
        refine cndf ?_
        repeat first | refine o_copy ?_ | refine nl ?_ | refine ct_seq ?_ | refine rg ?_ | refine ct_block ?_ | refine bq ?_ | refine o_loads ?_ | refine o_loadp ?_ | refine o_faddr ?_ | refine o_b2sR ?_ | refine o_add ?_ | refine o_cat ?_ | refine o_bin ?_ | refine o_lenq ?_ | refine o_len ?_ | refine o_loadsA ?_ | refine o_loadpA ?_ | refine o_alloc ?_ | refine o_store ?_ | refine o_not ?_ | refine o_pickt ?_ | refine o_pickf ?_ | refine o_build ?_ | refine o_eqb ?_ | refine o_lenS ?_ | refine skF ?_ | refine skU ?_
        refine cndt ?_
        repeat first | refine o_copy ?_ | refine nl ?_ | refine ct_seq ?_ | refine rg ?_ | refine ct_block ?_ | refine bq ?_ | refine o_loads ?_ | refine o_loadp ?_ | refine o_faddr ?_ | refine o_b2sR ?_ | refine o_add ?_ | refine o_cat ?_ | refine o_bin ?_ | refine o_lenq ?_ | refine o_len ?_ | refine o_loadsA ?_ | refine o_loadpA ?_ | refine o_alloc ?_ | refine o_store ?_ | refine o_not ?_ | refine o_pickt ?_ | refine o_pickf ?_ | refine o_build ?_ | refine o_eqb ?_ | refine o_lenS ?_ | refine skF ?_ | refine skU ?_
        exact ⟨(), trivial, goesE⟩
    · have g1 : (((k % 4 : Nat) : Int) == 0) = false := by rw [h]; rfl
      have g2 : (((k % 4 : Nat) : Int) == 1) = false := by rw [h]; rfl
      have g3 : (((k % 4 : Nat) : Int) == 2) = true := by rw [h]; rfl
      rw [ref2 h]
      by_cases c1 : 0 < m
      · have d1 : decide (m > 0) = true := decide_eq_true c1
        have e : rightL ⟨7, [121], 0, m, false⟩ = decide (m ≤ 60000) := by unfold rightL; simp [c1]
        rw [e]
        repeat first | refine o_copy ?_ | refine nl ?_ | refine ct_seq ?_ | refine rg ?_ | refine ct_block ?_ | refine bq ?_ | refine o_rem ?_ | refine o_loads ?_ | refine o_loadp ?_ | refine o_faddr ?_ | refine o_b2sR ?_ | refine o_add ?_ | refine o_cat ?_ | refine o_bin ?_ | refine o_lenq ?_ | refine o_len ?_ | refine o_loadsA ?_ | refine o_loadpA ?_ | refine o_alloc ?_ | refine o_store ?_ | refine o_not ?_ | refine o_pickt ?_ | refine o_pickf ?_ | refine o_build ?_ | refine o_eqb ?_ | refine o_lenS ?_ | refine skF ?_ | refine skU ?_
        refine cndf ?_
        repeat first | refine o_copy ?_ | refine nl ?_ | refine ct_seq ?_ | refine rg ?_ | refine ct_block ?_ | refine bq ?_ | refine o_loads ?_ | refine o_loadp ?_ | refine o_faddr ?_ | refine o_b2sR ?_ | refine o_add ?_ | refine o_cat ?_ | refine o_bin ?_ | refine o_lenq ?_ | refine o_len ?_ | refine o_loadsA ?_ | refine o_loadpA ?_ | refine o_alloc ?_ | refine o_store ?_ | refine o_not ?_ | refine o_pickt ?_ | refine o_pickf ?_ | refine o_build ?_ | refine o_eqb ?_ | refine o_lenS ?_ | refine skF ?_ | refine skU ?_
        refine cndf ?_
        repeat first | refine o_copy ?_ | refine nl ?_ | refine ct_seq ?_ | refine rg ?_ | refine ct_block ?_ | refine bq ?_ | refine o_loads ?_ | refine o_loadp ?_ | refine o_faddr ?_ | refine o_b2sR ?_ | refine o_add ?_ | refine o_cat ?_ | refine o_bin ?_ | refine o_lenq ?_ | refine o_len ?_ | refine o_loadsA ?_ | refine o_loadpA ?_ | refine o_alloc ?_ | refine o_store ?_ | refine o_not ?_ | refine o_pickt ?_ | refine o_pickf ?_ | refine o_build ?_ | refine o_eqb ?_ | refine o_lenS ?_ | refine skF ?_ | refine skU ?_
        refine cndt ?_
        repeat first | refine o_copy ?_ | refine nl ?_ | refine ct_seq ?_ | refine rg ?_ | refine ct_block ?_ | refine bq ?_ | refine o_loads ?_ | refine o_loadp ?_ | refine o_faddr ?_ | refine o_b2sR ?_ | refine o_add ?_ | refine o_cat ?_ | refine o_bin ?_ | refine o_lenq ?_ | refine o_len ?_ | refine o_loadsA ?_ | refine o_loadpA ?_ | refine o_alloc ?_ | refine o_store ?_ | refine o_not ?_ | refine o_pickt ?_ | refine o_pickf ?_ | refine o_build ?_ | refine o_eqb ?_ | refine o_lenS ?_ | refine skF ?_ | refine skU ?_
        exact ⟨(), trivial, goesE⟩
      · have d1 : decide (m > 0) = false := decide_eq_false c1
        have e : rightL ⟨7, [121], 0, m, false⟩ = false := by unfold rightL; simp [c1]
        rw [e]
        repeat first | refine o_copy ?_ | refine nl ?_ | refine ct_seq ?_ | refine rg ?_ | refine ct_block ?_ | refine bq ?_ | refine o_rem ?_ | refine o_loads ?_ | refine o_loadp ?_ | refine o_faddr ?_ | refine o_b2sR ?_ | refine o_add ?_ | refine o_cat ?_ | refine o_bin ?_ | refine o_lenq ?_ | refine o_len ?_ | refine o_loadsA ?_ | refine o_loadpA ?_ | refine o_alloc ?_ | refine o_store ?_ | refine o_not ?_ | refine o_pickt ?_ | refine o_pickf ?_ | refine o_build ?_ | refine o_eqb ?_ | refine o_lenS ?_ | refine skF ?_ | refine skU ?_
        refine cndf ?_
        repeat first | refine o_copy ?_ | refine nl ?_ | refine ct_seq ?_ | refine rg ?_ | refine ct_block ?_ | refine bq ?_ | refine o_loads ?_ | refine o_loadp ?_ | refine o_faddr ?_ | refine o_b2sR ?_ | refine o_add ?_ | refine o_cat ?_ | refine o_bin ?_ | refine o_lenq ?_ | refine o_len ?_ | refine o_loadsA ?_ | refine o_loadpA ?_ | refine o_alloc ?_ | refine o_store ?_ | refine o_not ?_ | refine o_pickt ?_ | refine o_pickf ?_ | refine o_build ?_ | refine o_eqb ?_ | refine o_lenS ?_ | refine skF ?_ | refine skU ?_
        refine cndf ?_
        repeat first | refine o_copy ?_ | refine nl ?_ | refine ct_seq ?_ | refine rg ?_ | refine ct_block ?_ | refine bq ?_ | refine o_loads ?_ | refine o_loadp ?_ | refine o_faddr ?_ | refine o_b2sR ?_ | refine o_add ?_ | refine o_cat ?_ | refine o_bin ?_ | refine o_lenq ?_ | refine o_len ?_ | refine o_loadsA ?_ | refine o_loadpA ?_ | refine o_alloc ?_ | refine o_store ?_ | refine o_not ?_ | refine o_pickt ?_ | refine o_pickf ?_ | refine o_build ?_ | refine o_eqb ?_ | refine o_lenS ?_ | refine skF ?_ | refine skU ?_
        refine cndt ?_
        repeat first | refine o_copy ?_ | refine nl ?_ | refine ct_seq ?_ | refine rg ?_ | refine ct_block ?_ | refine bq ?_ | refine o_loads ?_ | refine o_loadp ?_ | refine o_faddr ?_ | refine o_b2sR ?_ | refine o_add ?_ | refine o_cat ?_ | refine o_bin ?_ | refine o_lenq ?_ | refine o_len ?_ | refine o_loadsA ?_ | refine o_loadpA ?_ | refine o_alloc ?_ | refine o_store ?_ | refine o_not ?_ | refine o_pickt ?_ | refine o_pickf ?_ | refine o_build ?_ | refine o_eqb ?_ | refine o_lenS ?_ | refine skF ?_ | refine skU ?_
        exact ⟨(), trivial, goesE⟩
    · have g1 : (((k % 4 : Nat) : Int) == 0) = false := by rw [h]; rfl
      have g2 : (((k % 4 : Nat) : Int) == 1) = false := by rw [h]; rfl
      have g3 : (((k % 4 : Nat) : Int) == 2) = false := by rw [h]; rfl
      rw [ref3 h]
      have hcw : IntKind.i64.wrap ((k / 4 % 4 : Nat) : Int) = ((k / 4 % 4 : Nat) : Int) := wrap64 (by omega) (by omega)
      generalize k / 4 % 4 = c at m2 hc4 hcw ⊢
      have e : rightL ⟨7, List.replicate (199 + c) 0, 0, 60000, false⟩ = decide ((((List.replicate (199 + c) (0 : UInt8)).length : Nat) : Int) ≤ 200) := by
        unfold rightL
        rw [List.length_replicate]
        simp
        omega
      rw [e]
      have hbb : ((blkV 1 ((List.replicate (199 + c) (0 : UInt8)).map encB)).els.drop 0).take (199 + c) = (List.replicate (199 + c) (0 : UInt8)).map encB := by simp [blkV]
      have e2 : (199 : Int) + ((c : Nat) : Int) = ((199 + c : Nat) : Int) := by omega
      repeat first | refine o_copy ?_ | refine nl ?_ | refine ct_seq ?_ | refine rg ?_ | refine ct_block ?_ | refine bq ?_ | refine o_rem ?_ | refine o_loads ?_ | refine o_loadp ?_ | refine o_faddr ?_ | refine o_b2sR ?_ | refine o_add ?_ | refine o_cat ?_ | refine o_bin ?_ | refine o_lenq ?_ | refine o_len ?_ | refine o_loadsA ?_ | refine o_loadpA ?_ | refine o_alloc ?_ | refine o_store ?_ | refine o_not ?_ | refine o_pickt ?_ | refine o_pickf ?_ | refine o_build ?_ | refine o_eqb ?_ | refine o_lenS ?_ | refine skF ?_ | refine skU ?_
      refine cndf ?_
      repeat first | refine o_copy ?_ | refine nl ?_ | refine ct_seq ?_ | refine rg ?_ | refine ct_block ?_ | refine bq ?_ | refine o_loads ?_ | refine o_loadp ?_ | refine o_faddr ?_ | refine o_b2sR ?_ | refine o_add ?_ | refine o_cat ?_ | refine o_bin ?_ | refine o_lenq ?_ | refine o_len ?_ | refine o_loadsA ?_ | refine o_loadpA ?_ | refine o_alloc ?_ | refine o_store ?_ | refine o_not ?_ | refine o_pickt ?_ | refine o_pickf ?_ | refine o_build ?_ | refine o_eqb ?_ | refine o_lenS ?_ | refine skF ?_ | refine skU ?_
      refine cndf ?_
      repeat first | refine o_copy ?_ | refine nl ?_ | refine ct_seq ?_ | refine rg ?_ | refine ct_block ?_ | refine bq ?_ | refine o_loads ?_ | refine o_loadp ?_ | refine o_faddr ?_ | refine o_b2sR ?_ | refine o_add ?_ | refine o_cat ?_ | refine o_bin ?_ | refine o_lenq ?_ | refine o_len ?_ | refine o_loadsA ?_ | refine o_loadpA ?_ | refine o_alloc ?_ | refine o_store ?_ | refine o_not ?_ | refine o_pickt ?_ | refine o_pickf ?_ | refine o_build ?_ | refine o_eqb ?_ | refine o_lenS ?_ | refine skF ?_ | refine skU ?_
      refine cndf ?_
      repeat first | refine o_copy ?_ | refine nl ?_ | refine ct_seq ?_ | refine rg ?_ | refine ct_block ?_ | refine bq ?_ | refine o_convE ?_ | refine o_binE hq ?_ | refine o_rem ?_ | refine o_addE ?_ | refine o_v (vmkm (enc := encB) (z := [.int .u8 0]) (n := 199 + c) (List.replicate (199 + c) 0) (by simp [encB])) ?_ | refine o_b2sO hbb ?_ | refine o_loads ?_ | refine o_loadp ?_ | refine o_faddr ?_ | refine o_b2sR ?_ | refine o_add ?_ | refine o_cat ?_ | refine o_bin ?_ | refine o_lenq ?_ | refine o_len ?_ | refine o_loadsA ?_ | refine o_loadpA ?_ | refine o_alloc ?_ | refine o_store ?_ | refine o_not ?_ | refine o_pickt ?_ | refine o_pickf ?_ | refine o_build ?_ | refine o_eqb ?_ | refine o_lenS ?_ | refine skF ?_ | refine skU ?_
      exact ⟨(), trivial, goesE⟩
  intro _ _
  generalize refX k m = x at hpath ⊢
  have hT := htake_vc (l := s) (by omega) x
  have hA := allows_vc (l := s) (by omega) (by omega) x
  have q1 := rsame_vc (a := s) (b := s) (by omega) (by omega) (by omega) (by omega)
  rw [decide_eq_true rfl] at q1
  have hD := hdrop_vc (l := s) (by omega) zLk
  rw [gone_drop hS] at hD
  dsimp only [encGr, encG] at hD
  have hst := RefP.start hS
  have hcl : (s.held.map encL).length + (s.waits.map encL).length = s.held.length + s.waits.length := by rw [List.length_map, List.length_map]
  have e0 : ((s.held.map encL).length : Int) + ((s.waits.map encL).length : Int) = ((s.held.length + s.waits.length : Nat) : Int) := by omega
  have tailc : ∀ (S : LocksL), RefP S 32 → VC Try.prog 15 [.agg (encLs S), .agg (encL (wL 40))] [] (.agg [.sh false (S.held.map encL), .sh false (S.waits.map encL), .bool false, .int .i64 322]) [] ∧
      VC Try.prog 15 [.agg (encLs S), .agg (encL ⟨8, [119], 41, 41, false⟩)] [] (.agg [.sh false (S.held.map encL), .sh false (S.waits.map encL), .bool false, .int .i64 1]) [] ∧
      VC Try.prog 19 [.agg (encLs S), .agg (encLs S)] [] (.bool true) [] := by
    intro S hS
    have hn := hS.n
    refine ⟨?_, ?_, ?_⟩
    · have h := htake_vc (l := S) (by omega) (wL 40)
      rw [show ptakeL S (wL 40) = (S, false, 322) from take_full (w_right (i := 40) (by omega)) hn] at h
      exact h
    · have h := htake_vc (l := S) (by omega) ⟨8, [119], 41, 41, false⟩
      rw [show ptakeL S ⟨8, [119], 41, 41, false⟩ = (S, false, 1) from take_bad rfl] at h
      exact h
    · have h := rsame_vc (a := S) (b := S) (by omega) (by omega) (by omega) (by omega)
      rw [decide_eq_true rfl] at h
      exact h
  have hcase : (rightL x = true ∧ ptakeL s x = (⟨s.held ++ [x], s.waits⟩, true, 0) ∧ allowsL s x = true) ∨ (rightL x = false ∧ ptakeL s x = (s, false, 1) ∧ allowsL s x = false) := by
    cases hx : rightL x with
    | true =>
      have ha := refP_allows (S := s) (fun y hy => .inl (hS.p y hy)) hpath hx (.inl hS.p)
      exact .inl ⟨rfl, take_ok hx (by omega) ha, ha⟩
    | false => exact .inr ⟨rfl, take_bad hx, allows_bad hx⟩
  generalize ptakeL s x = T at hT hcase
  obtain ⟨TL, tb, te⟩ := T
  dsimp only [encT] at hT
  generalize allowsL s x = al at hA hcase
  generalize rightL x = rx at hcase ⊢
  refine ct_seq (rg ?_)
  repeat first | refine o_copy ?_ | refine cf hT ?_ | refine o_loads ?_ | refine o_loadp ?_ | refine o_faddr ?_ | refine o_b2sR ?_ | refine o_add ?_ | refine o_cat ?_ | refine o_bin ?_ | refine o_lenq ?_ | refine o_len ?_ | refine o_loadsA ?_ | refine o_loadpA ?_ | refine o_alloc ?_ | refine o_store ?_ | refine o_not ?_ | refine o_pickt ?_ | refine o_pickf ?_ | refine o_build ?_ | refine o_eqb ?_ | refine o_lenS ?_ | refine skF ?_ | refine skU ?_
  refine nl ?_
  refine ct_mid (lvl := 1) (fun (_ : Unit) => [(7, .bool true), (8, .ptr ⟨1, 16400⟩ 1 0 0)]) (fun _ => [(⟨1, 16400⟩, ⟨true, false, 2, [encLs s]⟩)]) (fun _ => True) ?_ ?_
  · rcases hcase with ⟨rfl, e, rfl⟩ | ⟨rfl, e, rfl⟩ <;> cases e
    · repeat first | refine o_copy ?_ | refine nl ?_ | refine ct_seq ?_ | refine rg ?_ | refine ct_block ?_ | refine bq ?_ | refine cv0 hA ?_ | refine o_loads ?_ | refine o_loadp ?_ | refine o_faddr ?_ | refine o_b2sR ?_ | refine o_add ?_ | refine o_cat ?_ | refine o_bin ?_ | refine o_lenq ?_ | refine o_len ?_ | refine o_loadsA ?_ | refine o_loadpA ?_ | refine o_alloc ?_ | refine o_store ?_ | refine o_not ?_ | refine o_pickt ?_ | refine o_pickf ?_ | refine o_build ?_ | refine o_eqb ?_ | refine o_lenS ?_ | refine skF ?_ | refine skU ?_
      refine cndf (ct_skip ?_)
      exact ⟨(), trivial, goesE⟩
    · repeat first | refine o_copy ?_ | refine nl ?_ | refine ct_seq ?_ | refine rg ?_ | refine ct_block ?_ | refine bq ?_ | refine cv0 q1 ?_ | refine cv0 hA ?_ | refine o_loads ?_ | refine o_loadp ?_ | refine o_faddr ?_ | refine o_b2sR ?_ | refine o_add ?_ | refine o_cat ?_ | refine o_bin ?_ | refine o_lenq ?_ | refine o_len ?_ | refine o_loadsA ?_ | refine o_loadpA ?_ | refine o_alloc ?_ | refine o_store ?_ | refine o_not ?_ | refine o_pickt ?_ | refine o_pickf ?_ | refine o_build ?_ | refine o_eqb ?_ | refine o_lenS ?_ | refine skF ?_ | refine skU ?_
      refine cndf (ct_skip ?_)
      exact ⟨(), trivial, goesE⟩
  intro _ _
  repeat first | refine o_copy ?_ | refine nl ?_ | refine ct_seq ?_ | refine rg ?_ | refine ct_block ?_ | refine bq ?_ | refine cf hD ?_ | refine o_loads ?_ | refine o_loadp ?_ | refine o_faddr ?_ | refine o_b2sR ?_ | refine o_add ?_ | refine o_cat ?_ | refine o_bin ?_ | refine o_lenq ?_ | refine o_len ?_ | refine o_loadsA ?_ | refine o_loadpA ?_ | refine o_alloc ?_ | refine o_store ?_ | refine o_not ?_ | refine o_pickt ?_ | refine o_pickf ?_ | refine o_build ?_ | refine o_eqb ?_ | refine o_lenS ?_ | refine skF ?_ | refine skU ?_
  refine ct_loopG (fun (g : Nat × LocksL) => [(7, .bool true), (8, .ptr ⟨1, 16400⟩ 1 0 0), (13, .ptr ⟨1, 163864⟩ 1 0 0), (14, .int .i64 g.1)]) (fun g => [(⟨1, 16400⟩, ⟨true, false, 2, [encLs g.2]⟩), (⟨1, 163864⟩, ⟨true, false, 4, [encG s.held s.waits [] 330]⟩)]) (fun g => 32 - g.1)
    (fun g => RefP g.2 g.1 ∧ g.1 ≤ 32) (s.held.length + s.waits.length, s) (by rw [← e0]; exact goesE) ⟨hst, by simp only; omega⟩ ?_
  rintro ⟨i, S⟩ ⟨hP, hi⟩
  dsimp only at hP hi ⊢
  repeat first | refine o_copy ?_ | refine nl ?_ | refine ct_seq ?_ | refine rg ?_ | refine ct_block ?_ | refine bq ?_ | refine o_loads ?_ | refine o_loadp ?_ | refine o_faddr ?_ | refine o_b2sR ?_ | refine o_add ?_ | refine o_cat ?_ | refine o_bin ?_ | refine o_lenq ?_ | refine o_len ?_ | refine o_loadsA ?_ | refine o_loadpA ?_ | refine o_alloc ?_ | refine o_store ?_ | refine o_not ?_ | refine o_pickt ?_ | refine o_pickf ?_ | refine o_build ?_ | refine o_eqb ?_ | refine o_lenS ?_ | refine skF ?_ | refine skU ?_
  refine cnd (fun hh => ct_skip ?_) (fun hh => ct_exit ?_)
  · have hlt : i < 32 := by have h' := of_decide_eq_true hh; omega
    have hn := hP.n
    obtain ⟨e1, e2⟩ := hP.step hlt
    have ht := htake_vc (l := S) (by omega) (wL i)
    rw [show ptakeL S (wL i) = _ from e1] at ht
    dsimp only [encT] at ht
    repeat first | refine o_copy ?_ | refine nl ?_ | refine ct_seq ?_ | refine rg ?_ | refine ct_block ?_ | refine bq ?_ | refine cf ht ?_ | refine o_loads ?_ | refine o_loadp ?_ | refine o_faddr ?_ | refine o_b2sR ?_ | refine o_add ?_ | refine o_cat ?_ | refine o_bin ?_ | refine o_lenq ?_ | refine o_len ?_ | refine o_loadsA ?_ | refine o_loadpA ?_ | refine o_alloc ?_ | refine o_store ?_ | refine o_not ?_ | refine o_pickt ?_ | refine o_pickf ?_ | refine o_build ?_ | refine o_eqb ?_ | refine o_lenS ?_ | refine skF ?_ | refine skU ?_
    refine cndf (ct_skip ?_)
    repeat first | refine o_copy ?_ | refine nl ?_ | refine ct_seq ?_ | refine rg ?_ | refine ct_block ?_ | refine bq ?_ | refine o_loads ?_ | refine o_loadp ?_ | refine o_faddr ?_ | refine o_b2sR ?_ | refine o_add ?_ | refine o_cat ?_ | refine o_bin ?_ | refine o_lenq ?_ | refine o_len ?_ | refine o_loadsA ?_ | refine o_loadpA ?_ | refine o_alloc ?_ | refine o_store ?_ | refine o_not ?_ | refine o_pickt ?_ | refine o_pickf ?_ | refine o_build ?_ | refine o_eqb ?_ | refine o_lenS ?_ | refine skF ?_ | refine skU ?_
    exact agn (Q := fun _ _ => True) (i + 1, ⟨S.held ++ [wL i], S.waits⟩) ⟨e2, hlt⟩ goesE
  have he : i = 32 := by have h' := of_decide_eq_false hh; omega
  subst he
  obtain ⟨v1, v2, v3⟩ := tailc S hP
  repeat first | refine o_copy ?_ | refine nl ?_ | refine ct_seq ?_ | refine rg ?_ | refine ct_block ?_ | refine bq ?_ | refine cf v1 ?_ | refine cf v2 ?_ | refine cv0 v3 ?_ | refine o_loads ?_ | refine o_loadp ?_ | refine o_faddr ?_ | refine o_b2sR ?_ | refine o_add ?_ | refine o_cat ?_ | refine o_bin ?_ | refine o_lenq ?_ | refine o_len ?_ | refine o_loadsA ?_ | refine o_loadpA ?_ | refine o_alloc ?_ | refine o_store ?_ | refine o_not ?_ | refine o_pickt ?_ | refine o_pickf ?_ | refine o_build ?_ | refine o_eqb ?_ | refine o_lenS ?_ | refine skF ?_ | refine skU ?_
  exact ct_ret ⟨.inr rfl, oB rfl⟩
theorem lockRefuses_in (l : List (List PV)) (il : InTy (.sl [.int .u8, .int .u8, .int .u8, .int .u8, .int .u8]) (.sh false l)) (m : Int) (hm : (Lit.int .i32 m).wf = true) (b : Int) (hb : (Lit.int .u8 b).wf = true) : VC Try.prog 6 [.sh false l, .int .i32 m, .int .u8 b] [] (.bool true) [] := by
  obtain ⟨rs, rfl, h1, h2⟩ := decRs il
  obtain ⟨n, rfl, hn⟩ := wfU8 hb
  obtain ⟨w1, w2⟩ := wfI32 hm
  exact refuses_law_vc h2 h1 w1 w2 hn
end Go.Proofs
