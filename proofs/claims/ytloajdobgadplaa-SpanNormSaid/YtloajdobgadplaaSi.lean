/- Si -/
import Derived.Test.YtloajdobgadplaaSa
import Derived.Test.YtloajdobgadplaaSg
import Derived.Test.YtloajdobgadplaaSh
open Go.V Go.Pu
set_option linter.unusedVariables false
set_option linter.unusedSimpArgs false
set_option maxRecDepth 20000
namespace Go.Proofs
/-- downspout/downspoutlaw02.SpanNorm -/
def vc7 : VCode :=
 (.seq
 (.region 0 false [
 ⟨(some 4), .copy (.c (.bool false)), none, 0, []⟩])
 (.seq
 (.region 1 false [
 ⟨(some 13), .call (.c (.fn 11 [])) [], none, 8192, []⟩,
 ⟨(some 5), .copy (.t 13), none, 8200, [0]⟩])
 (.seq
 (.seq
 (.region 2 false [
 ⟨(some 14), .copy (.t 0), none, 16384, []⟩,
 ⟨(some 15), .call (.c (.fn 12 [])) [(.t 14), (.c (.int .i64 8))], none, 16392, [0]⟩,
 ⟨(some 16), .not (.t 15), none, 16400, [1, 0]⟩])
 (.cond (.t 16)
 (.seq
 (.region 3 false [
 ⟨(some 17), .copy (.t 5), none, 24576, []⟩,
 ⟨(some 4), .copy (.t 17), none, 24584, [0]⟩])
 .ret)
 .skip))
 (.seq
 (.region 4 false [
 ⟨(some 18), .copy (.t 0), none, 32768, []⟩,
 ⟨(some 19), .call (.c (.fn 32 [])) [(.t 18)], none, 32776, [0]⟩,
 ⟨(some 20), .copy (.t 0), none, 32784, []⟩,
 ⟨(some 21), .call (.c (.fn 36 [])) [(.t 20)], none, 32792, [2, 1, 0]⟩,
 ⟨(some 6), .copy (.t 19), none, 32800, [1, 0, 3, 2]⟩,
 ⟨(some 7), .copy (.t 21), none, 32808, [3, 2, 1, 0, 4]⟩])
 (.seq
 (.seq
 (.region 5 false [
 ⟨(some 22), .copy (.t 6), none, 40960, []⟩,
 ⟨(some 23), .len (.t 22), none, 40968, [0]⟩,
 ⟨(some 24), .copy (.t 0), none, 40976, []⟩,
 ⟨(some 25), .len (.t 24), none, 40984, [2]⟩,
 ⟨(some 26), .bin .gtr (.t 23) (.t 25), none, 40992, [1, 0, 3, 2]⟩])
 (.cond (.t 26)
 (.seq
 (.region 6 false [
 ⟨(some 4), .copy (.c (.bool false)), none, 49152, []⟩])
 .ret)
 .skip))
 (.seq
 (.seq
 (.region 7 false [
 ⟨(some 8), .copy (.c (.int .i64 0)), none, 57344, []⟩])
 (.block 0
 (.loop
 (.seq
 (.seq
 (.region 8 false [
 ⟨(some 27), .copy (.t 8), none, 65536, []⟩,
 ⟨(some 28), .copy (.t 7), none, 65544, []⟩,
 ⟨(some 29), .len (.t 28), none, 65552, [1]⟩,
 ⟨(some 30), .bin .lss (.t 27) (.t 29), none, 65560, [0, 2, 1]⟩])
 (.cond (.t 30)
 .skip
 (.exit 0)))
 (.seq
 (.block 1
 (.seq
 (.region 10 true [
 ⟨(some 33), .copy (.t 6), none, 81920, []⟩,
 ⟨(some 34), .copy (.t 7), none, 81928, []⟩,
 ⟨(some 35), .copy (.t 8), none, 81936, []⟩,
 ⟨(some 36), .iaddr 1 (.t 34) (.t 35), none, 81944, [1, 2]⟩,
 ⟨(some 37), .load false 1 (.t 36), none, 81952, [3, 1, 2]⟩,
 ⟨(some 38), .call (.c (.fn 38 [])) [(.t 33), (.t 37)], none, 81960, [0, 4, 3, 1, 2]⟩,
 ⟨(some 39), .copy (.t 0), none, 81968, []⟩,
 ⟨(some 40), .copy (.t 7), none, 81976, []⟩,
 ⟨(some 41), .copy (.t 8), none, 81984, []⟩,
 ⟨(some 42), .iaddr 1 (.t 40) (.t 41), none, 81992, [7, 8]⟩,
 ⟨(some 43), .load false 1 (.t 42), none, 82000, [9, 7, 8]⟩,
 ⟨(some 44), .call (.c (.fn 38 [])) [(.t 39), (.t 43)], none, 82008, [6, 10, 9, 7, 8, 5, 0, 4, 3, 1, 2]⟩,
 ⟨(some 45), .eqb true (.t 38) (.t 44), none, 82016, [5, 0, 4, 3, 1, 2, 11, 6, 10, 9, 7, 8]⟩])
 (.cond (.t 45)
 (.seq
 (.region 11 false [
 ⟨(some 4), .copy (.c (.bool false)), none, 90112, []⟩])
 .ret)
 .skip)))
 (.region 9 false [
 ⟨(some 31), .copy (.t 8), none, 73728, []⟩,
 ⟨(some 32), .bin .add (.t 31) (.c (.int .i64 1)), none, 73736, [0]⟩,
 ⟨(some 8), .copy (.t 32), none, 73744, [1, 0]⟩]))))))
 (.seq
 (.seq
 (.region 12 false [
 ⟨(some 9), .copy (.c (.int .i64 0)), none, 98304, []⟩])
 (.block 2
 (.loop
 (.seq
 (.seq
 (.region 13 false [
 ⟨(some 46), .copy (.t 9), none, 106496, []⟩,
 ⟨(some 47), .copy (.t 6), none, 106504, []⟩,
 ⟨(some 48), .len (.t 47), none, 106512, [1]⟩,
 ⟨(some 49), .bin .lss (.t 46) (.t 48), none, 106520, [0, 2, 1]⟩])
 (.cond (.t 49)
 .skip
 (.exit 2)))
 (.seq
 (.block 3
 (.seq
 (.region 15 true [
 ⟨(some 52), .copy (.t 6), none, 122880, []⟩,
 ⟨(some 53), .copy (.t 9), none, 122888, []⟩,
 ⟨(some 54), .iaddr 2 (.t 52) (.t 53), none, 122896, [0, 1]⟩,
 ⟨(some 55), .load true 2 (.t 54), none, 122904, [2, 0, 1]⟩,
 ⟨(some 56), .call (.c (.fn 24 [])) [(.t 55)], none, 122912, [3, 2, 0, 1]⟩,
 ⟨(some 57), .copy (.t 56), none, 122920, [4, 3, 2, 0, 1]⟩,
 ⟨(some 58), .copy (.t 9), (some (5, 57, false)), 122928, [5, 4, 3, 2, 0, 1]⟩,
 ⟨(some 59), .bin .gtr (.t 58) (.c (.int .i64 0)), (some (5, 57, false)), 122936, [6, 5, 4, 3, 2, 0, 1]⟩,
 ⟨(some 60), .copy (.t 59), (some (5, 57, false)), 122944, [7, 6, 5, 4, 3, 2, 0, 1]⟩,
 ⟨(some 61), .copy (.t 6), (some (8, 60, true)), 122952, [8, 7, 6, 5, 4, 3, 2, 0, 1]⟩,
 ⟨(some 62), .copy (.t 9), (some (8, 60, true)), 122960, [8, 7, 6, 5, 4, 3, 2, 0, 1]⟩,
 ⟨(some 63), .bin .sub (.t 62) (.c (.int .i64 1)), (some (8, 60, true)), 122968, [10, 8, 7, 6, 5, 4, 3, 2, 0, 1]⟩,
 ⟨(some 64), .iaddr 2 (.t 61) (.t 63), (some (8, 60, true)), 122976, [9, 8, 7, 6, 5, 4, 3, 2, 0, 1, 11, 10]⟩,
 ⟨(some 65), .faddr 1 (.t 64), (some (8, 60, true)), 122984, [12, 9, 8, 7, 6, 5, 4, 3, 2, 0, 1, 11, 10]⟩,
 ⟨(some 66), .load false 1 (.t 65), (some (8, 60, true)), 122992, [13, 12, 9, 8, 7, 6, 5, 4, 3, 2, 0, 1, 11, 10]⟩,
 ⟨(some 67), .bin .eql (.t 66) (.c (.str [])), (some (8, 60, true)), 123000, [14, 13, 12, 9, 8, 7, 6, 5, 4, 3, 2, 0, 1, 11, 10]⟩,
 ⟨(some 68), .copy (.t 67), (some (8, 60, true)), 123008, [15, 14, 13, 12, 9, 8, 7, 6, 5, 4, 3, 2, 0, 1, 11, 10]⟩,
 ⟨(some 69), .copy (.t 6), (some (16, 68, false)), 123016, [16, 15, 14, 13, 12, 9, 8, 7, 6, 5, 4, 3, 2, 0, 1, 11, 10]⟩,
 ⟨(some 70), .copy (.t 9), (some (16, 68, false)), 123024, [16, 15, 14, 13, 12, 9, 8, 7, 6, 5, 4, 3, 2, 0, 1, 11, 10]⟩,
 ⟨(some 71), .bin .sub (.t 70) (.c (.int .i64 1)), (some (16, 68, false)), 123032, [18, 16, 15, 14, 13, 12, 9, 8, 7, 6, 5, 4, 3, 2, 0, 1, 11, 10]⟩,
 ⟨(some 72), .iaddr 2 (.t 69) (.t 71), (some (16, 68, false)), 123040, [17, 16, 15, 14, 13, 12, 9, 8, 7, 6, 5, 4, 3, 2, 0, 1, 11, 10, 19, 18]⟩,
 ⟨(some 73), .faddr 1 (.t 72), (some (16, 68, false)), 123048, [20, 17, 16, 15, 14, 13, 12, 9, 8, 7, 6, 5, 4, 3, 2, 0, 1, 11, 10, 19, 18]⟩,
 ⟨(some 74), .load false 1 (.t 73), (some (16, 68, false)), 123056, [21, 20, 17, 16, 15, 14, 13, 12, 9, 8, 7, 6, 5, 4, 3, 2, 0, 1, 11, 10, 19, 18]⟩,
 ⟨(some 75), .copy (.t 6), (some (16, 68, false)), 123064, [16, 15, 14, 13, 12, 9, 8, 7, 6, 5, 4, 3, 2, 0, 1, 11, 10]⟩,
 ⟨(some 76), .copy (.t 9), (some (16, 68, false)), 123072, [16, 15, 14, 13, 12, 9, 8, 7, 6, 5, 4, 3, 2, 0, 1, 11, 10]⟩,
 ⟨(some 77), .iaddr 2 (.t 75) (.t 76), (some (16, 68, false)), 123080, [23, 16, 15, 14, 13, 12, 9, 8, 7, 6, 5, 4, 3, 2, 0, 1, 11, 10, 24]⟩,
 ⟨(some 78), .faddr 0 (.t 77), (some (16, 68, false)), 123088, [25, 23, 16, 15, 14, 13, 12, 9, 8, 7, 6, 5, 4, 3, 2, 0, 1, 11, 10, 24]⟩,
 ⟨(some 79), .load false 1 (.t 78), (some (16, 68, false)), 123096, [26, 25, 23, 16, 15, 14, 13, 12, 9, 8, 7, 6, 5, 4, 3, 2, 0, 1, 11, 10, 24]⟩,
 ⟨(some 80), .bin .geq (.t 74) (.t 79), (some (16, 68, false)), 123104, [22, 21, 20, 17, 16, 15, 14, 13, 12, 9, 8, 7, 6, 5, 4, 3, 2, 0, 1, 11, 10, 19, 18, 27, 26, 25, 23, 24]⟩,
 ⟨(some 81), .pick (.t 68) (.c (.bool true)) (.t 80), (some (8, 60, true)), 123112, [16, 15, 14, 13, 12, 9, 8, 7, 6, 5, 4, 3, 2, 0, 1, 11, 10, 28, 22, 21, 20, 17, 19, 18, 27, 26, 25, 23, 24]⟩,
 ⟨(some 82), .pick (.t 60) (.t 81) (.c (.bool false)), (some (5, 57, false)), 123120, [8, 7, 6, 5, 4, 3, 2, 0, 1, 29, 16, 15, 14, 13, 12, 9, 11, 10, 28, 22, 21, 20, 17, 19, 18, 27, 26, 25, 23, 24]⟩,
 ⟨(some 83), .pick (.t 57) (.c (.bool true)) (.t 82), none, 123128, [5, 4, 3, 2, 0, 1, 30, 8, 7, 6, 29, 16, 15, 14, 13, 12, 9, 11, 10, 28, 22, 21, 20, 17, 19, 18, 27, 26, 25, 23, 24]⟩])
 (.cond (.t 83)
 (.seq
 (.region 16 false [
 ⟨(some 4), .copy (.c (.bool false)), none, 131072, []⟩])
 .ret)
 .skip)))
 (.region 14 false [
 ⟨(some 50), .copy (.t 9), none, 114688, []⟩,
 ⟨(some 51), .bin .add (.t 50) (.c (.int .i64 1)), none, 114696, [0]⟩,
 ⟨(some 9), .copy (.t 51), none, 114704, [1, 0]⟩]))))))
 (.seq
 (.region 17 false [
 ⟨(some 84), .bslice 2 [(.str []), (.str [])] 0 [], none, 139264, []⟩,
 ⟨(some 10), .copy (.t 84), none, 139272, [0]⟩])
 (.seq
 (.seq
 (.region 18 false [
 ⟨(some 11), .copy (.c (.int .i64 0)), none, 147456, []⟩])
 (.block 4
 (.loop
 (.seq
 (.seq
 (.region 19 false [
 ⟨(some 85), .copy (.t 11), none, 155648, []⟩,
 ⟨(some 86), .copy (.t 0), none, 155656, []⟩,
 ⟨(some 87), .len (.t 86), none, 155664, [1]⟩,
 ⟨(some 88), .bin .lss (.t 85) (.t 87), none, 155672, [0, 2, 1]⟩])
 (.cond (.t 88)
 .skip
 (.exit 4)))
 (.seq
 (.block 5
 (.region 21 false [
 ⟨(some 91), .copy (.t 10), none, 172032, []⟩,
 ⟨(some 92), .copy (.t 0), none, 172040, []⟩,
 ⟨(some 93), .copy (.t 11), none, 172048, []⟩,
 ⟨(some 94), .copy (.t 1), none, 172056, []⟩,
 ⟨(some 95), .conv .i64 (.t 94), none, 172064, [3]⟩,
 ⟨(some 96), .bin .add (.t 93) (.t 95), none, 172072, [2, 4, 3]⟩,
 ⟨(some 97), .copy (.t 0), none, 172080, []⟩,
 ⟨(some 98), .len (.t 97), none, 172088, [6]⟩,
 ⟨(some 99), .bin .rem (.t 96) (.t 98), none, 172096, [5, 2, 4, 3, 7, 6]⟩,
 ⟨(some 100), .iaddr 2 (.t 92) (.t 99), none, 172104, [1, 8, 5, 2, 4, 3, 7, 6]⟩,
 ⟨(some 101), .load true 2 (.t 100), none, 172112, [9, 1, 8, 5, 2, 4, 3, 7, 6]⟩,
 ⟨(some 102), .bslice 2 [(.str []), (.str [])] 1 [(0, (.t 101))], none, 172120, [10, 9, 1, 8, 5, 2, 4, 3, 7, 6]⟩,
 ⟨(some 103), .append 2 32 [(.str []), (.str [])] (.t 91) (.t 102), none, 172128, [0, 11, 10, 9, 1, 8, 5, 2, 4, 3, 7, 6]⟩,
 ⟨(some 10), .copy (.t 103), none, 172136, [12, 0, 11, 10, 9, 1, 8, 5, 2, 4, 3, 7, 6]⟩]))
 (.region 20 false [
 ⟨(some 89), .copy (.t 11), none, 163840, []⟩,
 ⟨(some 90), .bin .add (.t 89) (.c (.int .i64 1)), none, 163848, [0]⟩,
 ⟨(some 11), .copy (.t 90), none, 163856, [1, 0]⟩]))))))
 (.seq
 (.seq
 (.region 22 false [
 ⟨(some 12), .copy (.c (.int .i64 0)), none, 180224, []⟩])
 (.block 6
 (.loop
 (.seq
 (.seq
 (.region 23 false [
 ⟨(some 104), .copy (.t 12), none, 188416, []⟩,
 ⟨(some 105), .bin .add (.t 104) (.c (.int .i64 1)), none, 188424, [0]⟩,
 ⟨(some 106), .copy (.t 10), none, 188432, []⟩,
 ⟨(some 107), .len (.t 106), none, 188440, [2]⟩,
 ⟨(some 108), .bin .lss (.t 105) (.t 107), none, 188448, [1, 0, 3, 2]⟩])
 (.cond (.t 108)
 .skip
 (.exit 6)))
 (.seq
 (.block 7
 (.region 25 true [
 ⟨(some 111), .copy (.t 10), none, 204800, []⟩,
 ⟨(some 112), .copy (.t 12), none, 204808, []⟩,
 ⟨(some 113), .copy (.t 10), none, 204816, []⟩,
 ⟨(some 114), .copy (.t 12), none, 204824, []⟩,
 ⟨(some 115), .bin .add (.t 114) (.c (.int .i64 1)), none, 204832, [3]⟩,
 ⟨(some 116), .copy (.t 10), none, 204840, []⟩,
 ⟨(some 117), .copy (.t 12), none, 204848, []⟩,
 ⟨(some 118), .bin .add (.t 117) (.c (.int .i64 1)), none, 204856, [6]⟩,
 ⟨(some 119), .iaddr 2 (.t 116) (.t 118), none, 204864, [5, 7, 6]⟩,
 ⟨(some 120), .load true 2 (.t 119), none, 204872, [8, 5, 7, 6]⟩,
 ⟨(some 121), .copy (.t 10), none, 204880, []⟩,
 ⟨(some 122), .copy (.t 12), none, 204888, []⟩,
 ⟨(some 123), .iaddr 2 (.t 121) (.t 122), none, 204896, [10, 11]⟩,
 ⟨(some 124), .load true 2 (.t 123), none, 204904, [12, 10, 11]⟩,
 ⟨(some 125), .iaddr 2 (.t 111) (.t 112), none, 204912, [0, 1, 5, 6, 7, 8, 9, 13, 12, 10, 11]⟩,
 ⟨none, .store 2 (.t 125) (.t 120), none, 204920, [14, 0, 1, 5, 6, 7, 8, 9, 13, 12, 10, 11]⟩,
 ⟨(some 126), .iaddr 2 (.t 113) (.t 115), none, 204928, [2, 4, 3, 0, 1, 5, 6, 7, 8, 9, 10, 11, 12, 13, 14, 15]⟩,
 ⟨none, .store 2 (.t 126) (.t 124), none, 204936, [16, 2, 4, 3, 0, 1, 5, 6, 7, 8, 9, 10, 11, 12, 13, 14, 15]⟩]))
 (.region 24 false [
 ⟨(some 109), .copy (.t 12), none, 196608, []⟩,
 ⟨(some 110), .bin .add (.t 109) (.c (.int .i64 2)), none, 196616, [0]⟩,
 ⟨(some 12), .copy (.t 110), none, 196624, [1, 0]⟩]))))))
 (.seq
 (.region 26 false [
 ⟨(some 127), .copy (.t 10), none, 212992, []⟩,
 ⟨(some 128), .call (.c (.fn 32 [])) [(.t 127)], none, 213000, [0]⟩,
 ⟨(some 129), .copy (.t 6), none, 213008, []⟩,
 ⟨(some 130), .call (.c (.fn 29 [])) [(.t 128), (.t 129)], none, 213016, [1, 0, 2]⟩,
 ⟨(some 131), .copy (.t 130), none, 213024, [3, 1, 0, 2]⟩,
 ⟨(some 132), .copy (.t 6), (some (4, 131, true)), 213032, [4, 3, 1, 0, 2]⟩,
 ⟨(some 133), .call (.c (.fn 32 [])) [(.t 132)], (some (4, 131, true)), 213040, [5, 4, 3, 1, 0, 2]⟩,
 ⟨(some 134), .copy (.t 6), (some (4, 131, true)), 213048, [4, 3, 1, 0, 2]⟩,
 ⟨(some 135), .call (.c (.fn 29 [])) [(.t 133), (.t 134)], (some (4, 131, true)), 213056, [6, 5, 4, 3, 1, 0, 2, 7]⟩,
 ⟨(some 136), .pick (.t 131) (.t 135) (.c (.bool false)), none, 213064, [4, 3, 1, 0, 2, 8, 6, 5, 7]⟩,
 ⟨(some 137), .copy (.t 136), none, 213072, [9, 4, 3, 1, 0, 2, 8, 6, 5, 7]⟩,
 ⟨(some 138), .copy (.t 5), (some (10, 137, true)), 213080, [10, 9, 4, 3, 1, 0, 2, 8, 6, 5, 7]⟩,
 ⟨(some 139), .pick (.t 137) (.t 138) (.c (.bool false)), none, 213088, [10, 9, 4, 3, 1, 0, 2, 8, 6, 5, 7, 11]⟩,
 ⟨(some 4), .copy (.t 139), none, 213096, [12, 10, 9, 4, 3, 1, 0, 2, 8, 6, 5, 7, 11]⟩])
 .ret)))))))))))
theorem vf7 : VF Try.prog 7 = some (140, vc7, [.tmp 4]) := by kernel_rfl
/-! The law of Norm -/
theorem swap_mem {t : List SpanL} {i j : Nat} {x y : SpanL} (hij : i ≠ j) (hx : t[i]? = some x) (hy : t[j]? = some y) (s : SpanL) : s ∈ (t.set i y).set j x ↔ s ∈ t := by
  have hi := (List.getElem?_eq_some_iff.1 hx).1
  have hj := (List.getElem?_eq_some_iff.1 hy).1
  have g : ∀ k, ((t.set i y).set j x)[k]? = if j = k then some x else if i = k then some y else t[k]? := by
    intro k
    rw [List.getElem?_set, List.length_set, List.getElem?_set, if_pos hi, if_pos hj]
  constructor
  · intro h
    obtain ⟨k, hk⟩ := List.mem_iff_getElem?.1 h
    rw [g] at hk
    split at hk
    · cases hk; exact List.mem_iff_getElem?.2 ⟨i, hx⟩
    · split at hk
      · cases hk; exact List.mem_iff_getElem?.2 ⟨j, hy⟩
      · exact List.mem_iff_getElem?.2 ⟨k, hk⟩
  · intro h
    obtain ⟨k, hk⟩ := List.mem_iff_getElem?.1 h
    refine List.mem_iff_getElem?.2 ?_
    by_cases h1 : k = i
    · subst h1
      refine ⟨j, ?_⟩
      rw [g, if_pos rfl, ← hx, hk]
    · by_cases h2 : k = j
      · subst h2
        refine ⟨i, ?_⟩
        rw [g, if_neg (Ne.symm hij), if_pos rfl, ← hy, hk]
      · refine ⟨k, ?_⟩
        rw [g, if_neg (Ne.symm h2), if_neg (Ne.symm h1), hk]
theorem rot_mem {l t : List SpanL} {n : Nat} (hl : t.length = l.length) (h : ∀ j, j < l.length → t[j]? = l[(j + n) % l.length]?) (s : SpanL) : s ∈ t ↔ s ∈ l := by
  constructor
  · intro hs
    obtain ⟨k, hk⟩ := List.mem_iff_getElem?.1 hs
    have := (List.getElem?_eq_some_iff.1 hk).1
    rw [h k (by omega)] at hk
    exact List.mem_iff_getElem?.2 ⟨_, hk⟩
  · intro hs
    obtain ⟨k, hk⟩ := List.mem_iff_getElem?.1 hs
    have hkl := (List.getElem?_eq_some_iff.1 hk).1
    have hp : 0 < l.length := by omega
    have hm : n % l.length < l.length := Nat.mod_lt _ hp
    refine List.mem_iff_getElem?.2 ⟨(k + (l.length - n % l.length)) % l.length, ?_⟩
    rw [h _ (Nat.mod_lt _ hp), Nat.mod_add_mod, ← hk]
    congr 1
    have e : k + (l.length - n % l.length) + n = k + l.length * (n / l.length + 1) := by
      have := Nat.mod_add_div n l.length
      rw [Nat.mul_add, Nat.mul_one]
      omega
    rw [e, Nat.add_mul_mod_self_left, Nat.mod_eq_of_lt hkl]
set_option maxHeartbeats 2000000 in
theorem norm_law_vc {q : PV} {l : List SpanL} {n : Nat} (hn : n < 256) (hq : Sl q (l.map encS)) (hl : l.length ≤ maxLen) : VC Try.prog 7 [q, .int .u8 n] [] (.bool true) [] := by
  refine vc_of vf7 ?_ (Nat.le_of_ble_eq_true rfl) (by intro vs h; cases h)
  repeat first | refine o_copy ?_ | refine nl ?_ | refine ct_seq ?_ | refine rg ?_ | refine ct_block ?_ | refine bq ?_ | refine cv0 sanity_vc ?_ | refine cv0 (short_vc (n := 8) hq hl) ?_ | refine o_loads ?_ | refine o_loadp ?_ | refine o_faddr ?_ | refine o_iaddr ?_ | refine o_iaddrO ?_ | refine o_iaddrR ?_ | refine o_add ?_ | refine o_sub ?_ | refine o_cat ?_ | refine o_bin ?_ | refine o_lenq ?_ | refine o_len ?_ | refine o_loadsA ?_ | refine o_loadpA ?_ | refine o_bslice ?_ | refine o_store ?_ | refine o_not ?_ | refine o_pickt ?_ | refine o_pickf ?_ | refine o_eqb ?_ | refine skF ?_ | refine skU ?_
  refine cnd (fun h => ?_) (fun h => ct_skip ?_)
  · repeat first | refine o_copy ?_ | refine nl ?_ | refine ct_seq ?_ | refine rg ?_ | refine ct_block ?_ | refine bq ?_ | refine o_loads ?_ | refine o_loadp ?_ | refine o_faddr ?_ | refine o_iaddr ?_ | refine o_iaddrO ?_ | refine o_iaddrR ?_ | refine o_add ?_ | refine o_sub ?_ | refine o_cat ?_ | refine o_bin ?_ | refine o_lenq ?_ | refine o_len ?_ | refine o_loadsA ?_ | refine o_loadpA ?_ | refine o_bslice ?_ | refine o_store ?_ | refine o_not ?_ | refine o_pickt ?_ | refine o_pickf ?_ | refine o_eqb ?_ | refine skF ?_ | refine skU ?_
    exact ct_ret ⟨.inr rfl, oAny rfl⟩
  obtain ⟨h8, hs⟩ := short_all (l := l) (n := 8) (by simpa using h)
  have h1 := norm_vc hq (by omega)
  have h2 := near_vc hq (by omega) (fun s hs' => by have := hs s hs'; omega)
  have hkl := nearL_len l
  obtain ⟨hno, hin⟩ := rnorm_nrm l
  have hol := rnorm_len l
  have hany : ∀ t : List SpanL, (∀ s, s ∈ t ↔ s ∈ l) → rnormL t = rnormL l := by
    intro t ht
    refine Nrm.ext (rnorm_nrm _).1 (rnorm_nrm _).1 (fun k => ?_)
    rw [(rnorm_nrm _).2, (rnorm_nrm _).2]
    exact Bool.eq_iff_iff.2 (by rw [inL_iff, inL_iff]; exact ⟨fun ⟨s, a, b⟩ => ⟨s, (ht s).1 a, b⟩, fun ⟨s, a, b⟩ => ⟨s, (ht s).2 a, b⟩⟩)
  have hself : rnormL (rnormL l) = rnormL l := Nrm.ext (rnorm_nrm _).1 (rnorm_nrm _).1 (fun k => by rw [(rnorm_nrm (rnormL l)).2])
  generalize nearL l = ks at *
  generalize rnormL l = out at *
  have hml : (l.map encS).length = l.length := List.length_map ..
  have hmo : (out.map encS).length = out.length := List.length_map ..
  have hmk : (ks.map encT).length = ks.length := List.length_map ..
  repeat first | refine o_copy ?_ | refine nl ?_ | refine ct_seq ?_ | refine rg ?_ | refine ct_block ?_ | refine bq ?_ | refine cv h1 ?_ | refine cv h2 ?_ | refine o_loads ?_ | refine o_loadp ?_ | refine o_faddr ?_ | refine o_iaddr ?_ | refine o_iaddrO ?_ | refine o_iaddrR ?_ | refine o_add ?_ | refine o_sub ?_ | refine o_cat ?_ | refine o_bin ?_ | refine o_lenq ?_ | refine o_len ?_ | refine o_loadsA ?_ | refine o_loadpA ?_ | refine o_bslice ?_ | refine o_store ?_ | refine o_not ?_ | refine o_pickt ?_ | refine o_pickf ?_ | refine o_eqb ?_ | refine skF ?_ | refine skU ?_
  refine cndf (ct_skip ?_) rfl (decide_eq_false (by omega))
  repeat first | refine o_copy ?_ | refine nl ?_ | refine ct_seq ?_ | refine rg ?_ | refine ct_block ?_ | refine bq ?_ | refine o_loads ?_ | refine o_loadp ?_ | refine o_faddr ?_ | refine o_iaddr ?_ | refine o_iaddrO ?_ | refine o_iaddrR ?_ | refine o_add ?_ | refine o_sub ?_ | refine o_cat ?_ | refine o_bin ?_ | refine o_lenq ?_ | refine o_len ?_ | refine o_loadsA ?_ | refine o_loadpA ?_ | refine o_bslice ?_ | refine o_store ?_ | refine o_not ?_ | refine o_pickt ?_ | refine o_pickf ?_ | refine o_eqb ?_ | refine skF ?_ | refine skU ?_
  refine ct_loopG (fun (g : Nat) => [(0, q), (1, .int .u8 n), (5, .bool true), (6, ownV ⟨1, 32776⟩ (out.map encS)), (7, ownV ⟨1, 32792⟩ (ks.map encT)), (8, .int .i64 g)])
    (fun g => [(⟨1, 32776⟩, blkV 2 (out.map encS)), (⟨1, 32792⟩, blkV 1 (ks.map encT))]) (fun g => ks.length - g)
    (fun g => g ≤ ks.length) 0 goes (Nat.zero_le _) ?_
  · intro i hi
    (try dsimp only)
    repeat first | refine o_copy ?_ | refine nl ?_ | refine ct_seq ?_ | refine rg ?_ | refine ct_block ?_ | refine bq ?_ | refine o_loads ?_ | refine o_loadp ?_ | refine o_faddr ?_ | refine o_iaddr ?_ | refine o_iaddrO ?_ | refine o_iaddrR ?_ | refine o_add ?_ | refine o_sub ?_ | refine o_cat ?_ | refine o_bin ?_ | refine o_lenq ?_ | refine o_len ?_ | refine o_loadsA ?_ | refine o_loadpA ?_ | refine o_bslice ?_ | refine o_store ?_ | refine o_not ?_ | refine o_pickt ?_ | refine o_pickf ?_ | refine o_eqb ?_ | refine skF ?_ | refine skU ?_
    refine cnd (fun h => ct_skip ?_) (fun h => ct_exit ?_)
    · have hlt : i < ks.length := by have h' := of_decide_eq_true h; omega
      obtain ⟨k, hk⟩ : ∃ x, ks[i]? = some x := ⟨_, List.getElem?_eq_getElem hlt⟩
      have hke := gm (enc := encT) (n := (i : Int)) hk (by omega)
      have hki := hin k
      repeat first | refine o_copy ?_ | refine nl ?_ | refine ct_seq ?_ | refine rg ?_ | refine ct_block ?_ | refine bq ?_ | refine cv0 (in_vc (q := .sh false (out.map encS)) (l := out) k Sl.sh (by omega)) ?_ | refine cv0 (in_vc k hq hl) ?_ | refine o_loads ?_ | refine o_loadp ?_ | refine o_faddr ?_ | refine o_iaddr ?_ | refine o_iaddrO ?_ | refine o_iaddrR ?_ | refine o_add ?_ | refine o_sub ?_ | refine o_cat ?_ | refine o_bin ?_ | refine o_lenq ?_ | refine o_len ?_ | refine o_loadsA ?_ | refine o_loadpA ?_ | refine o_bslice ?_ | refine o_store ?_ | refine o_not ?_ | refine o_pickt ?_ | refine o_pickf ?_ | refine o_eqb ?_ | refine skF ?_ | refine skU ?_
      refine cndf (ct_skip ?_) rfl (by simp [hki])
      repeat first | refine o_copy ?_ | refine nl ?_ | refine ct_seq ?_ | refine rg ?_ | refine ct_block ?_ | refine bq ?_ | refine o_loads ?_ | refine o_loadp ?_ | refine o_faddr ?_ | refine o_iaddr ?_ | refine o_iaddrO ?_ | refine o_iaddrR ?_ | refine o_add ?_ | refine o_sub ?_ | refine o_cat ?_ | refine o_bin ?_ | refine o_lenq ?_ | refine o_len ?_ | refine o_loadsA ?_ | refine o_loadpA ?_ | refine o_bslice ?_ | refine o_store ?_ | refine o_not ?_ | refine o_pickt ?_ | refine o_pickf ?_ | refine o_eqb ?_ | refine skF ?_ | refine skU ?_
      exact agn (i + 1) (by omega) goes
    repeat first | refine o_copy ?_ | refine nl ?_ | refine ct_seq ?_ | refine rg ?_ | refine ct_block ?_ | refine bq ?_ | refine o_loads ?_ | refine o_loadp ?_ | refine o_faddr ?_ | refine o_iaddr ?_ | refine o_iaddrO ?_ | refine o_iaddrR ?_ | refine o_add ?_ | refine o_sub ?_ | refine o_cat ?_ | refine o_bin ?_ | refine o_lenq ?_ | refine o_len ?_ | refine o_loadsA ?_ | refine o_loadpA ?_ | refine o_bslice ?_ | refine o_store ?_ | refine o_not ?_ | refine o_pickt ?_ | refine o_pickf ?_ | refine o_eqb ?_ | refine skF ?_ | refine skU ?_
    refine ct_loopG (fun (g : Nat) => [(0, q), (1, .int .u8 n), (5, .bool true), (6, ownV ⟨1, 32776⟩ (out.map encS)), (9, .int .i64 g)])
      (fun g => [(⟨1, 32776⟩, blkV 2 (out.map encS))]) (fun g => out.length - g)
      (fun g => g ≤ out.length) 0 goes (Nat.zero_le _) ?_
    intro i hi
    (try dsimp only)
    repeat first | refine o_copy ?_ | refine nl ?_ | refine ct_seq ?_ | refine rg ?_ | refine ct_block ?_ | refine bq ?_ | refine o_loads ?_ | refine o_loadp ?_ | refine o_faddr ?_ | refine o_iaddr ?_ | refine o_iaddrO ?_ | refine o_iaddrR ?_ | refine o_add ?_ | refine o_sub ?_ | refine o_cat ?_ | refine o_bin ?_ | refine o_lenq ?_ | refine o_len ?_ | refine o_loadsA ?_ | refine o_loadpA ?_ | refine o_bslice ?_ | refine o_store ?_ | refine o_not ?_ | refine o_pickt ?_ | refine o_pickf ?_ | refine o_eqb ?_ | refine skF ?_ | refine skU ?_
    refine cnd (fun h => ct_skip ?_) (fun h => ct_exit ?_)
    · have hlt : i < out.length := by have h' := of_decide_eq_true h; omega
      obtain ⟨y, hy⟩ : ∃ x, out[i]? = some x := ⟨_, List.getElem?_eq_getElem hlt⟩
      have hye := gm (enc := encS) (n := (i : Int)) hy (by omega)
      have hemp : emptyL y = false := hno.ne y (List.mem_iff_getElem?.2 ⟨i, hy⟩)
      repeat first | refine o_copy ?_ | refine nl ?_ | refine ct_seq ?_ | refine rg ?_ | refine ct_block ?_ | refine bq ?_ | refine cv0 (rempty_vc y) ?_ | refine o_loads ?_ | refine o_loadp ?_ | refine o_faddr ?_ | refine o_iaddr ?_ | refine o_iaddrO ?_ | refine o_iaddrR ?_ | refine o_add ?_ | refine o_sub ?_ | refine o_cat ?_ | refine o_bin ?_ | refine o_lenq ?_ | refine o_len ?_ | refine o_loadsA ?_ | refine o_loadpA ?_ | refine o_bslice ?_ | refine o_store ?_ | refine o_not ?_ | refine o_pickt ?_ | refine o_pickf ?_ | refine o_eqb ?_ | refine skF ?_ | refine skU ?_
      refine glook (fun hg => ?_) (fun hg => ?_)
      · have hpos : 0 < i := by have h' := of_decide_eq_true hg; omega
        obtain ⟨x, hx⟩ : ∃ x, out[i - 1]? = some x := ⟨_, List.getElem?_eq_getElem (by omega)⟩
        have hxe := gm (enc := encS) (n := (i : Int) - 1) hx (by omega)
        obtain ⟨hs1, hs2⟩ : sep x y := by
          have h3 := List.pairwise_iff_getElem.1 hno.pw (i - 1) i (by omega) hlt (by omega)
          rw [(List.getElem?_eq_some_iff.1 hx).2, (List.getElem?_eq_some_iff.1 hy).2] at h3
          exact h3
        repeat first | refine o_copy ?_ | refine nl ?_ | refine ct_seq ?_ | refine rg ?_ | refine ct_block ?_ | refine bq ?_ | refine o_loads ?_ | refine o_loadp ?_ | refine o_faddr ?_ | refine o_iaddr ?_ | refine o_iaddrO ?_ | refine o_iaddrR ?_ | refine o_add ?_ | refine o_sub ?_ | refine o_cat ?_ | refine o_bin ?_ | refine o_lenq ?_ | refine o_len ?_ | refine o_loadsA ?_ | refine o_loadpA ?_ | refine o_bslice ?_ | refine o_store ?_ | refine o_not ?_ | refine o_pickt ?_ | refine o_pickf ?_ | refine o_eqb ?_ | refine skF ?_ | refine skU ?_
        refine glook (fun hg2 => ?_) (fun hg2 => ?_)
        · exact absurd hg2 (by simp [hs1])
        repeat first | refine o_copy ?_ | refine nl ?_ | refine ct_seq ?_ | refine rg ?_ | refine ct_block ?_ | refine bq ?_ | refine o_loads ?_ | refine o_loadp ?_ | refine o_faddr ?_ | refine o_iaddr ?_ | refine o_iaddrO ?_ | refine o_iaddrR ?_ | refine o_add ?_ | refine o_sub ?_ | refine o_cat ?_ | refine o_bin ?_ | refine o_lenq ?_ | refine o_len ?_ | refine o_loadsA ?_ | refine o_loadpA ?_ | refine o_bslice ?_ | refine o_store ?_ | refine o_not ?_ | refine o_pickt ?_ | refine o_pickf ?_ | refine o_eqb ?_ | refine skF ?_ | refine skU ?_
        refine cndf (ct_skip ?_) rfl (by simp [hs2])
        repeat first | refine o_copy ?_ | refine nl ?_ | refine ct_seq ?_ | refine rg ?_ | refine ct_block ?_ | refine bq ?_ | refine o_loads ?_ | refine o_loadp ?_ | refine o_faddr ?_ | refine o_iaddr ?_ | refine o_iaddrO ?_ | refine o_iaddrR ?_ | refine o_add ?_ | refine o_sub ?_ | refine o_cat ?_ | refine o_bin ?_ | refine o_lenq ?_ | refine o_len ?_ | refine o_loadsA ?_ | refine o_loadpA ?_ | refine o_bslice ?_ | refine o_store ?_ | refine o_not ?_ | refine o_pickt ?_ | refine o_pickf ?_ | refine o_eqb ?_ | refine skF ?_ | refine skU ?_
        exact agn (i + 1) (by omega) goes
      · repeat first | refine o_copy ?_ | refine nl ?_ | refine ct_seq ?_ | refine rg ?_ | refine ct_block ?_ | refine bq ?_ | refine o_loads ?_ | refine o_loadp ?_ | refine o_faddr ?_ | refine o_iaddr ?_ | refine o_iaddrO ?_ | refine o_iaddrR ?_ | refine o_add ?_ | refine o_sub ?_ | refine o_cat ?_ | refine o_bin ?_ | refine o_lenq ?_ | refine o_len ?_ | refine o_loadsA ?_ | refine o_loadpA ?_ | refine o_bslice ?_ | refine o_store ?_ | refine o_not ?_ | refine o_pickt ?_ | refine o_pickf ?_ | refine o_eqb ?_ | refine skF ?_ | refine skU ?_
        refine cndf (ct_skip ?_)
        repeat first | refine o_copy ?_ | refine nl ?_ | refine ct_seq ?_ | refine rg ?_ | refine ct_block ?_ | refine bq ?_ | refine o_loads ?_ | refine o_loadp ?_ | refine o_faddr ?_ | refine o_iaddr ?_ | refine o_iaddrO ?_ | refine o_iaddrR ?_ | refine o_add ?_ | refine o_sub ?_ | refine o_cat ?_ | refine o_bin ?_ | refine o_lenq ?_ | refine o_len ?_ | refine o_loadsA ?_ | refine o_loadpA ?_ | refine o_bslice ?_ | refine o_store ?_ | refine o_not ?_ | refine o_pickt ?_ | refine o_pickf ?_ | refine o_eqb ?_ | refine skF ?_ | refine skU ?_
        exact agn (i + 1) (by omega) goes
    repeat first | refine o_copy ?_ | refine nl ?_ | refine ct_seq ?_ | refine rg ?_ | refine ct_block ?_ | refine bq ?_ | refine o_loads ?_ | refine o_loadp ?_ | refine o_faddr ?_ | refine o_iaddr ?_ | refine o_iaddrO ?_ | refine o_iaddrR ?_ | refine o_add ?_ | refine o_sub ?_ | refine o_cat ?_ | refine o_bin ?_ | refine o_lenq ?_ | refine o_len ?_ | refine o_loadsA ?_ | refine o_loadpA ?_ | refine o_bslice ?_ | refine o_store ?_ | refine o_not ?_ | refine o_pickt ?_ | refine o_pickf ?_ | refine o_eqb ?_ | refine skF ?_ | refine skU ?_
    refine ct_loopG (fun (g : Nat × List SpanL) => [(0, q), (1, .int .u8 n), (5, .bool true), (6, ownV ⟨1, 32776⟩ (out.map encS)), (10, ownV ⟨1, 139264⟩ (g.2.map encS)), (11, .int .i64 g.1)])
      (fun g => [(⟨1, 32776⟩, blkV 2 (out.map encS)), (⟨1, 139264⟩, blkV 2 (g.2.map encS))]) (fun g => l.length - g.1)
      (fun g => g.1 ≤ l.length ∧ g.2.length = g.1 ∧ ∀ j, j < g.1 → g.2[j]? = l[(j + n) % l.length]?) (0, []) goes ⟨Nat.zero_le _, rfl, fun j hj => absurd hj (Nat.not_lt_zero _)⟩ ?_
    rintro ⟨i, t⟩ ⟨hi, htl, ht⟩
    dsimp only at hi htl ht ⊢
    repeat first | refine o_copy ?_ | refine nl ?_ | refine ct_seq ?_ | refine rg ?_ | refine ct_block ?_ | refine bq ?_ | refine o_loads ?_ | refine o_loadp ?_ | refine o_faddr ?_ | refine o_iaddr ?_ | refine o_iaddrO ?_ | refine o_iaddrR ?_ | refine o_add ?_ | refine o_sub ?_ | refine o_cat ?_ | refine o_bin ?_ | refine o_lenq ?_ | refine o_len ?_ | refine o_loadsA ?_ | refine o_loadpA ?_ | refine o_bslice ?_ | refine o_store ?_ | refine o_not ?_ | refine o_pickt ?_ | refine o_pickf ?_ | refine o_eqb ?_ | refine skF ?_ | refine skU ?_
    refine cnd (fun h => ct_skip ?_) (fun h => ct_exit ?_)
    · have hlt : i < l.length := by have h' := of_decide_eq_true h; omega
      have hla : (i + n) % l.length < l.length := Nat.mod_lt _ (by omega)
      obtain ⟨y, hy⟩ : ∃ x, l[(i + n) % l.length]? = some x := ⟨_, List.getElem?_eq_getElem hla⟩
      have hlen0 : ((l.map encS).length : Int) ≠ 0 := by omega
      have ca : IntKind.i64.wrap (n : Int) = n := wrap64 (by omega) (by omega)
      have ra : ((i : Int) + (n : Int)).tmod ((l.map encS).length : Int) = (((i + n) % l.length : Nat) : Int) := by rw [hml]; rfl
      have hye := gm (enc := encS) (n := (((i + n) % l.length : Nat) : Int)) hy (by omega)
      repeat first | refine o_copy ?_ | refine nl ?_ | refine ct_seq ?_ | refine rg ?_ | refine ct_block ?_ | refine bq ?_ | refine o_convE ?_ | refine o_rem ?_ | refine o_v (vap encS y) ?_ | refine o_loads ?_ | refine o_loadp ?_ | refine o_faddr ?_ | refine o_iaddr ?_ | refine o_iaddrO ?_ | refine o_iaddrR ?_ | refine o_add ?_ | refine o_sub ?_ | refine o_cat ?_ | refine o_bin ?_ | refine o_lenq ?_ | refine o_len ?_ | refine o_loadsA ?_ | refine o_loadpA ?_ | refine o_bslice ?_ | refine o_store ?_ | refine o_not ?_ | refine o_pickt ?_ | refine o_pickf ?_ | refine o_eqb ?_ | refine skF ?_ | refine skU ?_
      refine agn (i + 1, t ++ [y]) ⟨by simp only; omega, by simp only [List.length_append, List.length_cons, List.length_nil]; omega, ?_⟩ goes
      intro j hj
      dsimp only at hj ⊢
      by_cases h3 : j < i
      · rw [List.getElem?_append_left (by omega)]; exact ht j h3
      · have : j = i := by omega
        subst this
        rw [List.getElem?_append_right (by omega), htl, Nat.sub_self, hy]; rfl
    have hge : i = l.length := by have h' := of_decide_eq_false h; omega
    subst hge
    have htm := rot_mem htl ht
    clear ht
    repeat first | refine o_copy ?_ | refine nl ?_ | refine ct_seq ?_ | refine rg ?_ | refine ct_block ?_ | refine bq ?_ | refine o_loads ?_ | refine o_loadp ?_ | refine o_faddr ?_ | refine o_iaddr ?_ | refine o_iaddrO ?_ | refine o_iaddrR ?_ | refine o_add ?_ | refine o_sub ?_ | refine o_cat ?_ | refine o_bin ?_ | refine o_lenq ?_ | refine o_len ?_ | refine o_loadsA ?_ | refine o_loadpA ?_ | refine o_bslice ?_ | refine o_store ?_ | refine o_not ?_ | refine o_pickt ?_ | refine o_pickf ?_ | refine o_eqb ?_ | refine skF ?_ | refine skU ?_
    refine ct_loopG (fun (g : Nat × List SpanL) => [(5, .bool true), (6, ownV ⟨1, 32776⟩ (out.map encS)), (10, ownV ⟨1, 139264⟩ (g.2.map encS)), (12, .int .i64 g.1)])
      (fun g => [(⟨1, 32776⟩, blkV 2 (out.map encS)), (⟨1, 139264⟩, blkV 2 (g.2.map encS))]) (fun g => l.length + 2 - g.1)
      (fun g => g.1 ≤ l.length + 1 ∧ g.2.length = l.length ∧ ∀ s, s ∈ g.2 ↔ s ∈ l) (0, t) goes ⟨Nat.zero_le _, htl, htm⟩ ?_
    clear htl htm t
    rintro ⟨i, t⟩ ⟨hi, htl, htm⟩
    dsimp only at hi htl htm ⊢
    have hmt : (t.map encS).length = t.length := List.length_map ..
    repeat first | refine o_copy ?_ | refine nl ?_ | refine ct_seq ?_ | refine rg ?_ | refine ct_block ?_ | refine bq ?_ | refine o_loads ?_ | refine o_loadp ?_ | refine o_faddr ?_ | refine o_iaddr ?_ | refine o_iaddrO ?_ | refine o_iaddrR ?_ | refine o_add ?_ | refine o_sub ?_ | refine o_cat ?_ | refine o_bin ?_ | refine o_lenq ?_ | refine o_len ?_ | refine o_loadsA ?_ | refine o_loadpA ?_ | refine o_bslice ?_ | refine o_store ?_ | refine o_not ?_ | refine o_pickt ?_ | refine o_pickf ?_ | refine o_eqb ?_ | refine skF ?_ | refine skU ?_
    refine cnd (fun h => ct_skip ?_) (fun h => ct_exit ?_)
    · have hlt : i + 1 < t.length := by have h' := of_decide_eq_true h; omega
      obtain ⟨x, hx⟩ : ∃ x, t[i]? = some x := ⟨_, List.getElem?_eq_getElem (by omega)⟩
      obtain ⟨y, hy⟩ : ∃ x, t[i + 1]? = some x := ⟨_, List.getElem?_eq_getElem hlt⟩
      have hxe := gm (enc := encS) (n := (i : Int)) hx (by omega)
      have hye := gm (enc := encS) (n := (i : Int) + 1) hy (by omega)
      repeat first | refine o_copy ?_ | refine nl ?_ | refine ct_seq ?_ | refine rg ?_ | refine ct_block ?_ | refine bq ?_ | refine o_v (vst encS y) ?_ | refine o_v (vst encS x) ?_ | refine o_loads ?_ | refine o_loadp ?_ | refine o_faddr ?_ | refine o_iaddr ?_ | refine o_iaddrO ?_ | refine o_iaddrR ?_ | refine o_add ?_ | refine o_sub ?_ | refine o_cat ?_ | refine o_bin ?_ | refine o_lenq ?_ | refine o_len ?_ | refine o_loadsA ?_ | refine o_loadpA ?_ | refine o_bslice ?_ | refine o_store ?_ | refine o_not ?_ | refine o_pickt ?_ | refine o_pickf ?_ | refine o_eqb ?_ | refine skF ?_ | refine skU ?_
      refine agn (i + 2, (t.set (i : Int).toNat y).set ((i : Int) + 1).toNat x) ⟨by simp only; omega, by simp only [List.length_set]; omega, ?_⟩ (goes (h1 := by
        refine ⟨rfl, rfl, ?_, rfl, trivial⟩
        exact congrArg (fun n => some (PV.own ⟨1, 139264⟩ n 0 n)) (by simp)))
      intro s
      have e1 : (i : Int).toNat = i := by omega
      have e2 : ((i : Int) + 1).toNat = i + 1 := by omega
      dsimp only
      rw [e1, e2, swap_mem (by omega) hx hy, htm]
    have hn1 := norm_vc (q := .sh false (t.map encS)) (xs := t) Sl.sh (by omega)
    have hn2 := norm_vc (q := .sh false (out.map encS)) (xs := out) Sl.sh (by omega)
    rw [hany t htm] at hn1
    rw [hself] at hn2
    have hsm := same_vc (q := .sh false (out.map encS)) (p := .sh false (out.map encS)) (l := out) (m := out) Sl.sh Sl.sh (by unfold maxLen; omega) (by unfold maxLen; omega)
    rw [show decide (out = out) = true from decide_eq_true rfl] at hsm
    repeat first | refine o_copy ?_ | refine nl ?_ | refine ct_seq ?_ | refine rg ?_ | refine ct_block ?_ | refine bq ?_ | refine cv hn1 ?_ | refine cv hn2 ?_ | refine cv0 hsm ?_ | refine o_loads ?_ | refine o_loadp ?_ | refine o_faddr ?_ | refine o_iaddr ?_ | refine o_iaddrO ?_ | refine o_iaddrR ?_ | refine o_add ?_ | refine o_sub ?_ | refine o_cat ?_ | refine o_bin ?_ | refine o_lenq ?_ | refine o_len ?_ | refine o_loadsA ?_ | refine o_loadpA ?_ | refine o_bslice ?_ | refine o_store ?_ | refine o_not ?_ | refine o_pickt ?_ | refine o_pickf ?_ | refine o_eqb ?_ | refine skF ?_ | refine skU ?_
    exact ct_ret ⟨.inr rfl, oB rfl⟩
theorem spanNorm_in (l0 : List (List PV)) (i0 : InTy (.sl [.str, .str]) (.sh false l0)) (n : Int) (hw : (Lit.int .u8 n).wf = true) : VC Try.prog 7 [.sh false l0, .int .u8 n] [] (.bool true) [] := by
  obtain ⟨l, rfl, hl⟩ := decS i0
  obtain ⟨k, hk, h256⟩ := in_u8 (InTy.int .u8 n hw)
  cases hk
  exact norm_law_vc h256 Sl.sh hl
end Go.Proofs
