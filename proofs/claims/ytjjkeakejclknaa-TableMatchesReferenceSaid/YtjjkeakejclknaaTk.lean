/- Tk -/
import Derived.Test.YtjjkeakejclknaaTj
import Derived.Test.YtjjkeakejclknaaTf
import Derived.Test.YtjjkeakejclknaaTb
open Go.V Go.Pu
set_option linter.unusedVariables false
set_option linter.unusedSimpArgs false
set_option maxRecDepth 20000
namespace Go.Proofs
/-- downspout/downspoutlaw04.TableMatchesReference -/
def vc3 : VCode :=
 (.seq
 (.region 0 false [
 ⟨(some 3), .box (.t 0), none, 0, []⟩,
 ⟨(some 4), .box (.t 1), none, 8, []⟩,
 ⟨(some 6), .copy (.c (.bool false)), none, 16, []⟩])
 (.seq
 (.region 1 false [
 ⟨(some 17), .call (.c (.fn 10 [])) [], none, 8192, []⟩,
 ⟨(some 7), .copy (.t 17), none, 8200, [0]⟩])
 (.seq
 (.seq
 (.region 2 false [
 ⟨(some 18), .copy (.t 2), none, 16384, []⟩,
 ⟨(some 19), .lenS (.t 18), none, 16392, [0]⟩,
 ⟨(some 20), .bin .gtr (.t 19) (.c (.int .i64 200)), none, 16400, [1, 0]⟩])
 (.cond (.t 20)
 (.seq
 (.region 3 false [
 ⟨(some 21), .copy (.t 7), none, 24576, []⟩,
 ⟨(some 6), .copy (.t 21), none, 24584, [0]⟩])
 .ret)
 .skip))
 (.seq
 (.region 4 true [
 ⟨(some 22), .iaddrA 2 1 (.t 3) (.c (.int .i64 0)), none, 32768, []⟩,
 ⟨(some 23), .load false 1 (.t 22), none, 32776, [0]⟩,
 ⟨(some 24), .call (.c (.fn 11 [])) [(.t 23)], none, 32784, [1, 0]⟩,
 ⟨(some 25), .iaddrA 2 1 (.t 3) (.c (.int .i64 1)), none, 32792, []⟩,
 ⟨(some 26), .load false 1 (.t 25), none, 32800, [3]⟩,
 ⟨(some 27), .call (.c (.fn 11 [])) [(.t 26)], none, 32808, [4, 3, 2, 1, 0]⟩,
 ⟨(some 8), .copy (.t 24), none, 32816, [2, 1, 0, 5, 4, 3]⟩,
 ⟨(some 9), .copy (.t 27), none, 32824, [5, 4, 3, 2, 1, 0, 6]⟩])
 (.seq
 (.seq
 (.region 5 false [
 ⟨(some 28), .iaddrA 4 1 (.t 4) (.c (.int .i64 3)), none, 40960, []⟩,
 ⟨(some 29), .load false 1 (.t 28), none, 40968, [0]⟩,
 ⟨(some 30), .bin .rem (.t 29) (.c (.int .u8 2)), none, 40976, [1, 0]⟩,
 ⟨(some 31), .bin .eql (.t 30) (.c (.int .u8 0)), none, 40984, [2, 1, 0]⟩])
 (.cond (.t 31)
 (.region 6 false [
 ⟨(some 32), .copy (.t 8), none, 49152, []⟩,
 ⟨(some 33), .copy (.t 2), none, 49160, []⟩,
 ⟨(some 34), .copy (.t 2), none, 49168, []⟩,
 ⟨(some 35), .build [(.str []), (.str []), (.int .i64 0)] [(0, 1, (.t 33)), (1, 1, (.t 34)), (2, 1, (.c (.int .i64 (-1))))], none, 49176, [1, 2]⟩,
 ⟨(some 36), .call (.c (.fn 12 [])) [(.t 32), (.t 35)], none, 49184, [0, 3, 1, 2]⟩,
 ⟨(some 8), .copy (.t 36), none, 49192, [4, 0, 3, 1, 2]⟩])
 .skip))
 (.seq
 (.region 7 false [
 ⟨(some 37), .iaddrA 4 1 (.t 4) (.c (.int .i64 0)), none, 57344, []⟩,
 ⟨(some 38), .load false 1 (.t 37), none, 57352, [0]⟩,
 ⟨(some 39), .iaddrA 4 1 (.t 4) (.c (.int .i64 1)), none, 57360, []⟩,
 ⟨(some 40), .load false 1 (.t 39), none, 57368, [2]⟩,
 ⟨(some 41), .build [(.int .u8 0), (.int .u8 0)] [(0, 1, (.t 38)), (1, 1, (.t 40))], none, 57376, [1, 0, 3, 2]⟩,
 ⟨(some 42), .call (.c (.fn 13 [])) [(.t 41)], none, 57384, [4, 1, 0, 3, 2]⟩,
 ⟨(some 10), .alloc [(.str []), (.str [])], none, 57392, []⟩,
 ⟨none, .store 2 (.t 10) (.t 42), none, 57400, [6, 5, 4, 1, 0, 3, 2]⟩])
 (.seq
 (.seq
 (.region 8 false [
 ⟨(some 43), .iaddrA 4 1 (.t 4) (.c (.int .i64 3)), none, 65536, []⟩,
 ⟨(some 44), .load false 1 (.t 43), none, 65544, [0]⟩,
 ⟨(some 45), .bin .rem (.t 44) (.c (.int .u8 4)), none, 65552, [1, 0]⟩,
 ⟨(some 46), .bin .eql (.t 45) (.c (.int .u8 1)), none, 65560, [2, 1, 0]⟩])
 (.cond (.t 46)
 (.region 9 false [
 ⟨(some 47), .copy (.t 2), none, 73728, []⟩,
 ⟨(some 48), .faddr 1 (.t 10), none, 73736, [0]⟩,
 ⟨none, .store 1 (.t 48) (.t 47), none, 73744, [1, 0]⟩])
 .skip))
 (.seq
 (.region 10 false [
 ⟨(some 50), .copy (.t 8), none, 81920, []⟩,
 ⟨(some 51), .iaddrA 4 1 (.t 4) (.c (.int .i64 0)), none, 81928, []⟩,
 ⟨(some 52), .load false 1 (.t 51), none, 81936, [1]⟩,
 ⟨(some 53), .call (.c (.fn 15 [])) [(.t 52)], none, 81944, [2, 1]⟩,
 ⟨(some 54), .call (.c (.fn 14 [])) [(.t 50), (.t 53)], none, 81952, [0, 3, 2, 1]⟩,
 ⟨(some 49), .copy (.t 54), none, 81960, [4, 0, 3, 2, 1]⟩,
 ⟨(some 55), .extract (.t 49) 0, none, 81968, [5, 4, 0, 3, 2, 1]⟩,
 ⟨(some 56), .extract (.t 49) 1, none, 81976, [5, 4, 0, 3, 2, 1]⟩,
 ⟨(some 11), .alloc [(.str []), (.str []), (.int .i64 0)], none, 81984, []⟩,
 ⟨none, .store 3 (.t 11) (.t 55), none, 81992, [8, 6, 5, 4, 0, 3, 2, 1]⟩,
 ⟨(some 12), .copy (.t 56), none, 82000, [7, 5, 4, 0, 3, 2, 1, 9, 8, 6]⟩])
 (.seq
 (.region 11 false [
 ⟨(some 58), .copy (.t 8), none, 90112, []⟩,
 ⟨(some 59), .iaddrA 4 1 (.t 4) (.c (.int .i64 0)), none, 90120, []⟩,
 ⟨(some 60), .load false 1 (.t 59), none, 90128, [1]⟩,
 ⟨(some 61), .call (.c (.fn 15 [])) [(.t 60)], none, 90136, [2, 1]⟩,
 ⟨(some 62), .call (.c (.fn 16 [])) [(.t 58), (.t 61)], none, 90144, [0, 3, 2, 1]⟩,
 ⟨(some 57), .copy (.t 62), none, 90152, [4, 0, 3, 2, 1]⟩,
 ⟨(some 63), .extract (.t 57) 0, none, 90160, [5, 4, 0, 3, 2, 1]⟩,
 ⟨(some 64), .extract (.t 57) 1, none, 90168, [5, 4, 0, 3, 2, 1]⟩,
 ⟨(some 13), .alloc [(.str []), (.str []), (.int .i64 0)], none, 90176, []⟩,
 ⟨none, .store 3 (.t 13) (.t 63), none, 90184, [8, 6, 5, 4, 0, 3, 2, 1]⟩,
 ⟨(some 14), .copy (.t 64), none, 90192, [7, 5, 4, 0, 3, 2, 1, 9, 8, 6]⟩])
 (.seq
 (.region 12 true [
 ⟨(some 65), .iaddrA 4 1 (.t 4) (.c (.int .i64 1)), none, 98304, []⟩,
 ⟨(some 66), .load false 1 (.t 65), none, 98312, [0]⟩,
 ⟨(some 67), .call (.c (.fn 15 [])) [(.t 66)], none, 98320, [1, 0]⟩,
 ⟨(some 68), .copy (.t 2), none, 98328, []⟩,
 ⟨(some 69), .iaddrA 4 1 (.t 4) (.c (.int .i64 2)), none, 98336, []⟩,
 ⟨(some 70), .load false 1 (.t 69), none, 98344, [4]⟩,
 ⟨(some 71), .conv .i64 (.t 70), none, 98352, [5, 4]⟩,
 ⟨(some 72), .build [(.str []), (.str []), (.int .i64 0)] [(0, 1, (.t 67)), (1, 1, (.t 68)), (2, 1, (.t 71))], none, 98360, [2, 1, 0, 3, 6, 5, 4]⟩,
 ⟨(some 15), .alloc [(.str []), (.str []), (.int .i64 0)], none, 98368, []⟩,
 ⟨none, .store 3 (.t 15) (.t 72), none, 98376, [8, 7, 2, 1, 0, 3, 6, 5, 4]⟩])
 (.seq
 (.region 13 true [
 ⟨(some 73), .load true 3 (.t 11), none, 106496, []⟩,
 ⟨(some 74), .load true 3 (.t 13), none, 106504, []⟩,
 ⟨(some 75), .eqc false [2, 2, 1] (.t 73) (.t 74), none, 106512, [0, 1]⟩,
 ⟨(some 76), .copy (.t 75), none, 106520, [2, 0, 1]⟩,
 ⟨(some 77), .copy (.t 12), (some (3, 76, true)), 106528, [3, 2, 0, 1]⟩,
 ⟨(some 78), .copy (.t 14), (some (3, 76, true)), 106536, [3, 2, 0, 1]⟩,
 ⟨(some 79), .eqb false (.t 77) (.t 78), (some (3, 76, true)), 106544, [4, 3, 2, 0, 1, 5]⟩,
 ⟨(some 80), .pick (.t 76) (.t 79) (.c (.bool false)), none, 106552, [3, 2, 0, 1, 6, 4, 5]⟩,
 ⟨(some 81), .copy (.t 80), none, 106560, [7, 3, 2, 0, 1, 6, 4, 5]⟩,
 ⟨(some 82), .copy (.t 8), (some (8, 81, true)), 106568, [8, 7, 3, 2, 0, 1, 6, 4, 5]⟩,
 ⟨(some 83), .load true 2 (.t 10), (some (8, 81, true)), 106576, [8, 7, 3, 2, 0, 1, 6, 4, 5]⟩,
 ⟨(some 84), .call (.c (.fn 18 [])) [(.t 82), (.t 83)], (some (8, 81, true)), 106584, [9, 8, 7, 3, 2, 0, 1, 6, 4, 5, 10]⟩,
 ⟨(some 85), .copy (.t 8), (some (8, 81, true)), 106592, [8, 7, 3, 2, 0, 1, 6, 4, 5]⟩,
 ⟨(some 86), .load true 2 (.t 10), (some (8, 81, true)), 106600, [8, 7, 3, 2, 0, 1, 6, 4, 5]⟩,
 ⟨(some 87), .call (.c (.fn 19 [])) [(.t 85), (.t 86)], (some (8, 81, true)), 106608, [12, 8, 7, 3, 2, 0, 1, 6, 4, 5, 13, 11, 9, 10]⟩,
 ⟨(some 88), .call (.c (.fn 17 [])) [(.t 84), (.t 87)], (some (8, 81, true)), 106616, [11, 9, 8, 7, 3, 2, 0, 1, 6, 4, 5, 10, 14, 12, 13]⟩,
 ⟨(some 89), .pick (.t 81) (.t 88) (.c (.bool false)), none, 106624, [8, 7, 3, 2, 0, 1, 6, 4, 5, 15, 11, 9, 10, 14, 12, 13]⟩,
 ⟨(some 90), .copy (.t 89), none, 106632, [16, 8, 7, 3, 2, 0, 1, 6, 4, 5, 15, 11, 9, 10, 14, 12, 13]⟩,
 ⟨(some 91), .copy (.t 8), (some (17, 90, true)), 106640, [17, 16, 8, 7, 3, 2, 0, 1, 6, 4, 5, 15, 11, 9, 10, 14, 12, 13]⟩,
 ⟨(some 92), .load true 2 (.t 10), (some (17, 90, true)), 106648, [17, 16, 8, 7, 3, 2, 0, 1, 6, 4, 5, 15, 11, 9, 10, 14, 12, 13]⟩,
 ⟨(some 93), .call (.c (.fn 20 [])) [(.t 91), (.t 92)], (some (17, 90, true)), 106656, [18, 17, 16, 8, 7, 3, 2, 0, 1, 6, 4, 5, 15, 11, 9, 10, 14, 12, 13, 19]⟩,
 ⟨(some 94), .copy (.t 8), (some (17, 90, true)), 106664, [17, 16, 8, 7, 3, 2, 0, 1, 6, 4, 5, 15, 11, 9, 10, 14, 12, 13]⟩,
 ⟨(some 95), .load true 2 (.t 10), (some (17, 90, true)), 106672, [17, 16, 8, 7, 3, 2, 0, 1, 6, 4, 5, 15, 11, 9, 10, 14, 12, 13]⟩,
 ⟨(some 96), .call (.c (.fn 21 [])) [(.t 94), (.t 95)], (some (17, 90, true)), 106680, [21, 17, 16, 8, 7, 3, 2, 0, 1, 6, 4, 5, 15, 11, 9, 10, 14, 12, 13, 22, 20, 18, 19]⟩,
 ⟨(some 97), .call (.c (.fn 17 [])) [(.t 93), (.t 96)], (some (17, 90, true)), 106688, [20, 18, 17, 16, 8, 7, 3, 2, 0, 1, 6, 4, 5, 15, 11, 9, 10, 14, 12, 13, 19, 23, 21, 22]⟩,
 ⟨(some 98), .pick (.t 90) (.t 97) (.c (.bool false)), none, 106696, [17, 16, 8, 7, 3, 2, 0, 1, 6, 4, 5, 15, 11, 9, 10, 14, 12, 13, 24, 20, 18, 19, 23, 21, 22]⟩,
 ⟨(some 99), .copy (.t 98), none, 106704, [25, 17, 16, 8, 7, 3, 2, 0, 1, 6, 4, 5, 15, 11, 9, 10, 14, 12, 13, 24, 20, 18, 19, 23, 21, 22]⟩,
 ⟨(some 100), .copy (.t 8), (some (26, 99, true)), 106712, [26, 25, 17, 16, 8, 7, 3, 2, 0, 1, 6, 4, 5, 15, 11, 9, 10, 14, 12, 13, 24, 20, 18, 19, 23, 21, 22]⟩,
 ⟨(some 101), .load true 3 (.t 15), (some (26, 99, true)), 106720, [26, 25, 17, 16, 8, 7, 3, 2, 0, 1, 6, 4, 5, 15, 11, 9, 10, 14, 12, 13, 24, 20, 18, 19, 23, 21, 22]⟩,
 ⟨(some 102), .call (.c (.fn 22 [])) [(.t 100), (.t 101)], (some (26, 99, true)), 106728, [27, 26, 25, 17, 16, 8, 7, 3, 2, 0, 1, 6, 4, 5, 15, 11, 9, 10, 14, 12, 13, 24, 20, 18, 19, 23, 21, 22, 28]⟩,
 ⟨(some 103), .copy (.t 8), (some (26, 99, true)), 106736, [26, 25, 17, 16, 8, 7, 3, 2, 0, 1, 6, 4, 5, 15, 11, 9, 10, 14, 12, 13, 24, 20, 18, 19, 23, 21, 22]⟩,
 ⟨(some 104), .load true 3 (.t 15), (some (26, 99, true)), 106744, [26, 25, 17, 16, 8, 7, 3, 2, 0, 1, 6, 4, 5, 15, 11, 9, 10, 14, 12, 13, 24, 20, 18, 19, 23, 21, 22]⟩,
 ⟨(some 105), .call (.c (.fn 12 [])) [(.t 103), (.t 104)], (some (26, 99, true)), 106752, [30, 26, 25, 17, 16, 8, 7, 3, 2, 0, 1, 6, 4, 5, 15, 11, 9, 10, 14, 12, 13, 24, 20, 18, 19, 23, 21, 22, 31, 29, 27, 28]⟩,
 ⟨(some 106), .call (.c (.fn 17 [])) [(.t 102), (.t 105)], (some (26, 99, true)), 106760, [29, 27, 26, 25, 17, 16, 8, 7, 3, 2, 0, 1, 6, 4, 5, 15, 11, 9, 10, 14, 12, 13, 24, 20, 18, 19, 23, 21, 22, 28, 32, 30, 31]⟩,
 ⟨(some 107), .pick (.t 99) (.t 106) (.c (.bool false)), none, 106768, [26, 25, 17, 16, 8, 7, 3, 2, 0, 1, 6, 4, 5, 15, 11, 9, 10, 14, 12, 13, 24, 20, 18, 19, 23, 21, 22, 33, 29, 27, 28, 32, 30, 31]⟩,
 ⟨(some 16), .copy (.t 107), none, 106776, [34, 26, 25, 17, 16, 8, 7, 3, 2, 0, 1, 6, 4, 5, 15, 11, 9, 10, 14, 12, 13, 24, 20, 18, 19, 23, 21, 22, 33, 29, 27, 28, 32, 30, 31]⟩])
 (.seq
 (.region 14 true [
 ⟨(some 108), .copy (.t 16), none, 114688, []⟩,
 ⟨(some 109), .copy (.t 108), none, 114696, [0]⟩,
 ⟨(some 110), .copy (.t 8), (some (1, 109, true)), 114704, [1, 0]⟩,
 ⟨(some 111), .iaddrA 4 1 (.t 4) (.c (.int .i64 2)), (some (1, 109, true)), 114712, [1, 0]⟩,
 ⟨(some 112), .load false 1 (.t 111), (some (1, 109, true)), 114720, [3, 1, 0]⟩,
 ⟨(some 113), .call (.c (.fn 15 [])) [(.t 112)], (some (1, 109, true)), 114728, [4, 3, 1, 0]⟩,
 ⟨(some 114), .call (.c (.fn 23 [])) [(.t 110), (.t 113)], (some (1, 109, true)), 114736, [2, 1, 0, 5, 4, 3]⟩,
 ⟨(some 115), .copy (.t 8), (some (1, 109, true)), 114744, [1, 0]⟩,
 ⟨(some 116), .iaddrA 4 1 (.t 4) (.c (.int .i64 2)), (some (1, 109, true)), 114752, [1, 0]⟩,
 ⟨(some 117), .load false 1 (.t 116), (some (1, 109, true)), 114760, [8, 1, 0]⟩,
 ⟨(some 118), .call (.c (.fn 15 [])) [(.t 117)], (some (1, 109, true)), 114768, [9, 8, 1, 0, 6, 2, 5, 4, 3]⟩,
 ⟨(some 119), .call (.c (.fn 24 [])) [(.t 115), (.t 118)], (some (1, 109, true)), 114776, [7, 1, 0, 10, 9, 8, 6, 2, 5, 4, 3]⟩,
 ⟨(some 120), .call (.c (.fn 17 [])) [(.t 114), (.t 119)], (some (1, 109, true)), 114784, [6, 2, 1, 0, 5, 4, 3, 11, 7, 10, 9, 8]⟩,
 ⟨(some 121), .pick (.t 109) (.t 120) (.c (.bool false)), none, 114792, [1, 0, 12, 6, 2, 5, 4, 3, 11, 7, 10, 9, 8]⟩,
 ⟨(some 122), .copy (.t 121), none, 114800, [13, 1, 0, 12, 6, 2, 5, 4, 3, 11, 7, 10, 9, 8]⟩,
 ⟨(some 123), .copy (.t 8), (some (14, 122, true)), 114808, [14, 13, 1, 0, 12, 6, 2, 5, 4, 3, 11, 7, 10, 9, 8]⟩,
 ⟨(some 124), .copy (.t 9), (some (14, 122, true)), 114816, [14, 13, 1, 0, 12, 6, 2, 5, 4, 3, 11, 7, 10, 9, 8]⟩,
 ⟨(some 125), .call (.c (.fn 25 [])) [(.t 123), (.t 124)], (some (14, 122, true)), 114824, [15, 14, 13, 1, 0, 12, 6, 2, 5, 4, 3, 11, 7, 10, 9, 8, 16]⟩,
 ⟨(some 126), .copy (.t 8), (some (14, 122, true)), 114832, [14, 13, 1, 0, 12, 6, 2, 5, 4, 3, 11, 7, 10, 9, 8]⟩,
 ⟨(some 127), .copy (.t 9), (some (14, 122, true)), 114840, [14, 13, 1, 0, 12, 6, 2, 5, 4, 3, 11, 7, 10, 9, 8]⟩,
 ⟨(some 128), .call (.c (.fn 26 [])) [(.t 126), (.t 127)], (some (14, 122, true)), 114848, [18, 14, 13, 1, 0, 12, 6, 2, 5, 4, 3, 11, 7, 10, 9, 8, 19, 17, 15, 16]⟩,
 ⟨(some 129), .call (.c (.fn 17 [])) [(.t 125), (.t 128)], (some (14, 122, true)), 114856, [17, 15, 14, 13, 1, 0, 12, 6, 2, 5, 4, 3, 11, 7, 10, 9, 8, 16, 20, 18, 19]⟩,
 ⟨(some 130), .pick (.t 122) (.t 129) (.c (.bool false)), none, 114864, [14, 13, 1, 0, 12, 6, 2, 5, 4, 3, 11, 7, 10, 9, 8, 21, 17, 15, 16, 20, 18, 19]⟩,
 ⟨(some 131), .copy (.t 130), none, 114872, [22, 14, 13, 1, 0, 12, 6, 2, 5, 4, 3, 11, 7, 10, 9, 8, 21, 17, 15, 16, 20, 18, 19]⟩,
 ⟨(some 132), .copy (.t 8), (some (23, 131, true)), 114880, [23, 22, 14, 13, 1, 0, 12, 6, 2, 5, 4, 3, 11, 7, 10, 9, 8, 21, 17, 15, 16, 20, 18, 19]⟩,
 ⟨(some 133), .iaddrA 4 1 (.t 4) (.c (.int .i64 0)), (some (23, 131, true)), 114888, [23, 22, 14, 13, 1, 0, 12, 6, 2, 5, 4, 3, 11, 7, 10, 9, 8, 21, 17, 15, 16, 20, 18, 19]⟩,
 ⟨(some 134), .load false 1 (.t 133), (some (23, 131, true)), 114896, [25, 23, 22, 14, 13, 1, 0, 12, 6, 2, 5, 4, 3, 11, 7, 10, 9, 8, 21, 17, 15, 16, 20, 18, 19]⟩,
 ⟨(some 135), .call (.c (.fn 28 [])) [(.t 134)], (some (23, 131, true)), 114904, [26, 25, 23, 22, 14, 13, 1, 0, 12, 6, 2, 5, 4, 3, 11, 7, 10, 9, 8, 21, 17, 15, 16, 20, 18, 19]⟩,
 ⟨(some 136), .copy (.t 2), (some (23, 131, true)), 114912, [23, 22, 14, 13, 1, 0, 12, 6, 2, 5, 4, 3, 11, 7, 10, 9, 8, 21, 17, 15, 16, 20, 18, 19]⟩,
 ⟨(some 137), .call (.c (.fn 27 [])) [(.t 132), (.t 135), (.t 136)], (some (23, 131, true)), 114920, [24, 23, 22, 14, 13, 1, 0, 12, 6, 2, 5, 4, 3, 11, 7, 10, 9, 8, 21, 17, 15, 16, 20, 18, 19, 27, 26, 25, 28]⟩,
 ⟨(some 138), .copy (.t 8), (some (23, 131, true)), 114928, [23, 22, 14, 13, 1, 0, 12, 6, 2, 5, 4, 3, 11, 7, 10, 9, 8, 21, 17, 15, 16, 20, 18, 19]⟩,
 ⟨(some 139), .iaddrA 4 1 (.t 4) (.c (.int .i64 0)), (some (23, 131, true)), 114936, [23, 22, 14, 13, 1, 0, 12, 6, 2, 5, 4, 3, 11, 7, 10, 9, 8, 21, 17, 15, 16, 20, 18, 19]⟩,
 ⟨(some 140), .load false 1 (.t 139), (some (23, 131, true)), 114944, [31, 23, 22, 14, 13, 1, 0, 12, 6, 2, 5, 4, 3, 11, 7, 10, 9, 8, 21, 17, 15, 16, 20, 18, 19]⟩,
 ⟨(some 141), .call (.c (.fn 28 [])) [(.t 140)], (some (23, 131, true)), 114952, [32, 31, 23, 22, 14, 13, 1, 0, 12, 6, 2, 5, 4, 3, 11, 7, 10, 9, 8, 21, 17, 15, 16, 20, 18, 19, 29, 24, 27, 26, 25, 28]⟩,
 ⟨(some 142), .copy (.t 2), (some (23, 131, true)), 114960, [23, 22, 14, 13, 1, 0, 12, 6, 2, 5, 4, 3, 11, 7, 10, 9, 8, 21, 17, 15, 16, 20, 18, 19]⟩,
 ⟨(some 143), .call (.c (.fn 29 [])) [(.t 138), (.t 141), (.t 142)], (some (23, 131, true)), 114968, [30, 23, 22, 14, 13, 1, 0, 12, 6, 2, 5, 4, 3, 11, 7, 10, 9, 8, 21, 17, 15, 16, 20, 18, 19, 33, 32, 31, 29, 24, 27, 26, 25, 28, 34]⟩,
 ⟨(some 144), .call (.c (.fn 17 [])) [(.t 137), (.t 143)], (some (23, 131, true)), 114976, [29, 24, 23, 22, 14, 13, 1, 0, 12, 6, 2, 5, 4, 3, 11, 7, 10, 9, 8, 21, 17, 15, 16, 20, 18, 19, 27, 26, 25, 28, 35, 30, 33, 32, 31, 34]⟩,
 ⟨(some 145), .pick (.t 131) (.t 144) (.c (.bool false)), none, 114984, [23, 22, 14, 13, 1, 0, 12, 6, 2, 5, 4, 3, 11, 7, 10, 9, 8, 21, 17, 15, 16, 20, 18, 19, 36, 29, 24, 27, 26, 25, 28, 35, 30, 33, 32, 31, 34]⟩,
 ⟨(some 146), .copy (.t 145), none, 114992, [37, 23, 22, 14, 13, 1, 0, 12, 6, 2, 5, 4, 3, 11, 7, 10, 9, 8, 21, 17, 15, 16, 20, 18, 19, 36, 29, 24, 27, 26, 25, 28, 35, 30, 33, 32, 31, 34]⟩,
 ⟨(some 147), .copy (.t 7), (some (38, 146, true)), 115000, [38, 37, 23, 22, 14, 13, 1, 0, 12, 6, 2, 5, 4, 3, 11, 7, 10, 9, 8, 21, 17, 15, 16, 20, 18, 19, 36, 29, 24, 27, 26, 25, 28, 35, 30, 33, 32, 31, 34]⟩,
 ⟨(some 148), .pick (.t 146) (.t 147) (.c (.bool false)), none, 115008, [38, 37, 23, 22, 14, 13, 1, 0, 12, 6, 2, 5, 4, 3, 11, 7, 10, 9, 8, 21, 17, 15, 16, 20, 18, 19, 36, 29, 24, 27, 26, 25, 28, 35, 30, 33, 32, 31, 34, 39]⟩,
 ⟨(some 6), .copy (.t 148), none, 115016, [40, 38, 37, 23, 22, 14, 13, 1, 0, 12, 6, 2, 5, 4, 3, 11, 7, 10, 9, 8, 21, 17, 15, 16, 20, 18, 19, 36, 29, 24, 27, 26, 25, 28, 35, 30, 33, 32, 31, 34, 39]⟩])
 .ret))))))))))))
theorem vf3 : VF Try.prog 3 = some (149, vc3, [.tmp 6]) := by kernel_rfl

/-! The law of the reference -/
set_option maxHeartbeats 8000000 in
theorem matches_law_vc {l1 l2 : List RawL} {a b c d : Nat} (s : Str) (ha : a < 256) (hb : b < 256) (hc : c < 256) (hd : d < 256) (hs : s.length ≤ maxLen) :
    VC Try.prog 3 [.agg [.sh false (l1.map encR), .sh false (l2.map encR)], .agg [.int .u8 a, .int .u8 b, .int .u8 c, .int .u8 d], .str s] [] (.bool true) [] := by
  refine vc_of vf3 ?_ (Nat.le_of_ble_eq_true rfl) (by intro vs h; cases h)
  unfold maxLen at hs
  have m1 := made_vc (q := .sh false (l1.map encR)) (xs := l1) Sl.sh
  have m2 := made_vc (q := .sh false (l2.map encR)) (xs := l2) Sl.sh
  have n1 := madeL_len l1
  have n2 := madeL_len l2
  have s1 := madeL_srt l1
  have s2 := madeL_srt l2
  have k1 := madeL_key l1
  generalize madeL l1 = ta at *
  generalize madeL l2 = tb at *
  have ka := key_vc ha
  have kb := key_vc hb
  have kc := key_vc hc
  have lka := keyL_len a
  have lkb := keyL_len b
  have lkc := keyL_len c
  have ra := rspan_vc ha hb
  have pa := pre_vc ha
  have lpa := pre_len a
  generalize keyL a = xa at *
  generalize keyL b = xb at *
  generalize keyL c = xc at *
  generalize rspanL a b = sp at *
  generalize preL a = pf at *
  have e2 : ((d : Nat) : Int).tmod 2 = ((d % 2 : Nat) : Int) := by rw [Int.tmod_eq_emod_of_nonneg (by omega)]; rfl
  have e4 : ((d : Nat) : Int).tmod 4 = ((d % 4 : Nat) : Int) := by rw [Int.tmod_eq_emod_of_nonneg (by omega)]; rfl
  repeat first | refine o_copy ?_ | refine nl ?_ | refine ct_seq ?_ | refine rg ?_ | refine ct_block ?_ | refine bq ?_ | refine cv0 sanity_vc ?_ | refine o_loads ?_ | refine o_loadp ?_ | refine o_faddr ?_ | refine o_bin ?_ | refine o_loadsA ?_ | refine o_loadpA ?_ | refine o_box ?_ | refine o_alloc ?_ | refine o_store ?_ | refine o_pickt ?_ | refine o_pickf ?_ | refine o_build ?_ | refine o_extract ?_ | refine o_iaddrA ?_ | refine o_eqb ?_ | refine o_eqc ?_ | refine o_lenS ?_ | refine skF ?_ | refine skU ?_
  refine cnd (fun h => ?_) (fun h => ct_skip ?_)
  · repeat first | refine o_copy ?_ | refine nl ?_ | refine ct_seq ?_ | refine rg ?_ | refine ct_block ?_ | refine bq ?_ | refine o_loads ?_ | refine o_loadp ?_ | refine o_faddr ?_ | refine o_bin ?_ | refine o_loadsA ?_ | refine o_loadpA ?_ | refine o_box ?_ | refine o_alloc ?_ | refine o_store ?_ | refine o_pickt ?_ | refine o_pickf ?_ | refine o_build ?_ | refine o_extract ?_ | refine o_iaddrA ?_ | refine o_eqb ?_ | refine o_eqc ?_ | refine o_lenS ?_ | refine skF ?_ | refine skU ?_
    exact ct_ret ⟨.inr rfl, oAny rfl⟩
  have hs2 : s.length ≤ 200 := by have h' := of_decide_eq_false h; omega
  refine ct_seq (rg ?_)
  repeat first | refine o_copy ?_ | refine cv m1 ?_ | refine cv m2 ?_ | refine o_loads ?_ | refine o_loadp ?_ | refine o_faddr ?_ | refine o_bin ?_ | refine o_loadsA ?_ | refine o_loadpA ?_ | refine o_box ?_ | refine o_alloc ?_ | refine o_store ?_ | refine o_pickt ?_ | refine o_pickf ?_ | refine o_build ?_ | refine o_extract ?_ | refine o_iaddrA ?_ | refine o_eqb ?_ | refine o_eqc ?_ | refine o_lenS ?_ | refine skF ?_ | refine skU ?_
  refine nl ?_
  refine ct_mid (lvl := 1) (fun (g : List PairL) => [(2, .str s), (4, .ptr ⟨1, 8⟩ 1 0 0), (7, .bool true), (8, ownV ⟨1, 32784⟩ (g.map encP)), (9, ownV ⟨1, 32808⟩ (tb.map encP))])
    (fun g => [(⟨1, 8⟩, ⟨true, false, 4, [[.int .u8 a, .int .u8 b, .int .u8 c, .int .u8 d]]⟩), (⟨1, 32784⟩, blkV 3 (g.map encP)), (⟨1, 32808⟩, blkV 3 (tb.map encP))])
    (fun g => Srt g ∧ g.length ≤ 41 ∧ ∀ p ∈ g, p.key.length ≤ 200) ?_ ?_
  · repeat first | refine o_copy ?_ | refine nl ?_ | refine ct_seq ?_ | refine rg ?_ | refine ct_block ?_ | refine bq ?_ | refine o_rem ?_ | refine o_loads ?_ | refine o_loadp ?_ | refine o_faddr ?_ | refine o_bin ?_ | refine o_loadsA ?_ | refine o_loadpA ?_ | refine o_box ?_ | refine o_alloc ?_ | refine o_store ?_ | refine o_pickt ?_ | refine o_pickf ?_ | refine o_build ?_ | refine o_extract ?_ | refine o_iaddrA ?_ | refine o_eqb ?_ | refine o_eqc ?_ | refine o_lenS ?_ | refine skF ?_ | refine skU ?_
    refine cnd (fun h => ?_) (fun h => ct_skip ?_)
    · have pv := put_vc (q := .sh false (ta.map encP)) (xs := ta) (p := ⟨s, s, -1⟩) Sl.sh (by omega)
      have lp := putL_len ta ⟨s, s, -1⟩
      have sp := putL_srt (p := ⟨s, s, -1⟩) s1
      have kp : ∀ y ∈ putL ta ⟨s, s, -1⟩, y.key.length ≤ 200 := by
        intro y hy
        rw [putL_eq] at hy
        rcases insL_mem hy with rfl | hy
        · exact hs2
        · have := k1 y hy; omega
      repeat first | refine o_copy ?_ | refine nl ?_ | refine ct_seq ?_ | refine rg ?_ | refine ct_block ?_ | refine bq ?_ | refine cv pv ?_ | refine o_loads ?_ | refine o_loadp ?_ | refine o_faddr ?_ | refine o_bin ?_ | refine o_loadsA ?_ | refine o_loadpA ?_ | refine o_box ?_ | refine o_alloc ?_ | refine o_store ?_ | refine o_pickt ?_ | refine o_pickf ?_ | refine o_build ?_ | refine o_extract ?_ | refine o_iaddrA ?_ | refine o_eqb ?_ | refine o_eqc ?_ | refine o_lenS ?_ | refine skF ?_ | refine skU ?_
      exact ⟨putL ta ⟨s, s, -1⟩, ⟨sp, by omega, kp⟩, goesR ⟨1, 49184⟩ ⟨1, 32784⟩⟩
    · exact ⟨ta, ⟨s1, by omega, fun p hp => by have := k1 p hp; omega⟩, goes⟩
  rintro t ⟨s1, n1, k1⟩
  dsimp only
  refine ct_seq (rg ?_)
  repeat first | refine o_copy ?_ | refine cv0 ra ?_ | refine o_loads ?_ | refine o_loadp ?_ | refine o_faddr ?_ | refine o_bin ?_ | refine o_loadsA ?_ | refine o_loadpA ?_ | refine o_box ?_ | refine o_alloc ?_ | refine o_store ?_ | refine o_pickt ?_ | refine o_pickf ?_ | refine o_build ?_ | refine o_extract ?_ | refine o_iaddrA ?_ | refine o_eqb ?_ | refine o_eqc ?_ | refine o_lenS ?_ | refine skF ?_ | refine skU ?_
  refine nl ?_
  refine ct_mid (lvl := 1) (fun (g : SpanL) => [(2, .str s), (4, .ptr ⟨1, 8⟩ 1 0 0), (7, .bool true), (8, ownV ⟨1, 32784⟩ (t.map encP)), (9, ownV ⟨1, 32808⟩ (tb.map encP)), (10, .ptr ⟨1, 57392⟩ 1 0 0)])
    (fun g => [(⟨1, 8⟩, ⟨true, false, 4, [[.int .u8 a, .int .u8 b, .int .u8 c, .int .u8 d]]⟩), (⟨1, 32784⟩, blkV 3 (t.map encP)), (⟨1, 32808⟩, blkV 3 (tb.map encP)), (⟨1, 57392⟩, ⟨true, false, 2, [encS g]⟩)])
    (fun g => True) ?_ ?_
  · repeat first | refine o_copy ?_ | refine nl ?_ | refine ct_seq ?_ | refine rg ?_ | refine ct_block ?_ | refine bq ?_ | refine o_rem ?_ | refine o_loads ?_ | refine o_loadp ?_ | refine o_faddr ?_ | refine o_bin ?_ | refine o_loadsA ?_ | refine o_loadpA ?_ | refine o_box ?_ | refine o_alloc ?_ | refine o_store ?_ | refine o_pickt ?_ | refine o_pickf ?_ | refine o_build ?_ | refine o_extract ?_ | refine o_iaddrA ?_ | refine o_eqb ?_ | refine o_eqc ?_ | refine o_lenS ?_ | refine skF ?_ | refine skU ?_
    refine cnd (fun h => ?_) (fun h => ct_skip ?_)
    · repeat first | refine o_copy ?_ | refine nl ?_ | refine ct_seq ?_ | refine rg ?_ | refine ct_block ?_ | refine bq ?_ | refine o_loads ?_ | refine o_loadp ?_ | refine o_faddr ?_ | refine o_bin ?_ | refine o_loadsA ?_ | refine o_loadpA ?_ | refine o_box ?_ | refine o_alloc ?_ | refine o_store ?_ | refine o_pickt ?_ | refine o_pickf ?_ | refine o_build ?_ | refine o_extract ?_ | refine o_iaddrA ?_ | refine o_eqb ?_ | refine o_eqc ?_ | refine o_lenS ?_ | refine skF ?_ | refine skU ?_
      exact ⟨⟨sp.lo, s⟩, trivial, goes⟩
    · exact ⟨sp, trivial, goes⟩
  rintro u -
  clear ra e2 e4
  have f1 := tfind_vc (q := .sh false (t.map encP)) xa s1 Sl.sh (by omega)
  have f2 := rfind_vc (q := .sh false (t.map encP)) (l := t) xa Sl.sh (by unfold maxLen; omega)
  generalize (findP t xa).getD zP = y at *
  generalize (findP t xa).isSome = z at *
  have wc : IntKind.i64.wrap (c : Int) = (c : Int) := wrap64 (by omega) (by omega)
  repeat first | refine o_copy ?_ | refine nl ?_ | refine ct_seq ?_ | refine rg ?_ | refine ct_block ?_ | refine bq ?_ | refine cv0 ka ?_ | refine cv0 kb ?_ | refine cv0 f1 ?_ | refine cv0 f2 ?_ | refine o_convE ?_ | refine o_loads ?_ | refine o_loadp ?_ | refine o_faddr ?_ | refine o_bin ?_ | refine o_loadsA ?_ | refine o_loadpA ?_ | refine o_box ?_ | refine o_alloc ?_ | refine o_store ?_ | refine o_pickt ?_ | refine o_pickf ?_ | refine o_build ?_ | refine o_extract ?_ | refine o_iaddrA ?_ | refine o_eqb ?_ | refine o_eqc ?_ | refine o_lenS ?_ | refine skF ?_ | refine skU ?_
  refine glook (fun hg => ?_) (fun hg => ?_)
  rotate_left
  · exact absurd hg (by simp)
  repeat first | refine o_copy ?_ | refine nl ?_ | refine ct_seq ?_ | refine rg ?_ | refine ct_block ?_ | refine bq ?_ | refine o_loads ?_ | refine o_loadp ?_ | refine o_faddr ?_ | refine o_bin ?_ | refine o_loadsA ?_ | refine o_loadpA ?_ | refine o_box ?_ | refine o_alloc ?_ | refine o_store ?_ | refine o_pickt ?_ | refine o_pickf ?_ | refine o_build ?_ | refine o_extract ?_ | refine o_iaddrA ?_ | refine o_eqb ?_ | refine o_eqc ?_ | refine o_lenS ?_ | refine skF ?_ | refine skU ?_
  refine glook (fun hg => ?_) (fun hg => ?_)
  rotate_left
  · exact absurd hg (by simp)
  have g1 := range_vc (q := .sh false (t.map encP)) u s1 Sl.sh (by omega)
  have g2 := rrange_vc (q := .sh false (t.map encP)) u Sl.sh (by omega)
  have lr : (rangeL t u).length ≤ t.length := List.length_filter_le ..
  have d1 := drop_vc (q := .sh false (t.map encP)) u s1 Sl.sh (by omega)
  have d2 := rdrop_vc (q := .sh false (t.map encP)) u Sl.sh (by omega)
  have ld : (dropL t u).length ≤ t.length := List.length_filter_le ..
  generalize rangeL t u = tr at *
  generalize dropL t u = td at *
  have w1 := same_t (q := .sh false (tr.map encP)) (p := .sh false (tr.map encP)) (l := tr) Sl.sh Sl.sh (by omega)
  have w2 := same_t (q := .sh false (td.map encP)) (p := .sh false (td.map encP)) (l := td) Sl.sh Sl.sh (by omega)
  have p1 := tput_vc (q := .sh false (t.map encP)) ⟨xb, s, c⟩ s1 Sl.sh (by omega)
  have p2 := put_vc (q := .sh false (t.map encP)) (xs := t) (p := ⟨xb, s, c⟩) Sl.sh (by omega)
  have lp := putL_len t ⟨xb, s, c⟩
  generalize putL t ⟨xb, s, c⟩ = tp at *
  have w3 := same_t (q := .sh false (tp.map encP)) (p := .sh false (tp.map encP)) (l := tp) Sl.sh Sl.sh (by omega)
  have x1 := tdel_vc (q := .sh false (t.map encP)) xc s1 Sl.sh (by omega) (by omega)
  have x2 := rdel_vc (q := .sh false (t.map encP)) xc Sl.sh (by omega)
  have lx := del_len t xc
  generalize delL t xc = tx at *
  have w4 := same_t (q := .sh false (tx.map encP)) (p := .sh false (tx.map encP)) (l := tx) Sl.sh Sl.sh (by omega)
  have u1 := union_vc (q := .sh false (t.map encP)) (p := .sh false (tb.map encP)) (a := t) (b := tb) Sl.sh Sl.sh (by omega) (by omega)
  have u2 := runion_vc (q := .sh false (t.map encP)) (p := .sh false (tb.map encP)) (a := t) (b := tb) Sl.sh Sl.sh (by omega) (by omega)
  rw [puts_union s1 s2] at u2
  have lu := union_len t tb
  generalize unionL t tb = tu at *
  have w5 := same_t (q := .sh false (tu.map encP)) (p := .sh false (tu.map encP)) (l := tu) Sl.sh Sl.sh (by omega)
  have v1 := moved_vc (q := .sh false (t.map encP)) pf s s1 Sl.sh (by omega) (fun p hp => by have := k1 p hp; omega) (by omega) (by omega)
  have v2 := rmoved_vc (q := .sh false (t.map encP)) pf s Sl.sh (by omega) (fun p hp => by have := k1 p hp; omega) (by omega) (by omega)
  have lv : (movedT t pf s).length ≤ t.length := by unfold movedT srcL; rw [List.length_map]; exact List.length_filter_le ..
  generalize movedT t pf s = tv at *
  have w6 := same_t (q := .sh false (tv.map encP)) (p := .sh false (tv.map encP)) (l := tv) Sl.sh Sl.sh (by omega)
  repeat first | refine o_copy ?_ | refine nl ?_ | refine ct_seq ?_ | refine rg ?_ | refine ct_block ?_ | refine bq ?_ | refine cf g1 ?_ | refine cv g2 ?_ | refine cv0 w1 ?_ | refine cv d1 ?_ | refine cv d2 ?_ | refine cv0 w2 ?_ | refine cv p1 ?_ | refine cv p2 ?_ | refine cv0 w3 ?_ | refine o_loads ?_ | refine o_loadp ?_ | refine o_faddr ?_ | refine o_bin ?_ | refine o_loadsA ?_ | refine o_loadpA ?_ | refine o_box ?_ | refine o_alloc ?_ | refine o_store ?_ | refine o_pickt ?_ | refine o_pickf ?_ | refine o_build ?_ | refine o_extract ?_ | refine o_iaddrA ?_ | refine o_eqb ?_ | refine o_eqc ?_ | refine o_lenS ?_ | refine skF ?_ | refine skU ?_
  repeat first | refine o_copy ?_ | refine nl ?_ | refine ct_seq ?_ | refine rg ?_ | refine ct_block ?_ | refine bq ?_ | refine cv0 kc ?_ | refine cv x1 ?_ | refine cv x2 ?_ | refine cv0 w4 ?_ | refine cv u1 ?_ | refine cv u2 ?_ | refine cv0 w5 ?_ | refine cv0 pa ?_ | refine cv v1 ?_ | refine cv v2 ?_ | refine cv0 w6 ?_ | refine o_loads ?_ | refine o_loadp ?_ | refine o_faddr ?_ | refine o_bin ?_ | refine o_loadsA ?_ | refine o_loadpA ?_ | refine o_box ?_ | refine o_alloc ?_ | refine o_store ?_ | refine o_pickt ?_ | refine o_pickf ?_ | refine o_build ?_ | refine o_extract ?_ | refine o_iaddrA ?_ | refine o_eqb ?_ | refine o_eqc ?_ | refine o_lenS ?_ | refine skF ?_ | refine skU ?_
  exact ct_ret ⟨.inr rfl, oB rfl⟩
end Go.Proofs
open Go.V Go.Pu
set_option linter.unusedVariables false
namespace Go.Proofs
theorem tableMatches_in (qs : List PV) (hl : qs.length = [CTy.sl [.int .u8, .int .u8, .int .u8], .sl [.int .u8, .int .u8, .int .u8]].length) (hq : ∀ (j : Nat) (c : CTy) (q : PV), [CTy.sl [.int .u8, .int .u8, .int .u8], .sl [.int .u8, .int .u8, .int .u8]][j]? = some c → qs[j]? = some q → InTy c q)
    (q2 : List PV) (n2 : q2.length = [CTy.int .u8, .int .u8, .int .u8, .int .u8].length) (i2 : ∀ (j : Nat) (c : CTy) (q : PV), [CTy.int .u8, .int .u8, .int .u8, .int .u8][j]? = some c → q2[j]? = some q → InTy c q) (s : List UInt8) (hs : s.length ≤ maxLen) : VC Try.prog 3 [.agg qs, .agg q2, .str s] [] (.bool true) [] := by
  obtain ⟨a, b, rfl⟩ := list2 hl
  obtain ⟨l1, rfl, i1⟩ := in_sl (hq 0 _ _ rfl rfl)
  obtain ⟨l2, rfl, j2⟩ := in_sl (hq 1 _ _ rfl rfl)
  obtain ⟨x1, rfl, _⟩ := decR i1
  obtain ⟨x2, rfl, _⟩ := decR j2
  match q2, n2 with
  | [a, b, c, d], _ =>
    obtain ⟨a, rfl, ha⟩ := in_u8 (i2 0 _ _ rfl rfl)
    obtain ⟨b, rfl, hb⟩ := in_u8 (i2 1 _ _ rfl rfl)
    obtain ⟨c, rfl, hc⟩ := in_u8 (i2 2 _ _ rfl rfl)
    obtain ⟨d, rfl, hd⟩ := in_u8 (i2 3 _ _ rfl rfl)
    exact matches_law_vc s ha hb hc hd hs
end Go.Proofs
