/- Se -/
import Derived.Test.YtkbjaoophgepcaaLc
open Go.V Go.Pu
set_option linter.unusedVariables false
set_option linter.unusedSimpArgs false
set_option maxRecDepth 20000
namespace Go.Proofs
/-- downspout/downspoutlaw32.LockMatchesReference -/
def vc7 : VCode :=
 (.seq
 (.region 0 false [
 ⟨(some 4), .box (.t 1), none, 0, []⟩,
 ⟨(some 5), .box (.t 2), none, 8, []⟩,
 ⟨(some 6), .copy (.c (.bool false)), none, 16, []⟩])
 (.seq
 (.region 1 false [
 ⟨(some 16), .call (.c (.fn 11 [])) [], none, 8192, []⟩,
 ⟨(some 7), .copy (.t 16), none, 8200, [0]⟩])
 (.seq
 (.region 2 false [
 ⟨(some 17), .copy (.t 0), none, 16384, []⟩,
 ⟨(some 18), .call (.c (.fn 12 [])) [(.t 17), (.c (.int .i64 14))], none, 16392, [0]⟩,
 ⟨(some 8), .alloc [.nils, .nils], none, 16400, []⟩,
 ⟨none, .store 2 (.t 8) (.t 18), none, 16408, [2, 1, 0]⟩])
 (.seq
 (.region 3 true [
 ⟨(some 19), .load true 5 (.t 4), none, 24576, []⟩,
 ⟨(some 20), .call (.c (.fn 14 [])) [(.t 19)], none, 24584, [0]⟩,
 ⟨(some 21), .load true 5 (.t 5), none, 24592, []⟩,
 ⟨(some 22), .bslice 5 [(.int .i64 0), (.str []), (.int .i64 0), (.int .i64 0), (.bool false)] 2 [(0, (.t 20)), (1, (.t 21))], none, 24600, [1, 0, 2]⟩,
 ⟨(some 9), .copy (.t 22), none, 24608, [3, 1, 0, 2]⟩])
 (.seq
 (.seq
 (.region 4 false [
 ⟨(some 10), .copy (.c (.int .i64 0)), none, 32768, []⟩])
 (.block 0
 (.loop
 (.seq
 (.seq
 (.region 5 false [
 ⟨(some 23), .copy (.t 10), none, 40960, []⟩,
 ⟨(some 24), .faddr 0 (.t 8), none, 40968, []⟩,
 ⟨(some 25), .load false 1 (.t 24), none, 40976, [1]⟩,
 ⟨(some 26), .len (.t 25), none, 40984, [2, 1]⟩,
 ⟨(some 27), .bin .lss (.t 23) (.t 26), none, 40992, [0, 3, 2, 1]⟩])
 (.cond (.t 27)
 .skip
 (.exit 0)))
 (.seq
 (.block 1
 (.region 7 false [
 ⟨(some 30), .copy (.t 9), none, 57344, []⟩,
 ⟨(some 31), .faddr 0 (.t 8), none, 57352, []⟩,
 ⟨(some 32), .load false 1 (.t 31), none, 57360, [1]⟩,
 ⟨(some 33), .copy (.t 10), none, 57368, []⟩,
 ⟨(some 34), .iaddr 5 (.t 32) (.t 33), none, 57376, [2, 1, 3]⟩,
 ⟨(some 35), .load true 5 (.t 34), none, 57384, [4, 2, 1, 3]⟩,
 ⟨(some 36), .bslice 5 [(.int .i64 0), (.str []), (.int .i64 0), (.int .i64 0), (.bool false)] 1 [(0, (.t 35))], none, 57392, [5, 4, 2, 1, 3]⟩,
 ⟨(some 37), .append 5 48 [(.int .i64 0), (.str []), (.int .i64 0), (.int .i64 0), (.bool false)] (.t 30) (.t 36), none, 57400, [0, 6, 5, 4, 2, 1, 3]⟩,
 ⟨(some 9), .copy (.t 37), none, 57408, [7, 0, 6, 5, 4, 2, 1, 3]⟩]))
 (.region 6 false [
 ⟨(some 28), .copy (.t 10), none, 49152, []⟩,
 ⟨(some 29), .bin .add (.t 28) (.c (.int .i64 1)), none, 49160, [0]⟩,
 ⟨(some 10), .copy (.t 29), none, 49168, [1, 0]⟩]))))))
 (.seq
 (.seq
 (.region 8 false [
 ⟨(some 11), .copy (.c (.int .i64 0)), none, 65536, []⟩])
 (.block 2
 (.loop
 (.seq
 (.seq
 (.region 9 false [
 ⟨(some 38), .copy (.t 11), none, 73728, []⟩,
 ⟨(some 39), .faddr 1 (.t 8), none, 73736, []⟩,
 ⟨(some 40), .load false 1 (.t 39), none, 73744, [1]⟩,
 ⟨(some 41), .len (.t 40), none, 73752, [2, 1]⟩,
 ⟨(some 42), .bin .lss (.t 38) (.t 41), none, 73760, [0, 3, 2, 1]⟩])
 (.cond (.t 42)
 .skip
 (.exit 2)))
 (.seq
 (.block 3
 (.region 11 false [
 ⟨(some 45), .copy (.t 9), none, 90112, []⟩,
 ⟨(some 46), .faddr 1 (.t 8), none, 90120, []⟩,
 ⟨(some 47), .load false 1 (.t 46), none, 90128, [1]⟩,
 ⟨(some 48), .copy (.t 11), none, 90136, []⟩,
 ⟨(some 49), .iaddr 5 (.t 47) (.t 48), none, 90144, [2, 1, 3]⟩,
 ⟨(some 50), .load true 5 (.t 49), none, 90152, [4, 2, 1, 3]⟩,
 ⟨(some 51), .bslice 5 [(.int .i64 0), (.str []), (.int .i64 0), (.int .i64 0), (.bool false)] 1 [(0, (.t 50))], none, 90160, [5, 4, 2, 1, 3]⟩,
 ⟨(some 52), .append 5 48 [(.int .i64 0), (.str []), (.int .i64 0), (.int .i64 0), (.bool false)] (.t 45) (.t 51), none, 90168, [0, 6, 5, 4, 2, 1, 3]⟩,
 ⟨(some 9), .copy (.t 52), none, 90176, [7, 0, 6, 5, 4, 2, 1, 3]⟩]))
 (.region 10 false [
 ⟨(some 43), .copy (.t 11), none, 81920, []⟩,
 ⟨(some 44), .bin .add (.t 43) (.c (.int .i64 1)), none, 81928, [0]⟩,
 ⟨(some 11), .copy (.t 44), none, 81936, [1, 0]⟩]))))))
 (.seq
 (.seq
 (.region 12 false [
 ⟨(some 12), .copy (.c (.int .i64 0)), none, 98304, []⟩])
 (.block 4
 (.loop
 (.seq
 (.seq
 (.region 13 false [
 ⟨(some 53), .copy (.t 12), none, 106496, []⟩,
 ⟨(some 54), .copy (.t 9), none, 106504, []⟩,
 ⟨(some 55), .len (.t 54), none, 106512, [1]⟩,
 ⟨(some 56), .bin .lss (.t 53) (.t 55), none, 106520, [0, 2, 1]⟩])
 (.cond (.t 56)
 .skip
 (.exit 4)))
 (.seq
 (.block 5
 (.seq
 (.region 15 true [
 ⟨(some 59), .load true 2 (.t 8), none, 122880, []⟩,
 ⟨(some 60), .copy (.t 9), none, 122888, []⟩,
 ⟨(some 61), .copy (.t 12), none, 122896, []⟩,
 ⟨(some 62), .iaddr 5 (.t 60) (.t 61), none, 122904, [1, 2]⟩,
 ⟨(some 63), .load true 5 (.t 62), none, 122912, [3, 1, 2]⟩,
 ⟨(some 64), .call (.c (.fn 15 [])) [(.t 59), (.t 63)], none, 122920, [0, 4, 3, 1, 2]⟩,
 ⟨(some 65), .load true 2 (.t 8), none, 122928, []⟩,
 ⟨(some 66), .copy (.t 9), none, 122936, []⟩,
 ⟨(some 67), .copy (.t 12), none, 122944, []⟩,
 ⟨(some 68), .iaddr 5 (.t 66) (.t 67), none, 122952, [7, 8]⟩,
 ⟨(some 69), .load true 5 (.t 68), none, 122960, [9, 7, 8]⟩,
 ⟨(some 70), .call (.c (.fn 24 [])) [(.t 65), (.t 69)], none, 122968, [6, 10, 9, 7, 8, 5, 0, 4, 3, 1, 2]⟩,
 ⟨(some 13), .alloc [.nils, .nils, (.bool false), (.int .i64 0)], none, 122976, []⟩,
 ⟨(some 14), .alloc [.nils, .nils, (.bool false), (.int .i64 0)], none, 122984, []⟩,
 ⟨none, .store 4 (.t 13) (.t 64), none, 122992, [12, 5, 0, 4, 3, 1, 2, 11, 6, 10, 9, 7, 8, 13]⟩,
 ⟨none, .store 4 (.t 14) (.t 70), none, 123000, [13, 11, 6, 10, 9, 7, 8, 5, 0, 4, 3, 1, 2, 14, 12]⟩])
 (.seq
 (.region 16 true [
 ⟨(some 71), .faddr 0 (.t 13), none, 131072, []⟩,
 ⟨(some 72), .load true 2 (.t 71), none, 131080, [0]⟩,
 ⟨(some 73), .faddr 0 (.t 14), none, 131088, []⟩,
 ⟨(some 74), .load true 2 (.t 73), none, 131096, [2]⟩,
 ⟨(some 75), .call (.c (.fn 19 [])) [(.t 72), (.t 74)], none, 131104, [1, 0, 3, 2]⟩,
 ⟨(some 76), .not (.t 75), none, 131112, [4, 1, 0, 3, 2]⟩,
 ⟨(some 77), .copy (.t 76), none, 131120, [5, 4, 1, 0, 3, 2]⟩,
 ⟨(some 78), .faddr 2 (.t 13), (some (6, 77, false)), 131128, [6, 5, 4, 1, 0, 3, 2]⟩,
 ⟨(some 79), .load false 1 (.t 78), (some (6, 77, false)), 131136, [7, 6, 5, 4, 1, 0, 3, 2]⟩,
 ⟨(some 80), .faddr 2 (.t 14), (some (6, 77, false)), 131144, [6, 5, 4, 1, 0, 3, 2]⟩,
 ⟨(some 81), .load false 1 (.t 80), (some (6, 77, false)), 131152, [9, 6, 5, 4, 1, 0, 3, 2]⟩,
 ⟨(some 82), .eqb true (.t 79) (.t 81), (some (6, 77, false)), 131160, [8, 7, 6, 5, 4, 1, 0, 3, 2, 10, 9]⟩,
 ⟨(some 83), .pick (.t 77) (.c (.bool true)) (.t 82), none, 131168, [6, 5, 4, 1, 0, 3, 2, 11, 8, 7, 10, 9]⟩,
 ⟨(some 84), .copy (.t 83), none, 131176, [12, 6, 5, 4, 1, 0, 3, 2, 11, 8, 7, 10, 9]⟩,
 ⟨(some 85), .faddr 3 (.t 13), (some (13, 84, false)), 131184, [13, 12, 6, 5, 4, 1, 0, 3, 2, 11, 8, 7, 10, 9]⟩,
 ⟨(some 86), .load false 1 (.t 85), (some (13, 84, false)), 131192, [14, 13, 12, 6, 5, 4, 1, 0, 3, 2, 11, 8, 7, 10, 9]⟩,
 ⟨(some 87), .faddr 3 (.t 14), (some (13, 84, false)), 131200, [13, 12, 6, 5, 4, 1, 0, 3, 2, 11, 8, 7, 10, 9]⟩,
 ⟨(some 88), .load false 1 (.t 87), (some (13, 84, false)), 131208, [16, 13, 12, 6, 5, 4, 1, 0, 3, 2, 11, 8, 7, 10, 9]⟩,
 ⟨(some 89), .bin .neq (.t 86) (.t 88), (some (13, 84, false)), 131216, [15, 14, 13, 12, 6, 5, 4, 1, 0, 3, 2, 11, 8, 7, 10, 9, 17, 16]⟩,
 ⟨(some 90), .pick (.t 84) (.c (.bool true)) (.t 89), none, 131224, [13, 12, 6, 5, 4, 1, 0, 3, 2, 11, 8, 7, 10, 9, 18, 15, 14, 17, 16]⟩,
 ⟨(some 91), .copy (.t 90), none, 131232, [19, 13, 12, 6, 5, 4, 1, 0, 3, 2, 11, 8, 7, 10, 9, 18, 15, 14, 17, 16]⟩,
 ⟨(some 92), .load true 2 (.t 8), (some (20, 91, false)), 131240, [20, 19, 13, 12, 6, 5, 4, 1, 0, 3, 2, 11, 8, 7, 10, 9, 18, 15, 14, 17, 16]⟩,
 ⟨(some 93), .copy (.t 9), (some (20, 91, false)), 131248, [20, 19, 13, 12, 6, 5, 4, 1, 0, 3, 2, 11, 8, 7, 10, 9, 18, 15, 14, 17, 16]⟩,
 ⟨(some 94), .copy (.t 12), (some (20, 91, false)), 131256, [20, 19, 13, 12, 6, 5, 4, 1, 0, 3, 2, 11, 8, 7, 10, 9, 18, 15, 14, 17, 16]⟩,
 ⟨(some 95), .iaddr 5 (.t 93) (.t 94), (some (20, 91, false)), 131264, [22, 20, 19, 13, 12, 6, 5, 4, 1, 0, 3, 2, 11, 8, 7, 10, 9, 18, 15, 14, 17, 16, 23]⟩,
 ⟨(some 96), .load true 5 (.t 95), (some (20, 91, false)), 131272, [24, 22, 20, 19, 13, 12, 6, 5, 4, 1, 0, 3, 2, 11, 8, 7, 10, 9, 18, 15, 14, 17, 16, 23]⟩,
 ⟨(some 97), .call (.c (.fn 13 [])) [(.t 92), (.t 96)], (some (20, 91, false)), 131280, [21, 20, 19, 13, 12, 6, 5, 4, 1, 0, 3, 2, 11, 8, 7, 10, 9, 18, 15, 14, 17, 16, 25, 24, 22, 23]⟩,
 ⟨(some 98), .load true 2 (.t 8), (some (20, 91, false)), 131288, [20, 19, 13, 12, 6, 5, 4, 1, 0, 3, 2, 11, 8, 7, 10, 9, 18, 15, 14, 17, 16]⟩,
 ⟨(some 99), .copy (.t 9), (some (20, 91, false)), 131296, [20, 19, 13, 12, 6, 5, 4, 1, 0, 3, 2, 11, 8, 7, 10, 9, 18, 15, 14, 17, 16]⟩,
 ⟨(some 100), .copy (.t 12), (some (20, 91, false)), 131304, [20, 19, 13, 12, 6, 5, 4, 1, 0, 3, 2, 11, 8, 7, 10, 9, 18, 15, 14, 17, 16]⟩,
 ⟨(some 101), .iaddr 5 (.t 99) (.t 100), (some (20, 91, false)), 131312, [28, 20, 19, 13, 12, 6, 5, 4, 1, 0, 3, 2, 11, 8, 7, 10, 9, 18, 15, 14, 17, 16, 29]⟩,
 ⟨(some 102), .load true 5 (.t 101), (some (20, 91, false)), 131320, [30, 28, 20, 19, 13, 12, 6, 5, 4, 1, 0, 3, 2, 11, 8, 7, 10, 9, 18, 15, 14, 17, 16, 29]⟩,
 ⟨(some 103), .call (.c (.fn 26 [])) [(.t 98), (.t 102)], (some (20, 91, false)), 131328, [27, 20, 19, 13, 12, 6, 5, 4, 1, 0, 3, 2, 11, 8, 7, 10, 9, 18, 15, 14, 17, 16, 31, 30, 28, 29, 26, 21, 25, 24, 22, 23]⟩,
 ⟨(some 104), .call (.c (.fn 25 [])) [(.t 97), (.t 103)], (some (20, 91, false)), 131336, [26, 21, 20, 19, 13, 12, 6, 5, 4, 1, 0, 3, 2, 11, 8, 7, 10, 9, 18, 15, 14, 17, 16, 25, 24, 22, 23, 32, 27, 31, 30, 28, 29]⟩,
 ⟨(some 105), .not (.t 104), (some (20, 91, false)), 131344, [33, 26, 21, 20, 19, 13, 12, 6, 5, 4, 1, 0, 3, 2, 11, 8, 7, 10, 9, 18, 15, 14, 17, 16, 25, 24, 22, 23, 32, 27, 31, 30, 28, 29]⟩,
 ⟨(some 106), .pick (.t 91) (.c (.bool true)) (.t 105), none, 131352, [20, 19, 13, 12, 6, 5, 4, 1, 0, 3, 2, 11, 8, 7, 10, 9, 18, 15, 14, 17, 16, 34, 33, 26, 21, 25, 24, 22, 23, 32, 27, 31, 30, 28, 29]⟩,
 ⟨(some 107), .copy (.t 106), none, 131360, [35, 20, 19, 13, 12, 6, 5, 4, 1, 0, 3, 2, 11, 8, 7, 10, 9, 18, 15, 14, 17, 16, 34, 33, 26, 21, 25, 24, 22, 23, 32, 27, 31, 30, 28, 29]⟩,
 ⟨(some 108), .load true 2 (.t 8), (some (36, 107, false)), 131368, [36, 35, 20, 19, 13, 12, 6, 5, 4, 1, 0, 3, 2, 11, 8, 7, 10, 9, 18, 15, 14, 17, 16, 34, 33, 26, 21, 25, 24, 22, 23, 32, 27, 31, 30, 28, 29]⟩,
 ⟨(some 109), .copy (.t 9), (some (36, 107, false)), 131376, [36, 35, 20, 19, 13, 12, 6, 5, 4, 1, 0, 3, 2, 11, 8, 7, 10, 9, 18, 15, 14, 17, 16, 34, 33, 26, 21, 25, 24, 22, 23, 32, 27, 31, 30, 28, 29]⟩,
 ⟨(some 110), .copy (.t 12), (some (36, 107, false)), 131384, [36, 35, 20, 19, 13, 12, 6, 5, 4, 1, 0, 3, 2, 11, 8, 7, 10, 9, 18, 15, 14, 17, 16, 34, 33, 26, 21, 25, 24, 22, 23, 32, 27, 31, 30, 28, 29]⟩,
 ⟨(some 111), .iaddr 5 (.t 109) (.t 110), (some (36, 107, false)), 131392, [38, 36, 35, 20, 19, 13, 12, 6, 5, 4, 1, 0, 3, 2, 11, 8, 7, 10, 9, 18, 15, 14, 17, 16, 34, 33, 26, 21, 25, 24, 22, 23, 32, 27, 31, 30, 28, 29, 39]⟩,
 ⟨(some 112), .load true 5 (.t 111), (some (36, 107, false)), 131400, [40, 38, 36, 35, 20, 19, 13, 12, 6, 5, 4, 1, 0, 3, 2, 11, 8, 7, 10, 9, 18, 15, 14, 17, 16, 34, 33, 26, 21, 25, 24, 22, 23, 32, 27, 31, 30, 28, 29, 39]⟩,
 ⟨(some 113), .call (.c (.fn 16 [])) [(.t 108), (.t 112)], (some (36, 107, false)), 131408, [37, 36, 35, 20, 19, 13, 12, 6, 5, 4, 1, 0, 3, 2, 11, 8, 7, 10, 9, 18, 15, 14, 17, 16, 34, 33, 26, 21, 25, 24, 22, 23, 32, 27, 31, 30, 28, 29, 41, 40, 38, 39]⟩,
 ⟨(some 114), .load true 2 (.t 8), (some (36, 107, false)), 131416, [36, 35, 20, 19, 13, 12, 6, 5, 4, 1, 0, 3, 2, 11, 8, 7, 10, 9, 18, 15, 14, 17, 16, 34, 33, 26, 21, 25, 24, 22, 23, 32, 27, 31, 30, 28, 29]⟩,
 ⟨(some 115), .copy (.t 9), (some (36, 107, false)), 131424, [36, 35, 20, 19, 13, 12, 6, 5, 4, 1, 0, 3, 2, 11, 8, 7, 10, 9, 18, 15, 14, 17, 16, 34, 33, 26, 21, 25, 24, 22, 23, 32, 27, 31, 30, 28, 29]⟩,
 ⟨(some 116), .copy (.t 12), (some (36, 107, false)), 131432, [36, 35, 20, 19, 13, 12, 6, 5, 4, 1, 0, 3, 2, 11, 8, 7, 10, 9, 18, 15, 14, 17, 16, 34, 33, 26, 21, 25, 24, 22, 23, 32, 27, 31, 30, 28, 29]⟩,
 ⟨(some 117), .iaddr 5 (.t 115) (.t 116), (some (36, 107, false)), 131440, [44, 36, 35, 20, 19, 13, 12, 6, 5, 4, 1, 0, 3, 2, 11, 8, 7, 10, 9, 18, 15, 14, 17, 16, 34, 33, 26, 21, 25, 24, 22, 23, 32, 27, 31, 30, 28, 29, 45]⟩,
 ⟨(some 118), .load true 5 (.t 117), (some (36, 107, false)), 131448, [46, 44, 36, 35, 20, 19, 13, 12, 6, 5, 4, 1, 0, 3, 2, 11, 8, 7, 10, 9, 18, 15, 14, 17, 16, 34, 33, 26, 21, 25, 24, 22, 23, 32, 27, 31, 30, 28, 29, 45]⟩,
 ⟨(some 119), .call (.c (.fn 27 [])) [(.t 114), (.t 118)], (some (36, 107, false)), 131456, [43, 36, 35, 20, 19, 13, 12, 6, 5, 4, 1, 0, 3, 2, 11, 8, 7, 10, 9, 18, 15, 14, 17, 16, 34, 33, 26, 21, 25, 24, 22, 23, 32, 27, 31, 30, 28, 29, 47, 46, 44, 45, 42, 37, 41, 40, 38, 39]⟩,
 ⟨(some 120), .eqb true (.t 113) (.t 119), (some (36, 107, false)), 131464, [42, 37, 36, 35, 20, 19, 13, 12, 6, 5, 4, 1, 0, 3, 2, 11, 8, 7, 10, 9, 18, 15, 14, 17, 16, 34, 33, 26, 21, 25, 24, 22, 23, 32, 27, 31, 30, 28, 29, 41, 40, 38, 39, 48, 43, 47, 46, 44, 45]⟩,
 ⟨(some 121), .pick (.t 107) (.c (.bool true)) (.t 120), none, 131472, [36, 35, 20, 19, 13, 12, 6, 5, 4, 1, 0, 3, 2, 11, 8, 7, 10, 9, 18, 15, 14, 17, 16, 34, 33, 26, 21, 25, 24, 22, 23, 32, 27, 31, 30, 28, 29, 49, 42, 37, 41, 40, 38, 39, 48, 43, 47, 46, 44, 45]⟩])
 (.cond (.t 121)
 (.seq
 (.region 17 false [
 ⟨(some 6), .copy (.c (.bool false)), none, 139264, []⟩])
 .ret)
 .skip))))
 (.region 14 false [
 ⟨(some 57), .copy (.t 12), none, 114688, []⟩,
 ⟨(some 58), .bin .add (.t 57) (.c (.int .i64 1)), none, 114696, [0]⟩,
 ⟨(some 12), .copy (.t 58), none, 114704, [1, 0]⟩]))))))
 (.seq
 (.seq
 (.region 18 false [
 ⟨(some 15), .copy (.c (.int .i64 (-1))), none, 147456, []⟩])
 (.block 6
 (.loop
 (.seq
 (.seq
 (.region 19 false [
 ⟨(some 122), .copy (.t 15), none, 155648, []⟩,
 ⟨(some 123), .bin .lss (.t 122) (.c (.int .i64 6)), none, 155656, [0]⟩])
 (.cond (.t 123)
 .skip
 (.exit 6)))
 (.seq
 (.block 7
 (.seq
 (.region 21 true [
 ⟨(some 126), .load true 2 (.t 8), none, 172032, []⟩,
 ⟨(some 127), .copy (.t 15), none, 172040, []⟩,
 ⟨(some 128), .call (.c (.fn 28 [])) [(.t 126), (.t 127)], none, 172048, [0, 1]⟩,
 ⟨(some 129), .load true 2 (.t 8), none, 172056, []⟩,
 ⟨(some 130), .copy (.t 15), none, 172064, []⟩,
 ⟨(some 131), .call (.c (.fn 29 [])) [(.t 129), (.t 130)], none, 172072, [3, 4, 2, 0, 1]⟩,
 ⟨(some 132), .call (.c (.fn 25 [])) [(.t 128), (.t 131)], none, 172080, [2, 0, 1, 5, 3, 4]⟩,
 ⟨(some 133), .not (.t 132), none, 172088, [6, 2, 0, 1, 5, 3, 4]⟩])
 (.cond (.t 133)
 (.seq
 (.region 22 false [
 ⟨(some 6), .copy (.c (.bool false)), none, 180224, []⟩])
 .ret)
 .skip)))
 (.region 20 false [
 ⟨(some 124), .copy (.t 15), none, 163840, []⟩,
 ⟨(some 125), .bin .add (.t 124) (.c (.int .i64 1)), none, 163848, [0]⟩,
 ⟨(some 15), .copy (.t 125), none, 163856, [1, 0]⟩]))))))
 (.seq
 (.region 23 true [
 ⟨(some 134), .load true 2 (.t 8), none, 188416, []⟩,
 ⟨(some 135), .call (.c (.fn 20 [])) [(.t 134), (.c (.str [98, 47])), (.c (.str [97, 47]))], none, 188424, [0]⟩,
 ⟨(some 136), .load true 2 (.t 8), none, 188432, []⟩,
 ⟨(some 137), .call (.c (.fn 30 [])) [(.t 136), (.c (.str [98, 47])), (.c (.str [97, 47]))], none, 188440, [2, 1, 0]⟩,
 ⟨(some 138), .call (.c (.fn 19 [])) [(.t 135), (.t 137)], none, 188448, [1, 0, 3, 2]⟩,
 ⟨(some 139), .copy (.t 138), none, 188456, [4, 1, 0, 3, 2]⟩,
 ⟨(some 140), .load true 2 (.t 8), (some (5, 139, true)), 188464, [5, 4, 1, 0, 3, 2]⟩,
 ⟨(some 141), .call (.c (.fn 20 [])) [(.t 140), (.c (.str [97, 47])), (.c (.str [100, 47]))], (some (5, 139, true)), 188472, [6, 5, 4, 1, 0, 3, 2]⟩,
 ⟨(some 142), .load true 2 (.t 8), (some (5, 139, true)), 188480, [5, 4, 1, 0, 3, 2]⟩,
 ⟨(some 143), .call (.c (.fn 30 [])) [(.t 142), (.c (.str [97, 47])), (.c (.str [100, 47]))], (some (5, 139, true)), 188488, [8, 5, 4, 1, 0, 3, 2, 7, 6]⟩,
 ⟨(some 144), .call (.c (.fn 19 [])) [(.t 141), (.t 143)], (some (5, 139, true)), 188496, [7, 6, 5, 4, 1, 0, 3, 2, 9, 8]⟩,
 ⟨(some 145), .pick (.t 139) (.t 144) (.c (.bool false)), none, 188504, [5, 4, 1, 0, 3, 2, 10, 7, 6, 9, 8]⟩,
 ⟨(some 146), .copy (.t 145), none, 188512, [11, 5, 4, 1, 0, 3, 2, 10, 7, 6, 9, 8]⟩,
 ⟨(some 147), .copy (.t 7), (some (12, 146, true)), 188520, [12, 11, 5, 4, 1, 0, 3, 2, 10, 7, 6, 9, 8]⟩,
 ⟨(some 148), .pick (.t 146) (.t 147) (.c (.bool false)), none, 188528, [12, 11, 5, 4, 1, 0, 3, 2, 10, 7, 6, 9, 8, 13]⟩,
 ⟨(some 6), .copy (.t 148), none, 188536, [14, 12, 11, 5, 4, 1, 0, 3, 2, 10, 7, 6, 9, 8, 13]⟩])
 .ret)))))))))
theorem vf7 : VF Try.prog 7 = some (149, vc7, [.tmp 6]) := by kernel_rfl
set_option maxHeartbeats 8000000 in
theorem match_law_vc {rs : List RawL} (hl : rs.length ≤ 9223372036854775807) (hr : ∀ r ∈ rs, r.ok) {x : RawL} (hx : x.ok) (y : LockL) : VC Try.prog 7 [.sh false (rs.map encR), .agg (encR x), .agg (encL y)] [] (.bool true) [] := by
  have hp := play_vc hl hr 14 (by omega)
  have hS := play_scr (rs.take 14)
  have hn : (playL (rs.take 14)).held.length + (playL (rs.take 14)).waits.length ≤ 14 := Nat.le_trans hS.n (by rw [List.length_take]; omega)
  have hs := hS.s
  have hk := lock_vc hx
  generalize playL (rs.take 14) = s at hp hn hs hS
  generalize lockL x = z at hk
  have hss := sanity_vc
  have hRt := hs.toSoundW.right
  obtain ⟨p1, p2⟩ := scr_five hS
  have hb1 : (s.held.map encL).length ≤ 14 := by rw [List.length_map]; omega
  have hb2 : (s.waits.map encL).length ≤ 14 := by rw [List.length_map]; omega
  refine vc_of vf7 ?_ (Nat.le_of_ble_eq_true rfl) (by intro vs h; cases h)
  repeat first | refine o_copy ?_ | refine nl ?_ | refine ct_seq ?_ | refine rg ?_ | refine ct_block ?_ | refine bq ?_ | refine cv0 hss ?_ | refine cf hp ?_ | refine cv0 hk ?_ | refine o_loads ?_ | refine o_loadp ?_ | refine o_faddr ?_ | refine o_iaddr ?_ | refine o_iaddrO ?_ | refine o_iaddrR ?_ | refine o_add ?_ | refine o_cat ?_ | refine o_bin ?_ | refine o_lenq ?_ | refine o_len ?_ | refine o_loadsA ?_ | refine o_loadpA ?_ | refine o_box ?_ | refine o_alloc ?_ | refine o_bslice ?_ | refine o_store ?_ | refine o_not ?_ | refine o_pickt ?_ | refine o_pickf ?_ | refine o_eqb ?_ | refine skF ?_ | refine skU ?_
  refine ct_loopG (fun (i : Nat) => [(7, .bool true), (8, .ptr ⟨1, 16400⟩ 1 0 0), (9, ownV ⟨1, 24600⟩ (([z, y] ++ s.held.take i).map encL)), (10, .int .i64 i)]) (fun i => [(⟨1, 16400⟩, ⟨true, false, 2, [encLs s]⟩), (⟨1, 24600⟩, blkV 5 (([z, y] ++ s.held.take i).map encL))]) (fun i => s.held.length - i)
    (fun i => i ≤ s.held.length) 0 goesD (Nat.zero_le _) ?_
  intro i hi
  repeat first | refine o_copy ?_ | refine nl ?_ | refine ct_seq ?_ | refine rg ?_ | refine ct_block ?_ | refine bq ?_ | refine o_loads ?_ | refine o_loadp ?_ | refine o_faddr ?_ | refine o_iaddr ?_ | refine o_iaddrO ?_ | refine o_iaddrR ?_ | refine o_add ?_ | refine o_cat ?_ | refine o_bin ?_ | refine o_lenq ?_ | refine o_len ?_ | refine o_loadsA ?_ | refine o_loadpA ?_ | refine o_box ?_ | refine o_alloc ?_ | refine o_bslice ?_ | refine o_store ?_ | refine o_not ?_ | refine o_pickt ?_ | refine o_pickf ?_ | refine o_eqb ?_ | refine skF ?_ | refine skU ?_
  refine cnd (fun hh => ct_skip ?_) (fun hh => ct_exit ?_)
  · have hlt : i < s.held.length := by have h' := of_decide_eq_true hh; simp only [List.length_map] at h'; omega
    obtain ⟨u, hu⟩ : ∃ u, s.held[i]? = some u := ⟨_, List.getElem?_eq_getElem hlt⟩
    have hue := gm (enc := encL) (n := (i : Int)) hu (by omega)
    have htk : s.held.take (i + 1) = s.held.take i ++ [u] := by rw [List.take_add_one, hu]; rfl
    have h1 : (s.held.take i).length ≤ 14 := by rw [List.length_take]; omega
    repeat first | refine o_copy ?_ | refine nl ?_ | refine ct_seq ?_ | refine rg ?_ | refine ct_block ?_ | refine bq ?_ | refine o_v (vap encL u) ?_ | refine o_loads ?_ | refine o_loadp ?_ | refine o_faddr ?_ | refine o_iaddr ?_ | refine o_iaddrO ?_ | refine o_iaddrR ?_ | refine o_add ?_ | refine o_cat ?_ | refine o_bin ?_ | refine o_lenq ?_ | refine o_len ?_ | refine o_loadsA ?_ | refine o_loadpA ?_ | refine o_box ?_ | refine o_alloc ?_ | refine o_bslice ?_ | refine o_store ?_ | refine o_not ?_ | refine o_pickt ?_ | refine o_pickf ?_ | refine o_eqb ?_ | refine skF ?_ | refine skU ?_
    refine agn (Q := fun _ _ => True) (i + 1) (by omega) ?_
    rw [htk, ← List.append_assoc]
    exact goesD
  have he : i = s.held.length := by have h' := of_decide_eq_false hh; simp only [List.length_map] at h'; omega
  subst he
  rw [List.take_length]
  repeat first | refine o_copy ?_ | refine nl ?_ | refine ct_seq ?_ | refine rg ?_ | refine ct_block ?_ | refine bq ?_ | refine o_loads ?_ | refine o_loadp ?_ | refine o_faddr ?_ | refine o_iaddr ?_ | refine o_iaddrO ?_ | refine o_iaddrR ?_ | refine o_add ?_ | refine o_cat ?_ | refine o_bin ?_ | refine o_lenq ?_ | refine o_len ?_ | refine o_loadsA ?_ | refine o_loadpA ?_ | refine o_box ?_ | refine o_alloc ?_ | refine o_bslice ?_ | refine o_store ?_ | refine o_not ?_ | refine o_pickt ?_ | refine o_pickf ?_ | refine o_eqb ?_ | refine skF ?_ | refine skU ?_
  refine ct_loopG (fun (i : Nat) => [(7, .bool true), (8, .ptr ⟨1, 16400⟩ 1 0 0), (9, ownV ⟨1, 24600⟩ (([z, y] ++ s.held ++ s.waits.take i).map encL)), (11, .int .i64 i)]) (fun i => [(⟨1, 16400⟩, ⟨true, false, 2, [encLs s]⟩), (⟨1, 24600⟩, blkV 5 (([z, y] ++ s.held ++ s.waits.take i).map encL))]) (fun i => s.waits.length - i)
    (fun i => i ≤ s.waits.length) 0 (by rw [List.take_zero, List.append_nil]; exact goesD) (Nat.zero_le _) ?_
  intro i hi
  repeat first | refine o_copy ?_ | refine nl ?_ | refine ct_seq ?_ | refine rg ?_ | refine ct_block ?_ | refine bq ?_ | refine o_loads ?_ | refine o_loadp ?_ | refine o_faddr ?_ | refine o_iaddr ?_ | refine o_iaddrO ?_ | refine o_iaddrR ?_ | refine o_add ?_ | refine o_cat ?_ | refine o_bin ?_ | refine o_lenq ?_ | refine o_len ?_ | refine o_loadsA ?_ | refine o_loadpA ?_ | refine o_box ?_ | refine o_alloc ?_ | refine o_bslice ?_ | refine o_store ?_ | refine o_not ?_ | refine o_pickt ?_ | refine o_pickf ?_ | refine o_eqb ?_ | refine skF ?_ | refine skU ?_
  refine cnd (fun hh => ct_skip ?_) (fun hh => ct_exit ?_)
  · have hlt : i < s.waits.length := by have h' := of_decide_eq_true hh; simp only [List.length_map] at h'; omega
    obtain ⟨u, hu⟩ : ∃ u, s.waits[i]? = some u := ⟨_, List.getElem?_eq_getElem hlt⟩
    have hue := gm (enc := encL) (n := (i : Int)) hu (by omega)
    have htk : s.waits.take (i + 1) = s.waits.take i ++ [u] := by rw [List.take_add_one, hu]; rfl
    have h1 : (s.waits.take i).length ≤ 14 := by rw [List.length_take]; omega
    repeat first | refine o_copy ?_ | refine nl ?_ | refine ct_seq ?_ | refine rg ?_ | refine ct_block ?_ | refine bq ?_ | refine o_v (vap encL u) ?_ | refine o_loads ?_ | refine o_loadp ?_ | refine o_faddr ?_ | refine o_iaddr ?_ | refine o_iaddrO ?_ | refine o_iaddrR ?_ | refine o_add ?_ | refine o_cat ?_ | refine o_bin ?_ | refine o_lenq ?_ | refine o_len ?_ | refine o_loadsA ?_ | refine o_loadpA ?_ | refine o_box ?_ | refine o_alloc ?_ | refine o_bslice ?_ | refine o_store ?_ | refine o_not ?_ | refine o_pickt ?_ | refine o_pickf ?_ | refine o_eqb ?_ | refine skF ?_ | refine skU ?_
    refine agn (Q := fun _ _ => True) (i + 1) (by omega) ?_
    rw [htk, ← List.append_assoc]
    exact goesD
  have he : i = s.waits.length := by have h' := of_decide_eq_false hh; simp only [List.length_map] at h'; omega
  subst he
  rw [List.take_length]
  have hln : ([z, y] ++ s.held ++ s.waits).length ≤ 16 := by simp; omega
  generalize [z, y] ++ s.held ++ s.waits = L at hln ⊢
  repeat first | refine o_copy ?_ | refine nl ?_ | refine ct_seq ?_ | refine rg ?_ | refine ct_block ?_ | refine bq ?_ | refine o_loads ?_ | refine o_loadp ?_ | refine o_faddr ?_ | refine o_iaddr ?_ | refine o_iaddrO ?_ | refine o_iaddrR ?_ | refine o_add ?_ | refine o_cat ?_ | refine o_bin ?_ | refine o_lenq ?_ | refine o_len ?_ | refine o_loadsA ?_ | refine o_loadpA ?_ | refine o_box ?_ | refine o_alloc ?_ | refine o_bslice ?_ | refine o_store ?_ | refine o_not ?_ | refine o_pickt ?_ | refine o_pickf ?_ | refine o_eqb ?_ | refine skF ?_ | refine skU ?_
  refine ct_imp (Imp.wr (t := 9) rfl (l_own rfl rfl)) ?_
  refine ct_loopG (fun (i : Nat) => [(7, .bool true), (8, .ptr ⟨1, 16400⟩ 1 0 0), (9, .sh false (L.map encL)), (12, .int .i64 i)]) (fun i => [(⟨1, 16400⟩, ⟨true, false, 2, [encLs s]⟩)]) (fun i => L.length - i)
    (fun i => i ≤ L.length) 0 goesD (Nat.zero_le _) ?_
  intro i hi
  repeat first | refine o_copy ?_ | refine nl ?_ | refine ct_seq ?_ | refine rg ?_ | refine ct_block ?_ | refine bq ?_ | refine o_loads ?_ | refine o_loadp ?_ | refine o_faddr ?_ | refine o_iaddr ?_ | refine o_iaddrO ?_ | refine o_iaddrR ?_ | refine o_add ?_ | refine o_cat ?_ | refine o_bin ?_ | refine o_lenq ?_ | refine o_len ?_ | refine o_loadsA ?_ | refine o_loadpA ?_ | refine o_box ?_ | refine o_alloc ?_ | refine o_bslice ?_ | refine o_store ?_ | refine o_not ?_ | refine o_pickt ?_ | refine o_pickf ?_ | refine o_eqb ?_ | refine skF ?_ | refine skU ?_
  refine cnd (fun hh => ct_skip ?_) (fun hh => ct_exit ?_)
  · have hlt : i < L.length := by have h' := of_decide_eq_true hh; simp only [List.length_map] at h'; omega
    have hlt2 : (i : Int) < ((L.map encL).length : Nat) := by rw [List.length_map]; omega
    obtain ⟨u, hu⟩ : ∃ u, L[i]? = some u := ⟨_, List.getElem?_eq_getElem hlt⟩
    have hue := gm (enc := encL) (n := (i : Int)) hu (by omega)
    have t1 := htake_vc (l := s) (by omega) u
    have t2 := rtake_vc (l := s) (by omega) u
    rw [show ptakeL s u = rtakeL s u from take_eq hRt u] at t1
    have n1 := take_len s u
    have d1 := hdrop_vc (l := s) (by omega) u
    have d2 := rdrop_vc (l := s) (by omega) u
    rw [show dropG pmt s u = dropG rmt s u from drop_eq hRt u] at d1
    have n2 := drop_len s u
    have n3 := drop_glen s u
    have a1 := allows_vc (l := s) (by omega) (by omega) u
    have a2 := rallows_vc (l := s) (by omega) (by omega) u
    rw [allows_eq hRt] at a1
    generalize rtakeL s u = T at t1 t2 n1
    generalize dropG rmt s u = G at d1 d2 n2 n3
    have q1 := rsame_vc (a := T.1) (b := T.1) (by omega) (by omega) (by omega) (by omega)
    have q2 := hsame_vc (a := G) (b := G) (by omega) (by omega) (by omega) (by omega)
    rw [decide_eq_true rfl] at q1 q2
    obtain ⟨TL, tb, te⟩ := T
    obtain ⟨GL, gg, ge⟩ := G
    dsimp only [encT] at t1 t2 q1
    dsimp only [encGr, encG] at d1 d2 q2
    have g0 : (!tb == tb) = false := by simp
    have g3 : (!te == te) = false := by simp
    generalize rallowsL s u = ab at a1 a2
    have g4 : (!ab == ab) = false := by simp
    repeat first | refine o_copy ?_ | refine nl ?_ | refine ct_seq ?_ | refine rg ?_ | refine ct_block ?_ | refine bq ?_ | refine cf t1 ?_ | refine cf t2 ?_ | refine cv0 q1 ?_ | refine cf d1 ?_ | refine cf d2 ?_ | refine cv0 q2 ?_ | refine cv0 a1 ?_ | refine cv0 a2 ?_ | refine o_loads ?_ | refine o_loadp ?_ | refine o_faddr ?_ | refine o_iaddr ?_ | refine o_iaddrO ?_ | refine o_iaddrR ?_ | refine o_add ?_ | refine o_cat ?_ | refine o_bin ?_ | refine o_lenq ?_ | refine o_len ?_ | refine o_loadsA ?_ | refine o_loadpA ?_ | refine o_box ?_ | refine o_alloc ?_ | refine o_bslice ?_ | refine o_store ?_ | refine o_not ?_ | refine o_pickt ?_ | refine o_pickf ?_ | refine o_eqb ?_ | refine skF ?_ | refine skU ?_
    refine cndf (ct_skip ?_)
    repeat first | refine o_copy ?_ | refine nl ?_ | refine ct_seq ?_ | refine rg ?_ | refine ct_block ?_ | refine bq ?_ | refine o_loads ?_ | refine o_loadp ?_ | refine o_faddr ?_ | refine o_iaddr ?_ | refine o_iaddrO ?_ | refine o_iaddrR ?_ | refine o_add ?_ | refine o_cat ?_ | refine o_bin ?_ | refine o_lenq ?_ | refine o_len ?_ | refine o_loadsA ?_ | refine o_loadpA ?_ | refine o_box ?_ | refine o_alloc ?_ | refine o_bslice ?_ | refine o_store ?_ | refine o_not ?_ | refine o_pickt ?_ | refine o_pickf ?_ | refine o_eqb ?_ | refine skF ?_ | refine skU ?_
    exact agn (Q := fun _ _ => True) (i + 1) (by omega) (goesD (h5 := by repeat' first | exact trivial | apply And.intro | (intro h; first | exact absurd h Nat.one_ne_zero | rfl)))
  repeat first | refine o_copy ?_ | refine nl ?_ | refine ct_seq ?_ | refine rg ?_ | refine ct_block ?_ | refine bq ?_ | refine o_loads ?_ | refine o_loadp ?_ | refine o_faddr ?_ | refine o_iaddr ?_ | refine o_iaddrO ?_ | refine o_iaddrR ?_ | refine o_add ?_ | refine o_cat ?_ | refine o_bin ?_ | refine o_lenq ?_ | refine o_len ?_ | refine o_loadsA ?_ | refine o_loadpA ?_ | refine o_box ?_ | refine o_alloc ?_ | refine o_bslice ?_ | refine o_store ?_ | refine o_not ?_ | refine o_pickt ?_ | refine o_pickf ?_ | refine o_eqb ?_ | refine skF ?_ | refine skU ?_
  refine ct_loopG (fun (i : Nat) => [(7, .bool true), (8, .ptr ⟨1, 16400⟩ 1 0 0), (15, .int .i64 ((i : Int) - 1))]) (fun i => [(⟨1, 16400⟩, ⟨true, false, 2, [encLs s]⟩)]) (fun i => 7 - i)
    (fun i => i ≤ 7) 0 goesD (Nat.zero_le _) ?_
  intro i hi
  repeat first | refine o_copy ?_ | refine nl ?_ | refine ct_seq ?_ | refine rg ?_ | refine ct_block ?_ | refine bq ?_ | refine o_loads ?_ | refine o_loadp ?_ | refine o_faddr ?_ | refine o_iaddr ?_ | refine o_iaddrO ?_ | refine o_iaddrR ?_ | refine o_add ?_ | refine o_cat ?_ | refine o_bin ?_ | refine o_lenq ?_ | refine o_len ?_ | refine o_loadsA ?_ | refine o_loadpA ?_ | refine o_box ?_ | refine o_alloc ?_ | refine o_bslice ?_ | refine o_store ?_ | refine o_not ?_ | refine o_pickt ?_ | refine o_pickf ?_ | refine o_eqb ?_ | refine skF ?_ | refine skU ?_
  refine cnd (fun hh => ct_skip ?_) (fun hh => ct_exit ?_)
  · have hlt : (i : Int) - 1 < 6 := of_decide_eq_true hh
    have d1 := hleave_vc (l := s) (by omega) ((i : Int) - 1)
    have d2 := rleave_vc (l := s) (by omega) ((i : Int) - 1)
    rw [show leaveG pmt s ((i : Int) - 1) = leaveG rmt s ((i : Int) - 1) from leave_eq hRt _] at d1
    have n2 := leave_len s ((i : Int) - 1)
    have n3 := leave_glen s ((i : Int) - 1)
    generalize leaveG rmt s ((i : Int) - 1) = G at d1 d2 n2 n3
    have q2 := hsame_vc (a := G) (b := G) (by omega) (by omega) (by omega) (by omega)
    rw [decide_eq_true rfl] at q2
    obtain ⟨GL, gg, ge⟩ := G
    dsimp only [encGr, encG] at d1 d2 q2
    have e1 : (i : Int) - 1 + 1 = ((i + 1 : Nat) : Int) - 1 := by omega
    repeat first | refine o_copy ?_ | refine nl ?_ | refine ct_seq ?_ | refine rg ?_ | refine ct_block ?_ | refine bq ?_ | refine cf d1 ?_ | refine cf d2 ?_ | refine cv0 q2 ?_ | refine o_loads ?_ | refine o_loadp ?_ | refine o_faddr ?_ | refine o_iaddr ?_ | refine o_iaddrO ?_ | refine o_iaddrR ?_ | refine o_add ?_ | refine o_cat ?_ | refine o_bin ?_ | refine o_lenq ?_ | refine o_len ?_ | refine o_loadsA ?_ | refine o_loadpA ?_ | refine o_box ?_ | refine o_alloc ?_ | refine o_bslice ?_ | refine o_store ?_ | refine o_not ?_ | refine o_pickt ?_ | refine o_pickf ?_ | refine o_eqb ?_ | refine skF ?_ | refine skU ?_
    refine cndf (ct_skip ?_)
    repeat first | refine o_copy ?_ | refine nl ?_ | refine ct_seq ?_ | refine rg ?_ | refine ct_block ?_ | refine bq ?_ | refine o_loads ?_ | refine o_loadp ?_ | refine o_faddr ?_ | refine o_iaddr ?_ | refine o_iaddrO ?_ | refine o_iaddrR ?_ | refine o_add ?_ | refine o_cat ?_ | refine o_bin ?_ | refine o_lenq ?_ | refine o_len ?_ | refine o_loadsA ?_ | refine o_loadpA ?_ | refine o_box ?_ | refine o_alloc ?_ | refine o_bslice ?_ | refine o_store ?_ | refine o_not ?_ | refine o_pickt ?_ | refine o_pickf ?_ | refine o_eqb ?_ | refine skF ?_ | refine skU ?_
    refine agn (Q := fun _ _ => True) (i + 1) (by omega) ?_
    rw [← e1]
    exact goesD
  have m1 := pmoved_vc (l := s) (by omega) [98, 47] [97, 47] p1 p2 (by decide) (by decide)
  have m2 := rmoved_vc (l := s) (by omega) [98, 47] [97, 47] p1 p2 (by decide) (by decide)
  have m3 := pmoved_vc (l := s) (by omega) [97, 47] [100, 47] p1 p2 (by decide) (by decide)
  have m4 := rmoved_vc (l := s) (by omega) [97, 47] [100, 47] p1 p2 (by decide) (by decide)
  have pl : ∀ x ∈ s.held ++ s.waits, ∀ (f t : Str), t.length = 2 → (piL f t x.path).length ≤ 200 := fun x hx f t ht => by
    have h1 := five_len (hS.p x hx)
    have h2 := pi_len (f := f) (t := t) (p := x.path)
    omega
  rw [show movedG pmt s [98, 47] [97, 47] = movedG rmt s [98, 47] [97, 47] from moved_eq hRt (fun x hx _ => pl x hx _ _ rfl)] at m1
  rw [show movedG pmt s [97, 47] [100, 47] = movedG rmt s [97, 47] [100, 47] from moved_eq hRt (fun x hx _ => pl x hx _ _ rfl)] at m3
  have n1 := moved_len s [98, 47] [97, 47]
  have n2 := moved_len s [97, 47] [100, 47]
  generalize movedG rmt s [98, 47] [97, 47] = M1 at m1 m2 n1
  generalize movedG rmt s [97, 47] [100, 47] = M2 at m3 m4 n2
  have q1 := rsame_vc (a := M1) (b := M1) (by omega) (by omega) (by omega) (by omega)
  have q2 := rsame_vc (a := M2) (b := M2) (by omega) (by omega) (by omega) (by omega)
  rw [decide_eq_true rfl] at q1 q2
  repeat first | refine o_copy ?_ | refine nl ?_ | refine ct_seq ?_ | refine rg ?_ | refine ct_block ?_ | refine bq ?_ | refine cf m1 ?_ | refine cf m2 ?_ | refine cf m3 ?_ | refine cf m4 ?_ | refine cv0 q1 ?_ | refine cv0 q2 ?_ | refine o_loads ?_ | refine o_loadp ?_ | refine o_faddr ?_ | refine o_iaddr ?_ | refine o_iaddrO ?_ | refine o_iaddrR ?_ | refine o_add ?_ | refine o_cat ?_ | refine o_bin ?_ | refine o_lenq ?_ | refine o_len ?_ | refine o_loadsA ?_ | refine o_loadpA ?_ | refine o_box ?_ | refine o_alloc ?_ | refine o_bslice ?_ | refine o_store ?_ | refine o_not ?_ | refine o_pickt ?_ | refine o_pickf ?_ | refine o_eqb ?_ | refine skF ?_ | refine skU ?_
  exact ct_ret ⟨.inr rfl, oB rfl⟩
theorem lockMatches_in (l : List (List PV)) (il : InTy (.sl [.int .u8, .int .u8, .int .u8, .int .u8, .int .u8]) (.sh false l)) (q : List PV) (n : q.length = [CTy.int .u8, .int .u8, .int .u8, .int .u8, .int .u8].length) (i : ∀ (j : Nat) (c : CTy) (p : PV), [CTy.int .u8, .int .u8, .int .u8, .int .u8, .int .u8][j]? = some c → q[j]? = some p → InTy c p)
    (q2 : List PV) (n2 : q2.length = [CTy.int .i64, .str, .int .i64, .int .i64, .bool].length) (i2 : ∀ (j : Nat) (c : CTy) (p : PV), [CTy.int .i64, .str, .int .i64, .int .i64, .bool][j]? = some c → q2[j]? = some p → InTy c p) : VC Try.prog 7 [.sh false l, .agg q, .agg q2] [] (.bool true) [] := by
  obtain ⟨rs, rfl, h1, h2⟩ := decRs il
  obtain ⟨r, rfl, hr⟩ := decRaw n i
  obtain ⟨y, rfl⟩ := decLock n2 i2
  exact match_law_vc h2 h1 hr y
end Go.Proofs
