/- Tc -/
import Derived.Test.YtjjkeakejclknaaTb
open Go.V Go.Pu
set_option linter.unusedVariables false
set_option linter.unusedSimpArgs false
set_option maxRecDepth 20000
namespace Go.Proofs
/-- downspout/downspoutlaw04.TableUnions -/
def vc8 : VCode :=
 (.seq
 (.region 0 false [
 ⟨(some 1), .box (.t 0), none, 0, []⟩,
 ⟨(some 2), .copy (.c (.bool false)), none, 8, []⟩])
 (.seq
 (.region 1 false [
 ⟨(some 14), .call (.c (.fn 10 [])) [], none, 8192, []⟩,
 ⟨(some 3), .copy (.t 14), none, 8200, [0]⟩])
 (.seq
 (.region 2 true [
 ⟨(some 15), .iaddrA 3 1 (.t 1) (.c (.int .i64 0)), none, 16384, []⟩,
 ⟨(some 16), .load false 1 (.t 15), none, 16392, [0]⟩,
 ⟨(some 17), .call (.c (.fn 11 [])) [(.t 16)], none, 16400, [1, 0]⟩,
 ⟨(some 18), .iaddrA 3 1 (.t 1) (.c (.int .i64 1)), none, 16408, []⟩,
 ⟨(some 19), .load false 1 (.t 18), none, 16416, [3]⟩,
 ⟨(some 20), .call (.c (.fn 11 [])) [(.t 19)], none, 16424, [4, 3, 2, 1, 0]⟩,
 ⟨(some 21), .iaddrA 3 1 (.t 1) (.c (.int .i64 2)), none, 16432, []⟩,
 ⟨(some 22), .load false 1 (.t 21), none, 16440, [6]⟩,
 ⟨(some 23), .call (.c (.fn 11 [])) [(.t 22)], none, 16448, [7, 6, 5, 4, 3, 2, 1, 0]⟩,
 ⟨(some 4), .copy (.t 17), none, 16456, [2, 1, 0, 8, 7, 6, 5, 4, 3]⟩,
 ⟨(some 5), .copy (.t 20), none, 16464, [5, 4, 3, 2, 1, 0, 9, 8, 7, 6]⟩,
 ⟨(some 6), .copy (.t 23), none, 16472, [8, 7, 6, 5, 4, 3, 2, 1, 0, 10, 9]⟩])
 (.seq
 (.region 3 false [
 ⟨(some 24), .copy (.t 4), none, 24576, []⟩,
 ⟨(some 25), .copy (.t 5), none, 24584, []⟩,
 ⟨(some 26), .call (.c (.fn 25 [])) [(.t 24), (.t 25)], none, 24592, [0, 1]⟩,
 ⟨(some 7), .copy (.t 26), none, 24600, [2, 0, 1]⟩])
 (.seq
 (.region 4 false [
 ⟨(some 27), .copy (.t 7), none, 32768, []⟩,
 ⟨(some 28), .copy (.t 6), none, 32776, []⟩,
 ⟨(some 29), .call (.c (.fn 25 [])) [(.t 27), (.t 28)], none, 32784, [0, 1]⟩,
 ⟨(some 30), .copy (.t 4), none, 32792, []⟩,
 ⟨(some 31), .copy (.t 5), none, 32800, []⟩,
 ⟨(some 32), .copy (.t 6), none, 32808, []⟩,
 ⟨(some 33), .call (.c (.fn 25 [])) [(.t 31), (.t 32)], none, 32816, [4, 5, 2, 0, 1]⟩,
 ⟨(some 34), .call (.c (.fn 25 [])) [(.t 30), (.t 33)], none, 32824, [3, 6, 4, 5, 2, 0, 1]⟩,
 ⟨(some 8), .copy (.t 29), none, 32832, [2, 0, 1, 7, 3, 6, 4, 5]⟩,
 ⟨(some 9), .copy (.t 34), none, 32840, [7, 3, 6, 4, 5, 2, 0, 1, 8]⟩])
 (.seq
 (.seq
 (.region 5 false [
 ⟨(some 35), .copy (.t 7), none, 40960, []⟩,
 ⟨(some 36), .call (.c (.fn 31 [])) [(.t 35)], none, 40968, [0]⟩,
 ⟨(some 37), .not (.t 36), none, 40976, [1, 0]⟩,
 ⟨(some 38), .copy (.t 37), none, 40984, [2, 1, 0]⟩,
 ⟨(some 39), .copy (.t 8), (some (3, 38, false)), 40992, [3, 2, 1, 0]⟩,
 ⟨(some 40), .copy (.t 9), (some (3, 38, false)), 41000, [3, 2, 1, 0]⟩,
 ⟨(some 41), .call (.c (.fn 17 [])) [(.t 39), (.t 40)], (some (3, 38, false)), 41008, [4, 3, 2, 1, 0, 5]⟩,
 ⟨(some 42), .not (.t 41), (some (3, 38, false)), 41016, [6, 4, 3, 2, 1, 0, 5]⟩,
 ⟨(some 43), .pick (.t 38) (.c (.bool true)) (.t 42), none, 41024, [3, 2, 1, 0, 7, 6, 4, 5]⟩,
 ⟨(some 44), .copy (.t 43), none, 41032, [8, 3, 2, 1, 0, 7, 6, 4, 5]⟩,
 ⟨(some 45), .copy (.t 4), (some (9, 44, false)), 41040, [9, 8, 3, 2, 1, 0, 7, 6, 4, 5]⟩,
 ⟨(some 46), .copy (.t 4), (some (9, 44, false)), 41048, [9, 8, 3, 2, 1, 0, 7, 6, 4, 5]⟩,
 ⟨(some 47), .call (.c (.fn 25 [])) [(.t 45), (.t 46)], (some (9, 44, false)), 41056, [10, 9, 8, 3, 2, 1, 0, 7, 6, 4, 5, 11]⟩,
 ⟨(some 48), .copy (.t 4), (some (9, 44, false)), 41064, [9, 8, 3, 2, 1, 0, 7, 6, 4, 5]⟩,
 ⟨(some 49), .call (.c (.fn 17 [])) [(.t 47), (.t 48)], (some (9, 44, false)), 41072, [12, 10, 9, 8, 3, 2, 1, 0, 7, 6, 4, 5, 11, 13]⟩,
 ⟨(some 50), .not (.t 49), (some (9, 44, false)), 41080, [14, 12, 10, 9, 8, 3, 2, 1, 0, 7, 6, 4, 5, 11, 13]⟩,
 ⟨(some 51), .pick (.t 44) (.c (.bool true)) (.t 50), none, 41088, [9, 8, 3, 2, 1, 0, 7, 6, 4, 5, 15, 14, 12, 10, 11, 13]⟩,
 ⟨(some 52), .copy (.t 51), none, 41096, [16, 9, 8, 3, 2, 1, 0, 7, 6, 4, 5, 15, 14, 12, 10, 11, 13]⟩,
 ⟨(some 53), .copy (.t 4), (some (17, 52, false)), 41104, [17, 16, 9, 8, 3, 2, 1, 0, 7, 6, 4, 5, 15, 14, 12, 10, 11, 13]⟩,
 ⟨(some 54), .call (.c (.fn 25 [])) [(.t 53), (.c .nils)], (some (17, 52, false)), 41112, [18, 17, 16, 9, 8, 3, 2, 1, 0, 7, 6, 4, 5, 15, 14, 12, 10, 11, 13]⟩,
 ⟨(some 55), .copy (.t 4), (some (17, 52, false)), 41120, [17, 16, 9, 8, 3, 2, 1, 0, 7, 6, 4, 5, 15, 14, 12, 10, 11, 13]⟩,
 ⟨(some 56), .call (.c (.fn 17 [])) [(.t 54), (.t 55)], (some (17, 52, false)), 41128, [19, 18, 17, 16, 9, 8, 3, 2, 1, 0, 7, 6, 4, 5, 15, 14, 12, 10, 11, 13, 20]⟩,
 ⟨(some 57), .not (.t 56), (some (17, 52, false)), 41136, [21, 19, 18, 17, 16, 9, 8, 3, 2, 1, 0, 7, 6, 4, 5, 15, 14, 12, 10, 11, 13, 20]⟩,
 ⟨(some 58), .pick (.t 52) (.c (.bool true)) (.t 57), none, 41144, [17, 16, 9, 8, 3, 2, 1, 0, 7, 6, 4, 5, 15, 14, 12, 10, 11, 13, 22, 21, 19, 18, 20]⟩,
 ⟨(some 59), .copy (.t 58), none, 41152, [23, 17, 16, 9, 8, 3, 2, 1, 0, 7, 6, 4, 5, 15, 14, 12, 10, 11, 13, 22, 21, 19, 18, 20]⟩,
 ⟨(some 60), .copy (.t 4), (some (24, 59, false)), 41160, [24, 23, 17, 16, 9, 8, 3, 2, 1, 0, 7, 6, 4, 5, 15, 14, 12, 10, 11, 13, 22, 21, 19, 18, 20]⟩,
 ⟨(some 61), .call (.c (.fn 25 [])) [(.c .nils), (.t 60)], (some (24, 59, false)), 41168, [25, 24, 23, 17, 16, 9, 8, 3, 2, 1, 0, 7, 6, 4, 5, 15, 14, 12, 10, 11, 13, 22, 21, 19, 18, 20]⟩,
 ⟨(some 62), .copy (.t 4), (some (24, 59, false)), 41176, [24, 23, 17, 16, 9, 8, 3, 2, 1, 0, 7, 6, 4, 5, 15, 14, 12, 10, 11, 13, 22, 21, 19, 18, 20]⟩,
 ⟨(some 63), .call (.c (.fn 17 [])) [(.t 61), (.t 62)], (some (24, 59, false)), 41184, [26, 25, 24, 23, 17, 16, 9, 8, 3, 2, 1, 0, 7, 6, 4, 5, 15, 14, 12, 10, 11, 13, 22, 21, 19, 18, 20, 27]⟩,
 ⟨(some 64), .not (.t 63), (some (24, 59, false)), 41192, [28, 26, 25, 24, 23, 17, 16, 9, 8, 3, 2, 1, 0, 7, 6, 4, 5, 15, 14, 12, 10, 11, 13, 22, 21, 19, 18, 20, 27]⟩,
 ⟨(some 65), .pick (.t 59) (.c (.bool true)) (.t 64), none, 41200, [24, 23, 17, 16, 9, 8, 3, 2, 1, 0, 7, 6, 4, 5, 15, 14, 12, 10, 11, 13, 22, 21, 19, 18, 20, 29, 28, 26, 25, 27]⟩])
 (.cond (.t 65)
 (.seq
 (.region 6 false [
 ⟨(some 2), .copy (.c (.bool false)), none, 49152, []⟩])
 .ret)
 .skip))
 (.seq
 (.region 7 false [
 ⟨(some 66), .bslice 3 [(.str []), (.str []), (.int .i64 0)] 0 [], none, 57344, []⟩,
 ⟨(some 10), .copy (.t 66), none, 57352, [0]⟩])
 (.seq
 (.seq
 (.region 8 false [
 ⟨(some 11), .copy (.c (.int .i64 0)), none, 65536, []⟩])
 (.block 0
 (.loop
 (.seq
 (.seq
 (.region 9 false [
 ⟨(some 67), .copy (.t 11), none, 73728, []⟩,
 ⟨(some 68), .copy (.t 5), none, 73736, []⟩,
 ⟨(some 69), .len (.t 68), none, 73744, [1]⟩,
 ⟨(some 70), .bin .lss (.t 67) (.t 69), none, 73752, [0, 2, 1]⟩])
 (.cond (.t 70)
 .skip
 (.exit 0)))
 (.seq
 (.block 1
 (.seq
 (.region 11 false [
 ⟨(some 74), .copy (.t 4), none, 90112, []⟩,
 ⟨(some 75), .copy (.t 5), none, 90120, []⟩,
 ⟨(some 76), .copy (.t 11), none, 90128, []⟩,
 ⟨(some 77), .iaddr 3 (.t 75) (.t 76), none, 90136, [1, 2]⟩,
 ⟨(some 78), .faddr 0 (.t 77), none, 90144, [3, 1, 2]⟩,
 ⟨(some 79), .load false 1 (.t 78), none, 90152, [4, 3, 1, 2]⟩,
 ⟨(some 80), .call (.c (.fn 16 [])) [(.t 74), (.t 79)], none, 90160, [0, 5, 4, 3, 1, 2]⟩,
 ⟨(some 73), .copy (.t 80), none, 90168, [6, 0, 5, 4, 3, 1, 2]⟩,
 ⟨(some 81), .extract (.t 73) 0, none, 90176, [7, 6, 0, 5, 4, 3, 1, 2]⟩,
 ⟨(some 82), .extract (.t 73) 1, none, 90184, [7, 6, 0, 5, 4, 3, 1, 2]⟩,
 ⟨(some 12), .alloc [(.str []), (.str []), (.int .i64 0)], none, 90192, []⟩,
 ⟨none, .store 3 (.t 12) (.t 81), none, 90200, [10, 8, 7, 6, 0, 5, 4, 3, 1, 2]⟩,
 ⟨(some 13), .copy (.t 82), none, 90208, [9, 7, 6, 0, 5, 4, 3, 1, 2, 11, 10, 8]⟩])
 (.seq
 (.region 12 false [
 ⟨(some 83), .copy (.t 13), none, 98304, []⟩,
 ⟨(some 84), .not (.t 83), none, 98312, [0]⟩])
 (.cond (.t 84)
 (.region 13 false [
 ⟨(some 85), .copy (.t 10), none, 106496, []⟩,
 ⟨(some 86), .copy (.t 5), none, 106504, []⟩,
 ⟨(some 87), .copy (.t 11), none, 106512, []⟩,
 ⟨(some 88), .iaddr 3 (.t 86) (.t 87), none, 106520, [1, 2]⟩,
 ⟨(some 89), .load true 3 (.t 88), none, 106528, [3, 1, 2]⟩,
 ⟨(some 90), .bslice 3 [(.str []), (.str []), (.int .i64 0)] 1 [(0, (.t 89))], none, 106536, [4, 3, 1, 2]⟩,
 ⟨(some 91), .append 3 40 [(.str []), (.str []), (.int .i64 0)] (.t 85) (.t 90), none, 106544, [0, 5, 4, 3, 1, 2]⟩,
 ⟨(some 10), .copy (.t 91), none, 106552, [6, 0, 5, 4, 3, 1, 2]⟩])
 .skip))))
 (.region 10 false [
 ⟨(some 71), .copy (.t 11), none, 81920, []⟩,
 ⟨(some 72), .bin .add (.t 71) (.c (.int .i64 1)), none, 81928, [0]⟩,
 ⟨(some 11), .copy (.t 72), none, 81936, [1, 0]⟩]))))))
 (.seq
 (.region 14 false [
 ⟨(some 92), .copy (.t 4), none, 114688, []⟩,
 ⟨(some 93), .copy (.t 10), none, 114696, []⟩,
 ⟨(some 94), .call (.c (.fn 25 [])) [(.t 92), (.t 93)], none, 114704, [0, 1]⟩,
 ⟨(some 95), .copy (.t 10), none, 114712, []⟩,
 ⟨(some 96), .copy (.t 4), none, 114720, []⟩,
 ⟨(some 97), .call (.c (.fn 25 [])) [(.t 95), (.t 96)], none, 114728, [3, 4, 2, 0, 1]⟩,
 ⟨(some 98), .call (.c (.fn 17 [])) [(.t 94), (.t 97)], none, 114736, [2, 0, 1, 5, 3, 4]⟩,
 ⟨(some 99), .copy (.t 98), none, 114744, [6, 2, 0, 1, 5, 3, 4]⟩,
 ⟨(some 100), .copy (.t 4), (some (7, 99, true)), 114752, [7, 6, 2, 0, 1, 5, 3, 4]⟩,
 ⟨(some 101), .copy (.t 10), (some (7, 99, true)), 114760, [7, 6, 2, 0, 1, 5, 3, 4]⟩,
 ⟨(some 102), .call (.c (.fn 25 [])) [(.t 100), (.t 101)], (some (7, 99, true)), 114768, [8, 7, 6, 2, 0, 1, 5, 3, 4, 9]⟩,
 ⟨(some 103), .len (.t 102), (some (7, 99, true)), 114776, [10, 8, 7, 6, 2, 0, 1, 5, 3, 4, 9]⟩,
 ⟨(some 104), .copy (.t 4), (some (7, 99, true)), 114784, [7, 6, 2, 0, 1, 5, 3, 4]⟩,
 ⟨(some 105), .len (.t 104), (some (7, 99, true)), 114792, [12, 7, 6, 2, 0, 1, 5, 3, 4]⟩,
 ⟨(some 106), .copy (.t 10), (some (7, 99, true)), 114800, [7, 6, 2, 0, 1, 5, 3, 4]⟩,
 ⟨(some 107), .len (.t 106), (some (7, 99, true)), 114808, [14, 7, 6, 2, 0, 1, 5, 3, 4]⟩,
 ⟨(some 108), .bin .add (.t 105) (.t 107), (some (7, 99, true)), 114816, [13, 12, 7, 6, 2, 0, 1, 5, 3, 4, 15, 14]⟩,
 ⟨(some 109), .bin .eql (.t 103) (.t 108), (some (7, 99, true)), 114824, [11, 10, 8, 7, 6, 2, 0, 1, 5, 3, 4, 9, 16, 13, 12, 15, 14]⟩,
 ⟨(some 110), .pick (.t 99) (.t 109) (.c (.bool false)), none, 114832, [7, 6, 2, 0, 1, 5, 3, 4, 17, 11, 10, 8, 9, 16, 13, 12, 15, 14]⟩,
 ⟨(some 111), .copy (.t 110), none, 114840, [18, 7, 6, 2, 0, 1, 5, 3, 4, 17, 11, 10, 8, 9, 16, 13, 12, 15, 14]⟩,
 ⟨(some 112), .copy (.t 7), (some (19, 111, true)), 114848, [19, 18, 7, 6, 2, 0, 1, 5, 3, 4, 17, 11, 10, 8, 9, 16, 13, 12, 15, 14]⟩,
 ⟨(some 113), .len (.t 112), (some (19, 111, true)), 114856, [20, 19, 18, 7, 6, 2, 0, 1, 5, 3, 4, 17, 11, 10, 8, 9, 16, 13, 12, 15, 14]⟩,
 ⟨(some 114), .copy (.t 4), (some (19, 111, true)), 114864, [19, 18, 7, 6, 2, 0, 1, 5, 3, 4, 17, 11, 10, 8, 9, 16, 13, 12, 15, 14]⟩,
 ⟨(some 115), .len (.t 114), (some (19, 111, true)), 114872, [22, 19, 18, 7, 6, 2, 0, 1, 5, 3, 4, 17, 11, 10, 8, 9, 16, 13, 12, 15, 14]⟩,
 ⟨(some 116), .copy (.t 10), (some (19, 111, true)), 114880, [19, 18, 7, 6, 2, 0, 1, 5, 3, 4, 17, 11, 10, 8, 9, 16, 13, 12, 15, 14]⟩,
 ⟨(some 117), .len (.t 116), (some (19, 111, true)), 114888, [24, 19, 18, 7, 6, 2, 0, 1, 5, 3, 4, 17, 11, 10, 8, 9, 16, 13, 12, 15, 14]⟩,
 ⟨(some 118), .bin .add (.t 115) (.t 117), (some (19, 111, true)), 114896, [23, 22, 19, 18, 7, 6, 2, 0, 1, 5, 3, 4, 17, 11, 10, 8, 9, 16, 13, 12, 15, 14, 25, 24]⟩,
 ⟨(some 119), .bin .eql (.t 113) (.t 118), (some (19, 111, true)), 114904, [21, 20, 19, 18, 7, 6, 2, 0, 1, 5, 3, 4, 17, 11, 10, 8, 9, 16, 13, 12, 15, 14, 26, 23, 22, 25, 24]⟩,
 ⟨(some 120), .pick (.t 111) (.t 119) (.c (.bool false)), none, 114912, [19, 18, 7, 6, 2, 0, 1, 5, 3, 4, 17, 11, 10, 8, 9, 16, 13, 12, 15, 14, 27, 21, 20, 26, 23, 22, 25, 24]⟩,
 ⟨(some 121), .copy (.t 120), none, 114920, [28, 19, 18, 7, 6, 2, 0, 1, 5, 3, 4, 17, 11, 10, 8, 9, 16, 13, 12, 15, 14, 27, 21, 20, 26, 23, 22, 25, 24]⟩,
 ⟨(some 122), .copy (.t 3), (some (29, 121, true)), 114928, [29, 28, 19, 18, 7, 6, 2, 0, 1, 5, 3, 4, 17, 11, 10, 8, 9, 16, 13, 12, 15, 14, 27, 21, 20, 26, 23, 22, 25, 24]⟩,
 ⟨(some 123), .pick (.t 121) (.t 122) (.c (.bool false)), none, 114936, [29, 28, 19, 18, 7, 6, 2, 0, 1, 5, 3, 4, 17, 11, 10, 8, 9, 16, 13, 12, 15, 14, 27, 21, 20, 26, 23, 22, 25, 24, 30]⟩,
 ⟨(some 2), .copy (.t 123), none, 114944, [31, 29, 28, 19, 18, 7, 6, 2, 0, 1, 5, 3, 4, 17, 11, 10, 8, 9, 16, 13, 12, 15, 14, 27, 21, 20, 26, 23, 22, 25, 24, 30]⟩])
 .ret)))))))))
theorem vf8 : VF Try.prog 8 = some (124, vc8, [.tmp 2]) := by kernel_rfl
/-! The law of Union -/
theorem same_t {q p : PV} {l : List PairL} (hq : Sl q (l.map encP)) (hp : Sl p (l.map encP)) (hl : l.length ≤ 1000000) : VC Try.prog 17 [q, p] [] (.bool true) [] := by
  have h := same_vc hq hp (by unfold maxLen; omega) (by unfold maxLen; omega)
  rwa [show decide (l = l) = true from decide_eq_true rfl] at h
theorem rest_step {a b : List PairL} {i : Nat} {y : PairL} (hy : b[i]? = some y) : restP a (b.take (i + 1)) = if (findP a y.key).isSome = true then restP a (b.take i) else restP a (b.take i) ++ [y] := by
  rw [List.take_add_one, hy]
  simp only [restP, List.filter_append, Option.toList_some, List.filter_cons, List.filter_nil]
  cases h : (findP a y.key).isSome <;> simp
set_option maxHeartbeats 4000000 in
theorem unions_law_vc {l1 l2 l3 : List RawL} : VC Try.prog 8 [.agg [.sh false (l1.map encR), .sh false (l2.map encR), .sh false (l3.map encR)]] [] (.bool true) [] := by
  refine vc_of vf8 ?_ (Nat.le_of_ble_eq_true rfl) (by intro vs h; cases h)
  have m1 := made_vc (q := .sh false (l1.map encR)) Sl.sh
  have m2 := made_vc (q := .sh false (l2.map encR)) Sl.sh
  have m3 := made_vc (q := .sh false (l3.map encR)) Sl.sh
  have n1 := madeL_len l1
  have n2 := madeL_len l2
  have n3 := madeL_len l3
  have s1 := madeL_srt l1
  have s2 := madeL_srt l2
  have s3 := madeL_srt l3
  generalize madeL l1 = a at *
  generalize madeL l2 = b at *
  generalize madeL l3 = c at *
  have uab := union_vc (q := .sh false (a.map encP)) (p := .sh false (b.map encP)) (a := a) (b := b) Sl.sh Sl.sh (by omega) (by omega)
  have ubc := union_vc (q := .sh false (b.map encP)) (p := .sh false (c.map encP)) (a := b) (b := c) Sl.sh Sl.sh (by omega) (by omega)
  have lab := union_len a b
  have lbc := union_len b c
  have sab := union_srt s1 s2
  have sbc := union_srt s2 s3
  have has := union_assoc s1 s2 s3
  have hru := rest_union s1 s2
  generalize unionL a b = ab at *
  generalize unionL b c = bc at *
  have ul := union_vc (q := .sh false (ab.map encP)) (p := .sh false (c.map encP)) (a := ab) (b := c) Sl.sh Sl.sh (by omega) (by omega)
  have ur := union_vc (q := .sh false (a.map encP)) (p := .sh false (bc.map encP)) (a := a) (b := bc) Sl.sh Sl.sh (by omega) (by omega)
  have ll := union_len ab c
  rw [← has] at ur
  generalize unionL ab c = abc at *
  have uaa := union_vc (q := .sh false (a.map encP)) (p := .sh false (a.map encP)) (a := a) (b := a) Sl.sh Sl.sh (by omega) (by omega)
  have uan := union_vc (q := .sh false (a.map encP)) (p := .nils) (a := a) (b := []) Sl.sh Sl.nils (by omega) (by simp)
  have una := union_vc (q := .nils) (p := .sh false (a.map encP)) (a := []) (b := a) Sl.nils Sl.sh (by simp) (by omega)
  rw [union_self s1] at uaa
  rw [union_nil] at uan
  rw [nil_union] at una
  have v1 := rvalid_vc (q := .sh false (ab.map encP)) (xs := ab) Sl.sh (by omega)
  rw [sortedL_iff.2 sab] at v1
  have t1 := same_t (q := .sh false (abc.map encP)) (p := .sh false (abc.map encP)) (l := abc) Sl.sh Sl.sh (by omega)
  have t2 := same_t (q := .sh false (a.map encP)) (p := .sh false (a.map encP)) (l := a) Sl.sh Sl.sh (by omega)
  repeat first | refine o_copy ?_ | refine nl ?_ | refine ct_seq ?_ | refine rg ?_ | refine ct_block ?_ | refine bq ?_ | refine cv0 sanity_vc ?_ | refine cv m1 ?_ | refine cv m2 ?_ | refine cv m3 ?_ | refine cv uab ?_ | refine cv ul ?_ | refine cv ubc ?_ | refine cv ur ?_ | refine cv0 v1 ?_ | refine cv0 t1 ?_ | refine cv uaa ?_ | refine cv0 t2 ?_ | refine cv uan ?_ | refine cv una ?_ | refine o_loads ?_ | refine o_loadp ?_ | refine o_faddr ?_ | refine o_iaddr ?_ | refine o_iaddrO ?_ | refine o_iaddrR ?_ | refine o_add ?_ | refine o_cat ?_ | refine o_bin ?_ | refine o_lenq ?_ | refine o_len ?_ | refine o_loadsA ?_ | refine o_loadpA ?_ | refine o_box ?_ | refine o_alloc ?_ | refine o_bslice ?_ | refine o_store ?_ | refine o_not ?_ | refine o_pickt ?_ | refine o_pickf ?_ | refine o_extract ?_ | refine o_iaddrA ?_ | refine skF ?_ | refine skU ?_
  refine cndf (ct_skip ?_)
  have hmb : (b.map encP).length = b.length := List.length_map ..
  repeat first | refine o_copy ?_ | refine nl ?_ | refine ct_seq ?_ | refine rg ?_ | refine ct_block ?_ | refine bq ?_ | refine o_loads ?_ | refine o_loadp ?_ | refine o_faddr ?_ | refine o_iaddr ?_ | refine o_iaddrO ?_ | refine o_iaddrR ?_ | refine o_add ?_ | refine o_cat ?_ | refine o_bin ?_ | refine o_lenq ?_ | refine o_len ?_ | refine o_loadsA ?_ | refine o_loadpA ?_ | refine o_box ?_ | refine o_alloc ?_ | refine o_bslice ?_ | refine o_store ?_ | refine o_not ?_ | refine o_pickt ?_ | refine o_pickf ?_ | refine o_extract ?_ | refine o_iaddrA ?_ | refine skF ?_ | refine skU ?_
  refine ct_loopG (fun (g : Nat × List PairL) => [(3, .bool true), (4, ownV ⟨1, 16400⟩ (a.map encP)), (5, ownV ⟨1, 16424⟩ (b.map encP)), (7, ownV ⟨1, 24592⟩ (ab.map encP)), (10, ownV ⟨1, 57344⟩ (g.2.map encP)), (11, .int .i64 g.1)])
    (fun g => [(⟨1, 16400⟩, blkV 3 (a.map encP)), (⟨1, 16424⟩, blkV 3 (b.map encP)), (⟨1, 24592⟩, blkV 3 (ab.map encP)), (⟨1, 57344⟩, blkV 3 (g.2.map encP))]) (fun g => b.length - g.1)
    (fun g => g.1 ≤ b.length ∧ g.2.length ≤ g.1 ∧ g.2 = restP a (b.take g.1)) (0, []) goes ⟨Nat.zero_le _, Nat.le_refl _, rfl⟩ ?_
  rintro ⟨i, r⟩ ⟨hi, hrl, hr⟩
  dsimp only at hi hrl hr ⊢
  repeat first | refine o_copy ?_ | refine nl ?_ | refine ct_seq ?_ | refine rg ?_ | refine ct_block ?_ | refine bq ?_ | refine o_loads ?_ | refine o_loadp ?_ | refine o_faddr ?_ | refine o_iaddr ?_ | refine o_iaddrO ?_ | refine o_iaddrR ?_ | refine o_add ?_ | refine o_cat ?_ | refine o_bin ?_ | refine o_lenq ?_ | refine o_len ?_ | refine o_loadsA ?_ | refine o_loadpA ?_ | refine o_box ?_ | refine o_alloc ?_ | refine o_bslice ?_ | refine o_store ?_ | refine o_not ?_ | refine o_pickt ?_ | refine o_pickf ?_ | refine o_extract ?_ | refine o_iaddrA ?_ | refine skF ?_ | refine skU ?_
  refine cnd (fun h => ct_skip ?_) (fun h => ct_exit ?_)
  · have hlt : i < b.length := by have h' := of_decide_eq_true h; omega
    obtain ⟨y, hy⟩ : ∃ x, b[i]? = some x := ⟨_, List.getElem?_eq_getElem hlt⟩
    have hye := gm (enc := encP) (n := (i : Int)) hy (by omega)
    have hst := rest_step (a := a) hy
    rw [← hr] at hst
    have rf := rfind_vc (q := .sh false (a.map encP)) (l := a) y.key Sl.sh (by unfold maxLen; omega)
    repeat first | refine o_copy ?_ | refine nl ?_ | refine ct_seq ?_ | refine rg ?_ | refine ct_block ?_ | refine bq ?_ | refine cv0 rf ?_ | refine o_loads ?_ | refine o_loadp ?_ | refine o_faddr ?_ | refine o_iaddr ?_ | refine o_iaddrO ?_ | refine o_iaddrR ?_ | refine o_add ?_ | refine o_cat ?_ | refine o_bin ?_ | refine o_lenq ?_ | refine o_len ?_ | refine o_loadsA ?_ | refine o_loadpA ?_ | refine o_box ?_ | refine o_alloc ?_ | refine o_bslice ?_ | refine o_store ?_ | refine o_not ?_ | refine o_pickt ?_ | refine o_pickf ?_ | refine o_extract ?_ | refine o_iaddrA ?_ | refine skF ?_ | refine skU ?_
    refine cnd (fun h2 => ?_) (fun h2 => ct_skip ?_)
    · rw [if_neg (by simpa using h2)] at hst
      repeat first | refine o_copy ?_ | refine nl ?_ | refine ct_seq ?_ | refine rg ?_ | refine ct_block ?_ | refine bq ?_ | refine o_v (vap encP y) ?_ | refine o_loads ?_ | refine o_loadp ?_ | refine o_faddr ?_ | refine o_iaddr ?_ | refine o_iaddrO ?_ | refine o_iaddrR ?_ | refine o_add ?_ | refine o_cat ?_ | refine o_bin ?_ | refine o_lenq ?_ | refine o_len ?_ | refine o_loadsA ?_ | refine o_loadpA ?_ | refine o_box ?_ | refine o_alloc ?_ | refine o_bslice ?_ | refine o_store ?_ | refine o_not ?_ | refine o_pickt ?_ | refine o_pickf ?_ | refine o_extract ?_ | refine o_iaddrA ?_ | refine skF ?_ | refine skU ?_
      exact agn (i + 1, r ++ [y]) ⟨by simp only; omega, by simp only [List.length_append, List.length_cons, List.length_nil]; omega, hst.symm⟩ goes
    · rw [if_pos (by simpa using h2)] at hst
      repeat first | refine o_copy ?_ | refine nl ?_ | refine ct_seq ?_ | refine rg ?_ | refine ct_block ?_ | refine bq ?_ | refine o_loads ?_ | refine o_loadp ?_ | refine o_faddr ?_ | refine o_iaddr ?_ | refine o_iaddrO ?_ | refine o_iaddrR ?_ | refine o_add ?_ | refine o_cat ?_ | refine o_bin ?_ | refine o_lenq ?_ | refine o_len ?_ | refine o_loadsA ?_ | refine o_loadpA ?_ | refine o_box ?_ | refine o_alloc ?_ | refine o_bslice ?_ | refine o_store ?_ | refine o_not ?_ | refine o_pickt ?_ | refine o_pickf ?_ | refine o_extract ?_ | refine o_iaddrA ?_ | refine skF ?_ | refine skU ?_
      exact agn (i + 1, r) ⟨by simp only; omega, by simp only; omega, hst.symm⟩ goes
  have hge : i = b.length := by have h' := of_decide_eq_false h; omega
  subst hge
  rw [List.take_length] at hr
  have hcm := rest_comm (a := a) s1 s2
  have hne := union_len_eq a r (by rw [hr]; exact rest_ne)
  rw [← hr] at hcm hru
  have w1 := union_vc (q := .sh false (a.map encP)) (p := .sh false (r.map encP)) (a := a) (b := r) Sl.sh Sl.sh (by omega) (by omega)
  have w2 := union_vc (q := .sh false (r.map encP)) (p := .sh false (a.map encP)) (a := r) (b := a) Sl.sh Sl.sh (by omega) (by omega)
  rw [← hcm] at w2
  generalize unionL a r = ar at *
  have t3 := same_t (q := .sh false (ar.map encP)) (p := .sh false (ar.map encP)) (l := ar) Sl.sh Sl.sh (by omega)
  have hma : (a.map encP).length = a.length := List.length_map ..
  have hmr : (r.map encP).length = r.length := List.length_map ..
  have hmar : (ar.map encP).length = ar.length := List.length_map ..
  have hmab : (ab.map encP).length = ab.length := List.length_map ..
  repeat first | refine o_copy ?_ | refine nl ?_ | refine ct_seq ?_ | refine rg ?_ | refine ct_block ?_ | refine bq ?_ | refine cv w1 ?_ | refine cv w2 ?_ | refine cv0 t3 ?_ | refine o_loads ?_ | refine o_loadp ?_ | refine o_faddr ?_ | refine o_iaddr ?_ | refine o_iaddrO ?_ | refine o_iaddrR ?_ | refine o_add ?_ | refine o_cat ?_ | refine o_bin ?_ | refine o_lenq ?_ | refine o_len ?_ | refine o_loadsA ?_ | refine o_loadpA ?_ | refine o_box ?_ | refine o_alloc ?_ | refine o_bslice ?_ | refine o_store ?_ | refine o_not ?_ | refine o_pickt ?_ | refine o_pickf ?_ | refine o_extract ?_ | refine o_iaddrA ?_ | refine skF ?_ | refine skU ?_
  refine glook (fun hg => ?_) (fun hg => ?_)
  · repeat first | refine o_copy ?_ | refine nl ?_ | refine ct_seq ?_ | refine rg ?_ | refine ct_block ?_ | refine bq ?_ | refine o_loads ?_ | refine o_loadp ?_ | refine o_faddr ?_ | refine o_iaddr ?_ | refine o_iaddrO ?_ | refine o_iaddrR ?_ | refine o_add ?_ | refine o_cat ?_ | refine o_bin ?_ | refine o_lenq ?_ | refine o_len ?_ | refine o_loadsA ?_ | refine o_loadpA ?_ | refine o_box ?_ | refine o_alloc ?_ | refine o_bslice ?_ | refine o_store ?_ | refine o_not ?_ | refine o_pickt ?_ | refine o_pickf ?_ | refine o_extract ?_ | refine o_iaddrA ?_ | refine skF ?_ | refine skU ?_
    refine glook (fun hg2 => ?_) (fun hg2 => ?_)
    · repeat first | refine o_copy ?_ | refine nl ?_ | refine ct_seq ?_ | refine rg ?_ | refine ct_block ?_ | refine bq ?_ | refine o_loads ?_ | refine o_loadp ?_ | refine o_faddr ?_ | refine o_iaddr ?_ | refine o_iaddrO ?_ | refine o_iaddrR ?_ | refine o_add ?_ | refine o_cat ?_ | refine o_bin ?_ | refine o_lenq ?_ | refine o_len ?_ | refine o_loadsA ?_ | refine o_loadpA ?_ | refine o_box ?_ | refine o_alloc ?_ | refine o_bslice ?_ | refine o_store ?_ | refine o_not ?_ | refine o_pickt ?_ | refine o_pickf ?_ | refine o_extract ?_ | refine o_iaddrA ?_ | refine skF ?_ | refine skU ?_
      exact ct_ret ⟨.inr rfl, oB rfl⟩
    · exact absurd hg2 (by simp only [hmab, hma, hmr, beq_eq_false_iff_ne, ne_eq]; omega)
  · exact absurd hg (by simp only [hmar, hma, hmr, beq_eq_false_iff_ne, ne_eq]; omega)
end Go.Proofs
open Go.V Go.Pu
set_option linter.unusedVariables false
namespace Go.Proofs
theorem tableUnions_in (qs : List PV) (hl : qs.length = [CTy.sl [.int .u8, .int .u8, .int .u8], .sl [.int .u8, .int .u8, .int .u8], .sl [.int .u8, .int .u8, .int .u8]].length) (hq : ∀ (j : Nat) (c : CTy) (q : PV), [CTy.sl [.int .u8, .int .u8, .int .u8], .sl [.int .u8, .int .u8, .int .u8], .sl [.int .u8, .int .u8, .int .u8]][j]? = some c → qs[j]? = some q → InTy c q) : VC Try.prog 8 [.agg qs] [] (.bool true) [] := by
  obtain ⟨a, b, c, rfl⟩ := list3 hl
  obtain ⟨l1, rfl, i1⟩ := in_sl (hq 0 _ _ rfl rfl)
  obtain ⟨l2, rfl, i2⟩ := in_sl (hq 1 _ _ rfl rfl)
  obtain ⟨l3, rfl, i3⟩ := in_sl (hq 2 _ _ rfl rfl)
  obtain ⟨x1, rfl, _⟩ := decR i1
  obtain ⟨x2, rfl, _⟩ := decR i2
  obtain ⟨x3, rfl, _⟩ := decR i3
  exact unions_law_vc
end Go.Proofs
