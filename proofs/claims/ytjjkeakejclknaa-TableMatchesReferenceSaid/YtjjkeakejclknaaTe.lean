/- Te -/
import Derived.Test.YtjjkeakejclknaaTd
import Derived.Test.YtjjkeakejclknaaTc
import Derived.Test.YtjjkeakejclknaaTb
open Go.V Go.Pu
set_option linter.unusedVariables false
set_option linter.unusedSimpArgs false
set_option maxRecDepth 20000
namespace Go.Proofs
/-- downspout/downspoutlaw04.TableMoves -/
def vc9 : VCode :=
 (.seq
 (.region 0 false [
 ⟨(some 6), .copy (.c (.bool false)), none, 0, []⟩])
 (.seq
 (.region 1 false [
 ⟨(some 15), .call (.c (.fn 10 [])) [], none, 8192, []⟩,
 ⟨(some 7), .copy (.t 15), none, 8200, [0]⟩])
 (.seq
 (.seq
 (.region 2 false [
 ⟨(some 16), .copy (.t 2), none, 16384, []⟩,
 ⟨(some 17), .lenS (.t 16), none, 16392, [0]⟩,
 ⟨(some 18), .bin .gtr (.t 17) (.c (.int .i64 200)), none, 16400, [1, 0]⟩])
 (.cond (.t 18)
 (.seq
 (.region 3 false [
 ⟨(some 19), .copy (.t 7), none, 24576, []⟩,
 ⟨(some 6), .copy (.t 19), none, 24584, [0]⟩])
 .ret)
 .skip))
 (.seq
 (.region 4 false [
 ⟨(some 20), .copy (.t 0), none, 32768, []⟩,
 ⟨(some 21), .call (.c (.fn 11 [])) [(.t 20)], none, 32776, [0]⟩,
 ⟨(some 22), .copy (.t 1), none, 32784, []⟩,
 ⟨(some 23), .call (.c (.fn 28 [])) [(.t 22)], none, 32792, [2, 1, 0]⟩,
 ⟨(some 8), .copy (.t 21), none, 32800, [1, 0, 3, 2]⟩,
 ⟨(some 9), .copy (.t 23), none, 32808, [3, 2, 1, 0, 4]⟩])
 (.seq
 (.region 5 false [
 ⟨(some 24), .copy (.t 8), none, 40960, []⟩,
 ⟨(some 25), .copy (.t 9), none, 40968, []⟩,
 ⟨(some 26), .copy (.t 2), none, 40976, []⟩,
 ⟨(some 27), .call (.c (.fn 27 [])) [(.t 24), (.t 25), (.t 26)], none, 40984, [0, 1, 2]⟩,
 ⟨(some 10), .copy (.t 27), none, 40992, [3, 0, 1, 2]⟩])
 (.seq
 (.region 6 false [
 ⟨(some 28), .copy (.t 10), none, 49152, []⟩,
 ⟨(some 29), .copy (.t 2), none, 49160, []⟩,
 ⟨(some 30), .copy (.t 9), none, 49168, []⟩,
 ⟨(some 31), .call (.c (.fn 27 [])) [(.t 28), (.t 29), (.t 30)], none, 49176, [0, 1, 2]⟩,
 ⟨(some 11), .copy (.t 31), none, 49184, [3, 0, 1, 2]⟩])
 (.seq
 (.region 7 false [
 ⟨(some 32), .bslice 3 [(.str []), (.str []), (.int .i64 0)] 0 [], none, 57344, []⟩,
 ⟨(some 12), .copy (.t 32), none, 57352, [0]⟩])
 (.seq
 (.seq
 (.region 8 false [
 ⟨(some 13), .copy (.c (.int .i64 0)), none, 65536, []⟩])
 (.block 0
 (.loop
 (.seq
 (.seq
 (.region 9 false [
 ⟨(some 33), .copy (.t 13), none, 73728, []⟩,
 ⟨(some 34), .copy (.t 8), none, 73736, []⟩,
 ⟨(some 35), .len (.t 34), none, 73744, [1]⟩,
 ⟨(some 36), .bin .lss (.t 33) (.t 35), none, 73752, [0, 2, 1]⟩])
 (.cond (.t 36)
 .skip
 (.exit 0)))
 (.seq
 (.block 1
 (.seq
 (.region 11 false [
 ⟨(some 39), .copy (.t 8), none, 90112, []⟩,
 ⟨(some 40), .copy (.t 13), none, 90120, []⟩,
 ⟨(some 41), .iaddr 3 (.t 39) (.t 40), none, 90128, [0, 1]⟩,
 ⟨(some 42), .faddr 0 (.t 41), none, 90136, [2, 0, 1]⟩,
 ⟨(some 43), .load false 1 (.t 42), none, 90144, [3, 2, 0, 1]⟩,
 ⟨(some 44), .copy (.t 9), none, 90152, []⟩,
 ⟨(some 45), .call (.c (.fn 34 [])) [(.t 43), (.t 44)], none, 90160, [4, 3, 2, 0, 1, 5]⟩])
 (.cond (.t 45)
 (.region 12 false [
 ⟨(some 46), .copy (.t 12), none, 98304, []⟩,
 ⟨(some 47), .copy (.t 8), none, 98312, []⟩,
 ⟨(some 48), .copy (.t 13), none, 98320, []⟩,
 ⟨(some 49), .iaddr 3 (.t 47) (.t 48), none, 98328, [1, 2]⟩,
 ⟨(some 50), .load true 3 (.t 49), none, 98336, [3, 1, 2]⟩,
 ⟨(some 51), .bslice 3 [(.str []), (.str []), (.int .i64 0)] 1 [(0, (.t 50))], none, 98344, [4, 3, 1, 2]⟩,
 ⟨(some 52), .append 3 40 [(.str []), (.str []), (.int .i64 0)] (.t 46) (.t 51), none, 98352, [0, 5, 4, 3, 1, 2]⟩,
 ⟨(some 12), .copy (.t 52), none, 98360, [6, 0, 5, 4, 3, 1, 2]⟩])
 .skip)))
 (.region 10 false [
 ⟨(some 37), .copy (.t 13), none, 81920, []⟩,
 ⟨(some 38), .bin .add (.t 37) (.c (.int .i64 1)), none, 81928, [0]⟩,
 ⟨(some 13), .copy (.t 38), none, 81936, [1, 0]⟩]))))))
 (.seq
 (.seq
 (.region 13 false [
 ⟨(some 53), .copy (.t 10), none, 106496, []⟩,
 ⟨(some 54), .call (.c (.fn 31 [])) [(.t 53)], none, 106504, [0]⟩,
 ⟨(some 55), .not (.t 54), none, 106512, [1, 0]⟩,
 ⟨(some 56), .copy (.t 55), none, 106520, [2, 1, 0]⟩,
 ⟨(some 57), .copy (.t 10), (some (3, 56, false)), 106528, [3, 2, 1, 0]⟩,
 ⟨(some 58), .len (.t 57), (some (3, 56, false)), 106536, [4, 3, 2, 1, 0]⟩,
 ⟨(some 59), .copy (.t 12), (some (3, 56, false)), 106544, [3, 2, 1, 0]⟩,
 ⟨(some 60), .len (.t 59), (some (3, 56, false)), 106552, [6, 3, 2, 1, 0]⟩,
 ⟨(some 61), .bin .neq (.t 58) (.t 60), (some (3, 56, false)), 106560, [5, 4, 3, 2, 1, 0, 7, 6]⟩,
 ⟨(some 62), .pick (.t 56) (.c (.bool true)) (.t 61), none, 106568, [3, 2, 1, 0, 8, 5, 4, 7, 6]⟩,
 ⟨(some 63), .copy (.t 62), none, 106576, [9, 3, 2, 1, 0, 8, 5, 4, 7, 6]⟩,
 ⟨(some 64), .copy (.t 11), (some (10, 63, false)), 106584, [10, 9, 3, 2, 1, 0, 8, 5, 4, 7, 6]⟩,
 ⟨(some 65), .copy (.t 12), (some (10, 63, false)), 106592, [10, 9, 3, 2, 1, 0, 8, 5, 4, 7, 6]⟩,
 ⟨(some 66), .call (.c (.fn 17 [])) [(.t 64), (.t 65)], (some (10, 63, false)), 106600, [11, 10, 9, 3, 2, 1, 0, 8, 5, 4, 7, 6, 12]⟩,
 ⟨(some 67), .not (.t 66), (some (10, 63, false)), 106608, [13, 11, 10, 9, 3, 2, 1, 0, 8, 5, 4, 7, 6, 12]⟩,
 ⟨(some 68), .pick (.t 63) (.c (.bool true)) (.t 67), none, 106616, [10, 9, 3, 2, 1, 0, 8, 5, 4, 7, 6, 14, 13, 11, 12]⟩])
 (.cond (.t 68)
 (.seq
 (.region 14 false [
 ⟨(some 6), .copy (.c (.bool false)), none, 114688, []⟩])
 .ret)
 .skip))
 (.seq
 (.seq
 (.region 15 false [
 ⟨(some 14), .copy (.c (.int .i64 0)), none, 122880, []⟩])
 (.block 2
 (.loop
 (.seq
 (.seq
 (.region 16 false [
 ⟨(some 69), .copy (.t 14), none, 131072, []⟩,
 ⟨(some 70), .copy (.t 10), none, 131080, []⟩,
 ⟨(some 71), .len (.t 70), none, 131088, [1]⟩,
 ⟨(some 72), .bin .lss (.t 69) (.t 71), none, 131096, [0, 2, 1]⟩])
 (.cond (.t 72)
 .skip
 (.exit 2)))
 (.seq
 (.block 3
 (.seq
 (.region 18 true [
 ⟨(some 75), .copy (.t 10), none, 147456, []⟩,
 ⟨(some 76), .copy (.t 14), none, 147464, []⟩,
 ⟨(some 77), .iaddr 3 (.t 75) (.t 76), none, 147472, [0, 1]⟩,
 ⟨(some 78), .faddr 0 (.t 77), none, 147480, [2, 0, 1]⟩,
 ⟨(some 79), .load false 1 (.t 78), none, 147488, [3, 2, 0, 1]⟩,
 ⟨(some 80), .copy (.t 2), none, 147496, []⟩,
 ⟨(some 81), .call (.c (.fn 34 [])) [(.t 79), (.t 80)], none, 147504, [4, 3, 2, 0, 1, 5]⟩,
 ⟨(some 82), .not (.t 81), none, 147512, [6, 4, 3, 2, 0, 1, 5]⟩,
 ⟨(some 83), .copy (.t 82), none, 147520, [7, 6, 4, 3, 2, 0, 1, 5]⟩,
 ⟨(some 84), .copy (.t 10), (some (8, 83, false)), 147528, [8, 7, 6, 4, 3, 2, 0, 1, 5]⟩,
 ⟨(some 85), .copy (.t 14), (some (8, 83, false)), 147536, [8, 7, 6, 4, 3, 2, 0, 1, 5]⟩,
 ⟨(some 86), .iaddr 3 (.t 84) (.t 85), (some (8, 83, false)), 147544, [9, 8, 7, 6, 4, 3, 2, 0, 1, 5, 10]⟩,
 ⟨(some 87), .faddr 1 (.t 86), (some (8, 83, false)), 147552, [11, 9, 8, 7, 6, 4, 3, 2, 0, 1, 5, 10]⟩,
 ⟨(some 88), .load false 1 (.t 87), (some (8, 83, false)), 147560, [12, 11, 9, 8, 7, 6, 4, 3, 2, 0, 1, 5, 10]⟩,
 ⟨(some 89), .copy (.t 12), (some (8, 83, false)), 147568, [8, 7, 6, 4, 3, 2, 0, 1, 5]⟩,
 ⟨(some 90), .copy (.t 14), (some (8, 83, false)), 147576, [8, 7, 6, 4, 3, 2, 0, 1, 5]⟩,
 ⟨(some 91), .iaddr 3 (.t 89) (.t 90), (some (8, 83, false)), 147584, [14, 8, 7, 6, 4, 3, 2, 0, 1, 5, 15]⟩,
 ⟨(some 92), .faddr 1 (.t 91), (some (8, 83, false)), 147592, [16, 14, 8, 7, 6, 4, 3, 2, 0, 1, 5, 15]⟩,
 ⟨(some 93), .load false 1 (.t 92), (some (8, 83, false)), 147600, [17, 16, 14, 8, 7, 6, 4, 3, 2, 0, 1, 5, 15]⟩,
 ⟨(some 94), .bin .neq (.t 88) (.t 93), (some (8, 83, false)), 147608, [13, 12, 11, 9, 8, 7, 6, 4, 3, 2, 0, 1, 5, 10, 18, 17, 16, 14, 15]⟩,
 ⟨(some 95), .pick (.t 83) (.c (.bool true)) (.t 94), none, 147616, [8, 7, 6, 4, 3, 2, 0, 1, 5, 19, 13, 12, 11, 9, 10, 18, 17, 16, 14, 15]⟩,
 ⟨(some 96), .copy (.t 95), none, 147624, [20, 8, 7, 6, 4, 3, 2, 0, 1, 5, 19, 13, 12, 11, 9, 10, 18, 17, 16, 14, 15]⟩,
 ⟨(some 97), .copy (.t 10), (some (21, 96, false)), 147632, [21, 20, 8, 7, 6, 4, 3, 2, 0, 1, 5, 19, 13, 12, 11, 9, 10, 18, 17, 16, 14, 15]⟩,
 ⟨(some 98), .copy (.t 14), (some (21, 96, false)), 147640, [21, 20, 8, 7, 6, 4, 3, 2, 0, 1, 5, 19, 13, 12, 11, 9, 10, 18, 17, 16, 14, 15]⟩,
 ⟨(some 99), .iaddr 3 (.t 97) (.t 98), (some (21, 96, false)), 147648, [22, 21, 20, 8, 7, 6, 4, 3, 2, 0, 1, 5, 19, 13, 12, 11, 9, 10, 18, 17, 16, 14, 15, 23]⟩,
 ⟨(some 100), .faddr 2 (.t 99), (some (21, 96, false)), 147656, [24, 22, 21, 20, 8, 7, 6, 4, 3, 2, 0, 1, 5, 19, 13, 12, 11, 9, 10, 18, 17, 16, 14, 15, 23]⟩,
 ⟨(some 101), .load false 1 (.t 100), (some (21, 96, false)), 147664, [25, 24, 22, 21, 20, 8, 7, 6, 4, 3, 2, 0, 1, 5, 19, 13, 12, 11, 9, 10, 18, 17, 16, 14, 15, 23]⟩,
 ⟨(some 102), .copy (.t 12), (some (21, 96, false)), 147672, [21, 20, 8, 7, 6, 4, 3, 2, 0, 1, 5, 19, 13, 12, 11, 9, 10, 18, 17, 16, 14, 15]⟩,
 ⟨(some 103), .copy (.t 14), (some (21, 96, false)), 147680, [21, 20, 8, 7, 6, 4, 3, 2, 0, 1, 5, 19, 13, 12, 11, 9, 10, 18, 17, 16, 14, 15]⟩,
 ⟨(some 104), .iaddr 3 (.t 102) (.t 103), (some (21, 96, false)), 147688, [27, 21, 20, 8, 7, 6, 4, 3, 2, 0, 1, 5, 19, 13, 12, 11, 9, 10, 18, 17, 16, 14, 15, 28]⟩,
 ⟨(some 105), .faddr 2 (.t 104), (some (21, 96, false)), 147696, [29, 27, 21, 20, 8, 7, 6, 4, 3, 2, 0, 1, 5, 19, 13, 12, 11, 9, 10, 18, 17, 16, 14, 15, 28]⟩,
 ⟨(some 106), .load false 1 (.t 105), (some (21, 96, false)), 147704, [30, 29, 27, 21, 20, 8, 7, 6, 4, 3, 2, 0, 1, 5, 19, 13, 12, 11, 9, 10, 18, 17, 16, 14, 15, 28]⟩,
 ⟨(some 107), .bin .neq (.t 101) (.t 106), (some (21, 96, false)), 147712, [26, 25, 24, 22, 21, 20, 8, 7, 6, 4, 3, 2, 0, 1, 5, 19, 13, 12, 11, 9, 10, 18, 17, 16, 14, 15, 23, 31, 30, 29, 27, 28]⟩,
 ⟨(some 108), .pick (.t 96) (.c (.bool true)) (.t 107), none, 147720, [21, 20, 8, 7, 6, 4, 3, 2, 0, 1, 5, 19, 13, 12, 11, 9, 10, 18, 17, 16, 14, 15, 32, 26, 25, 24, 22, 23, 31, 30, 29, 27, 28]⟩,
 ⟨(some 109), .copy (.t 108), none, 147728, [33, 21, 20, 8, 7, 6, 4, 3, 2, 0, 1, 5, 19, 13, 12, 11, 9, 10, 18, 17, 16, 14, 15, 32, 26, 25, 24, 22, 23, 31, 30, 29, 27, 28]⟩,
 ⟨(some 110), .copy (.t 10), (some (34, 109, false)), 147736, [34, 33, 21, 20, 8, 7, 6, 4, 3, 2, 0, 1, 5, 19, 13, 12, 11, 9, 10, 18, 17, 16, 14, 15, 32, 26, 25, 24, 22, 23, 31, 30, 29, 27, 28]⟩,
 ⟨(some 111), .copy (.t 14), (some (34, 109, false)), 147744, [34, 33, 21, 20, 8, 7, 6, 4, 3, 2, 0, 1, 5, 19, 13, 12, 11, 9, 10, 18, 17, 16, 14, 15, 32, 26, 25, 24, 22, 23, 31, 30, 29, 27, 28]⟩,
 ⟨(some 112), .iaddr 3 (.t 110) (.t 111), (some (34, 109, false)), 147752, [35, 34, 33, 21, 20, 8, 7, 6, 4, 3, 2, 0, 1, 5, 19, 13, 12, 11, 9, 10, 18, 17, 16, 14, 15, 32, 26, 25, 24, 22, 23, 31, 30, 29, 27, 28, 36]⟩,
 ⟨(some 113), .faddr 0 (.t 112), (some (34, 109, false)), 147760, [37, 35, 34, 33, 21, 20, 8, 7, 6, 4, 3, 2, 0, 1, 5, 19, 13, 12, 11, 9, 10, 18, 17, 16, 14, 15, 32, 26, 25, 24, 22, 23, 31, 30, 29, 27, 28, 36]⟩,
 ⟨(some 114), .load false 1 (.t 113), (some (34, 109, false)), 147768, [38, 37, 35, 34, 33, 21, 20, 8, 7, 6, 4, 3, 2, 0, 1, 5, 19, 13, 12, 11, 9, 10, 18, 17, 16, 14, 15, 32, 26, 25, 24, 22, 23, 31, 30, 29, 27, 28, 36]⟩,
 ⟨(some 115), .lenS (.t 114), (some (34, 109, false)), 147776, [39, 38, 37, 35, 34, 33, 21, 20, 8, 7, 6, 4, 3, 2, 0, 1, 5, 19, 13, 12, 11, 9, 10, 18, 17, 16, 14, 15, 32, 26, 25, 24, 22, 23, 31, 30, 29, 27, 28, 36]⟩,
 ⟨(some 116), .copy (.t 2), (some (34, 109, false)), 147784, [34, 33, 21, 20, 8, 7, 6, 4, 3, 2, 0, 1, 5, 19, 13, 12, 11, 9, 10, 18, 17, 16, 14, 15, 32, 26, 25, 24, 22, 23, 31, 30, 29, 27, 28]⟩,
 ⟨(some 117), .lenS (.t 116), (some (34, 109, false)), 147792, [41, 34, 33, 21, 20, 8, 7, 6, 4, 3, 2, 0, 1, 5, 19, 13, 12, 11, 9, 10, 18, 17, 16, 14, 15, 32, 26, 25, 24, 22, 23, 31, 30, 29, 27, 28]⟩,
 ⟨(some 118), .bin .sub (.t 115) (.t 117), (some (34, 109, false)), 147800, [40, 39, 38, 37, 35, 34, 33, 21, 20, 8, 7, 6, 4, 3, 2, 0, 1, 5, 19, 13, 12, 11, 9, 10, 18, 17, 16, 14, 15, 32, 26, 25, 24, 22, 23, 31, 30, 29, 27, 28, 36, 42, 41]⟩,
 ⟨(some 119), .copy (.t 12), (some (34, 109, false)), 147808, [34, 33, 21, 20, 8, 7, 6, 4, 3, 2, 0, 1, 5, 19, 13, 12, 11, 9, 10, 18, 17, 16, 14, 15, 32, 26, 25, 24, 22, 23, 31, 30, 29, 27, 28]⟩,
 ⟨(some 120), .copy (.t 14), (some (34, 109, false)), 147816, [34, 33, 21, 20, 8, 7, 6, 4, 3, 2, 0, 1, 5, 19, 13, 12, 11, 9, 10, 18, 17, 16, 14, 15, 32, 26, 25, 24, 22, 23, 31, 30, 29, 27, 28]⟩,
 ⟨(some 121), .iaddr 3 (.t 119) (.t 120), (some (34, 109, false)), 147824, [44, 34, 33, 21, 20, 8, 7, 6, 4, 3, 2, 0, 1, 5, 19, 13, 12, 11, 9, 10, 18, 17, 16, 14, 15, 32, 26, 25, 24, 22, 23, 31, 30, 29, 27, 28, 45]⟩,
 ⟨(some 122), .faddr 0 (.t 121), (some (34, 109, false)), 147832, [46, 44, 34, 33, 21, 20, 8, 7, 6, 4, 3, 2, 0, 1, 5, 19, 13, 12, 11, 9, 10, 18, 17, 16, 14, 15, 32, 26, 25, 24, 22, 23, 31, 30, 29, 27, 28, 45]⟩,
 ⟨(some 123), .load false 1 (.t 122), (some (34, 109, false)), 147840, [47, 46, 44, 34, 33, 21, 20, 8, 7, 6, 4, 3, 2, 0, 1, 5, 19, 13, 12, 11, 9, 10, 18, 17, 16, 14, 15, 32, 26, 25, 24, 22, 23, 31, 30, 29, 27, 28, 45]⟩,
 ⟨(some 124), .lenS (.t 123), (some (34, 109, false)), 147848, [48, 47, 46, 44, 34, 33, 21, 20, 8, 7, 6, 4, 3, 2, 0, 1, 5, 19, 13, 12, 11, 9, 10, 18, 17, 16, 14, 15, 32, 26, 25, 24, 22, 23, 31, 30, 29, 27, 28, 45]⟩,
 ⟨(some 125), .copy (.t 9), (some (34, 109, false)), 147856, [34, 33, 21, 20, 8, 7, 6, 4, 3, 2, 0, 1, 5, 19, 13, 12, 11, 9, 10, 18, 17, 16, 14, 15, 32, 26, 25, 24, 22, 23, 31, 30, 29, 27, 28]⟩,
 ⟨(some 126), .lenS (.t 125), (some (34, 109, false)), 147864, [50, 34, 33, 21, 20, 8, 7, 6, 4, 3, 2, 0, 1, 5, 19, 13, 12, 11, 9, 10, 18, 17, 16, 14, 15, 32, 26, 25, 24, 22, 23, 31, 30, 29, 27, 28]⟩,
 ⟨(some 127), .bin .sub (.t 124) (.t 126), (some (34, 109, false)), 147872, [49, 48, 47, 46, 44, 34, 33, 21, 20, 8, 7, 6, 4, 3, 2, 0, 1, 5, 19, 13, 12, 11, 9, 10, 18, 17, 16, 14, 15, 32, 26, 25, 24, 22, 23, 31, 30, 29, 27, 28, 45, 51, 50]⟩,
 ⟨(some 128), .bin .neq (.t 118) (.t 127), (some (34, 109, false)), 147880, [43, 40, 39, 38, 37, 35, 34, 33, 21, 20, 8, 7, 6, 4, 3, 2, 0, 1, 5, 19, 13, 12, 11, 9, 10, 18, 17, 16, 14, 15, 32, 26, 25, 24, 22, 23, 31, 30, 29, 27, 28, 36, 42, 41, 52, 49, 48, 47, 46, 44, 45, 51, 50]⟩,
 ⟨(some 129), .pick (.t 109) (.c (.bool true)) (.t 128), none, 147888, [34, 33, 21, 20, 8, 7, 6, 4, 3, 2, 0, 1, 5, 19, 13, 12, 11, 9, 10, 18, 17, 16, 14, 15, 32, 26, 25, 24, 22, 23, 31, 30, 29, 27, 28, 53, 43, 40, 39, 38, 37, 35, 36, 42, 41, 52, 49, 48, 47, 46, 44, 45, 51, 50]⟩])
 (.cond (.t 129)
 (.seq
 (.region 19 false [
 ⟨(some 6), .copy (.c (.bool false)), none, 155648, []⟩])
 .ret)
 .skip)))
 (.region 17 false [
 ⟨(some 73), .copy (.t 14), none, 139264, []⟩,
 ⟨(some 74), .bin .add (.t 73) (.c (.int .i64 1)), none, 139272, [0]⟩,
 ⟨(some 14), .copy (.t 74), none, 139280, [1, 0]⟩]))))))
 (.seq
 (.region 20 false [
 ⟨(some 130), .copy (.t 7), none, 163840, []⟩,
 ⟨(some 6), .copy (.t 130), none, 163848, [0]⟩])
 .ret)))))))))))
theorem vf9 : VF Try.prog 9 = some (131, vc9, [.tmp 6]) := by kernel_rfl
/-! The law of Moved -/
theorem keyL_len (n : Nat) : (keyL n).length ≤ 20 := by
  have h : n % 24 < 24 := Nat.mod_lt _ (by decide)
  unfold keyL
  generalize n % 24 = m at h
  have : ∀ m, m < 24 → (if m < 20 then pathsL.getD (m / 5) [] ++ endsL.getD (m % 5) [] else restL.getD (m - 20) []).length ≤ 20 := by decide
  exact this m h
theorem madeL_key (l : List RawL) : ∀ p ∈ madeL l, p.key.length ≤ 20 := by
  have key : ∀ (l : List RawL) (t : List PairL), (∀ p ∈ t, p.key.length ≤ 20) → ∀ p ∈ l.foldl (fun t x => putL t (pairL x)) t, p.key.length ≤ 20 := by
    intro l
    induction l with
    | nil => intro t h; exact h
    | cons x l ih =>
      intro t h
      refine ih _ (fun p hp => ?_)
      have hp : p ∈ putL t (pairL x) := hp
      rw [putL_eq] at hp
      rcases insL_mem hp with rfl | hp
      · exact keyL_len _
      · exact h p hp
  exact key _ _ (by simp)
theorem src_step {t : List PairL} {i : Nat} {y : PairL} (f : Str) (hy : t[i]? = some y) : srcL (t.take (i + 1)) f = if beginsL y.key f = true then srcL (t.take i) f ++ [y] else srcL (t.take i) f := by
  rw [List.take_add_one, hy]
  simp only [srcL, List.filter_append, Option.toList_some, List.filter_cons, List.filter_nil]
  cases h : beginsL y.key f <;> simp
set_option maxHeartbeats 4000000 in
theorem moves_law_vc {q : PV} {l : List RawL} {n : Nat} (to : Str) (hq : Sl q (l.map encR)) (hn : n < 256) (hto : to.length ≤ maxLen) : VC Try.prog 9 [q, .int .u8 n, .str to] [] (.bool true) [] := by
  refine vc_of vf9 ?_ (Nat.le_of_ble_eq_true rfl) (by intro vs h; cases h)
  unfold maxLen at hto
  repeat first | refine o_copy ?_ | refine nl ?_ | refine ct_seq ?_ | refine rg ?_ | refine ct_block ?_ | refine bq ?_ | refine cv0 sanity_vc ?_ | refine o_loads ?_ | refine o_loadp ?_ | refine o_faddr ?_ | refine o_iaddr ?_ | refine o_iaddrO ?_ | refine o_iaddrR ?_ | refine o_add ?_ | refine o_sub ?_ | refine o_cat ?_ | refine o_bin ?_ | refine o_lenq ?_ | refine o_len ?_ | refine o_loadsA ?_ | refine o_loadpA ?_ | refine o_bslice ?_ | refine o_not ?_ | refine o_pickt ?_ | refine o_pickf ?_ | refine o_lenS ?_ | refine skF ?_ | refine skU ?_
  refine cnd (fun h => ?_) (fun h => ct_skip ?_)
  · repeat first | refine o_copy ?_ | refine nl ?_ | refine ct_seq ?_ | refine rg ?_ | refine ct_block ?_ | refine bq ?_ | refine o_loads ?_ | refine o_loadp ?_ | refine o_faddr ?_ | refine o_iaddr ?_ | refine o_iaddrO ?_ | refine o_iaddrR ?_ | refine o_add ?_ | refine o_sub ?_ | refine o_cat ?_ | refine o_bin ?_ | refine o_lenq ?_ | refine o_len ?_ | refine o_loadsA ?_ | refine o_loadpA ?_ | refine o_bslice ?_ | refine o_not ?_ | refine o_pickt ?_ | refine o_pickf ?_ | refine o_lenS ?_ | refine skF ?_ | refine skU ?_
    exact ct_ret ⟨.inr rfl, oAny rfl⟩
  have hto2 : to.length ≤ 200 := by have h' := of_decide_eq_false h; omega
  have hm := made_vc hq
  have hml := madeL_len l
  have hms := madeL_srt l
  have hmk := madeL_key l
  generalize madeL l = t at *
  have hpv := pre_vc hn
  have hfl := pre_len n
  generalize preL n = f at *
  have w1 := moved_vc (q := .sh false (t.map encP)) (t := t) f to hms Sl.sh (by omega) (fun p hp => by have := hmk p hp; omega) (by omega) (by omega)
  have sm := moved_srt hms f to
  have bk := moved_back (t := t) f to
  have hsl : (srcL t f).length ≤ t.length := List.length_filter_le ..
  have hsk : ∀ p ∈ srcL t f, p.key.length ≤ 20 ∧ beginsL p.key f = true := fun p hp => ⟨hmk p (List.mem_filter.1 hp).1, src_begins hp⟩
  have hmm : movedT t f to = (srcL t f).map (mvP f to) := rfl
  generalize movedT t f to = m at *
  have hmlen : m.length = (srcL t f).length := by rw [hmm, List.length_map]
  have hmkey : ∀ p ∈ m, p.key.length ≤ 300 := by
    intro p hp
    rw [hmm] at hp
    obtain ⟨p0, hp0, rfl⟩ := List.mem_map.1 hp
    have := (hsk p0 hp0).1
    simp only [mvP, List.length_append, List.length_drop]
    omega
  have w2 := moved_vc (q := .sh false (m.map encP)) (t := m) to f sm Sl.sh (by omega) (fun p hp => by have := hmkey p hp; omega) (by omega) (by omega)
  rw [bk] at w2
  generalize hsrc : srcL t f = src at *
  have hlt' : (t.map encP).length = t.length := List.length_map ..
  have hlm' : (m.map encP).length = m.length := List.length_map ..
  have hls' : (src.map encP).length = src.length := List.length_map ..
  repeat first | refine o_copy ?_ | refine nl ?_ | refine ct_seq ?_ | refine rg ?_ | refine ct_block ?_ | refine bq ?_ | refine cv hm ?_ | refine cv0 hpv ?_ | refine cv w1 ?_ | refine cv w2 ?_ | refine o_loads ?_ | refine o_loadp ?_ | refine o_faddr ?_ | refine o_iaddr ?_ | refine o_iaddrO ?_ | refine o_iaddrR ?_ | refine o_add ?_ | refine o_sub ?_ | refine o_cat ?_ | refine o_bin ?_ | refine o_lenq ?_ | refine o_len ?_ | refine o_loadsA ?_ | refine o_loadpA ?_ | refine o_bslice ?_ | refine o_not ?_ | refine o_pickt ?_ | refine o_pickf ?_ | refine o_lenS ?_ | refine skF ?_ | refine skU ?_
  refine ct_loopG (fun (g : Nat × List PairL) => [(2, .str to), (7, .bool true), (8, ownV ⟨1, 32776⟩ (t.map encP)), (9, .str f), (10, ownV ⟨1, 40984⟩ (m.map encP)), (11, ownV ⟨1, 49176⟩ (src.map encP)), (12, ownV ⟨1, 57344⟩ (g.2.map encP)), (13, .int .i64 g.1)])
    (fun g => [(⟨1, 32776⟩, blkV 3 (t.map encP)), (⟨1, 40984⟩, blkV 3 (m.map encP)), (⟨1, 49176⟩, blkV 3 (src.map encP)), (⟨1, 57344⟩, blkV 3 (g.2.map encP))]) (fun g => t.length - g.1)
    (fun g => g.1 ≤ t.length ∧ g.2.length ≤ g.1 ∧ g.2 = srcL (t.take g.1) f) (0, []) goes ⟨Nat.zero_le _, Nat.le_refl _, rfl⟩ ?_
  rintro ⟨i, o⟩ ⟨hi, hol, ho⟩
  dsimp only at hi hol ho ⊢
  repeat first | refine o_copy ?_ | refine nl ?_ | refine ct_seq ?_ | refine rg ?_ | refine ct_block ?_ | refine bq ?_ | refine o_loads ?_ | refine o_loadp ?_ | refine o_faddr ?_ | refine o_iaddr ?_ | refine o_iaddrO ?_ | refine o_iaddrR ?_ | refine o_add ?_ | refine o_sub ?_ | refine o_cat ?_ | refine o_bin ?_ | refine o_lenq ?_ | refine o_len ?_ | refine o_loadsA ?_ | refine o_loadpA ?_ | refine o_bslice ?_ | refine o_not ?_ | refine o_pickt ?_ | refine o_pickf ?_ | refine o_lenS ?_ | refine skF ?_ | refine skU ?_
  refine cnd (fun h => ct_skip ?_) (fun h => ct_exit ?_)
  · have hlt : i < t.length := by have h' := of_decide_eq_true h; omega
    obtain ⟨y, hy⟩ : ∃ x, t[i]? = some x := ⟨_, List.getElem?_eq_getElem hlt⟩
    have hye := gm (enc := encP) (n := (i : Int)) hy (by omega)
    have hst := src_step f hy
    rw [← ho] at hst
    have hb := begins_vc y.key f (by have := hmk y (List.mem_of_getElem? hy); omega) (by omega)
    repeat first | refine o_copy ?_ | refine nl ?_ | refine ct_seq ?_ | refine rg ?_ | refine ct_block ?_ | refine bq ?_ | refine cv0 hb ?_ | refine o_loads ?_ | refine o_loadp ?_ | refine o_faddr ?_ | refine o_iaddr ?_ | refine o_iaddrO ?_ | refine o_iaddrR ?_ | refine o_add ?_ | refine o_sub ?_ | refine o_cat ?_ | refine o_bin ?_ | refine o_lenq ?_ | refine o_len ?_ | refine o_loadsA ?_ | refine o_loadpA ?_ | refine o_bslice ?_ | refine o_not ?_ | refine o_pickt ?_ | refine o_pickf ?_ | refine o_lenS ?_ | refine skF ?_ | refine skU ?_
    refine cnd (fun h2 => ?_) (fun h2 => ct_skip ?_)
    · rw [if_pos h2] at hst
      repeat first | refine o_copy ?_ | refine nl ?_ | refine ct_seq ?_ | refine rg ?_ | refine ct_block ?_ | refine bq ?_ | refine o_v (vap encP y) ?_ | refine o_loads ?_ | refine o_loadp ?_ | refine o_faddr ?_ | refine o_iaddr ?_ | refine o_iaddrO ?_ | refine o_iaddrR ?_ | refine o_add ?_ | refine o_sub ?_ | refine o_cat ?_ | refine o_bin ?_ | refine o_lenq ?_ | refine o_len ?_ | refine o_loadsA ?_ | refine o_loadpA ?_ | refine o_bslice ?_ | refine o_not ?_ | refine o_pickt ?_ | refine o_pickf ?_ | refine o_lenS ?_ | refine skF ?_ | refine skU ?_
      exact agn (i + 1, o ++ [y]) ⟨by simp only; omega, by simp only [List.length_append, List.length_cons, List.length_nil]; omega, hst.symm⟩ goes
    · rw [if_neg (by simp [h2])] at hst
      repeat first | refine o_copy ?_ | refine nl ?_ | refine ct_seq ?_ | refine rg ?_ | refine ct_block ?_ | refine bq ?_ | refine o_loads ?_ | refine o_loadp ?_ | refine o_faddr ?_ | refine o_iaddr ?_ | refine o_iaddrO ?_ | refine o_iaddrR ?_ | refine o_add ?_ | refine o_sub ?_ | refine o_cat ?_ | refine o_bin ?_ | refine o_lenq ?_ | refine o_len ?_ | refine o_loadsA ?_ | refine o_loadpA ?_ | refine o_bslice ?_ | refine o_not ?_ | refine o_pickt ?_ | refine o_pickf ?_ | refine o_lenS ?_ | refine skF ?_ | refine skU ?_
      exact agn (i + 1, o) ⟨by simp only; omega, by simp only; omega, hst.symm⟩ goes
  have hge : i = t.length := by have h' := of_decide_eq_false h; omega
  subst hge
  rw [List.take_length, hsrc] at ho
  subst ho
  have v1 := rvalid_vc (q := .sh false (m.map encP)) (xs := m) Sl.sh (by omega)
  rw [sortedL_iff.2 sm] at v1
  have t1 := same_t (q := .sh false (o.map encP)) (p := .sh false (o.map encP)) (l := o) Sl.sh Sl.sh (by omega)
  have e1 : (!(((m.map encP).length : Int) == ((o.map encP).length : Int))) = false := by rw [hlm', hls', hmlen]; simp
  repeat first | refine o_copy ?_ | refine nl ?_ | refine ct_seq ?_ | refine rg ?_ | refine ct_block ?_ | refine bq ?_ | refine cv0 v1 ?_ | refine cv0 t1 ?_ | refine o_loads ?_ | refine o_loadp ?_ | refine o_faddr ?_ | refine o_iaddr ?_ | refine o_iaddrO ?_ | refine o_iaddrR ?_ | refine o_add ?_ | refine o_sub ?_ | refine o_cat ?_ | refine o_bin ?_ | refine o_lenq ?_ | refine o_len ?_ | refine o_loadsA ?_ | refine o_loadpA ?_ | refine o_bslice ?_ | refine o_not ?_ | refine o_pickt ?_ | refine o_pickf ?_ | refine o_lenS ?_ | refine skF ?_ | refine skU ?_
  refine cndf (ct_skip ?_)
  repeat first | refine o_copy ?_ | refine nl ?_ | refine ct_seq ?_ | refine rg ?_ | refine ct_block ?_ | refine bq ?_ | refine o_loads ?_ | refine o_loadp ?_ | refine o_faddr ?_ | refine o_iaddr ?_ | refine o_iaddrO ?_ | refine o_iaddrR ?_ | refine o_add ?_ | refine o_sub ?_ | refine o_cat ?_ | refine o_bin ?_ | refine o_lenq ?_ | refine o_len ?_ | refine o_loadsA ?_ | refine o_loadpA ?_ | refine o_bslice ?_ | refine o_not ?_ | refine o_pickt ?_ | refine o_pickf ?_ | refine o_lenS ?_ | refine skF ?_ | refine skU ?_
  refine ct_loopG (fun (g : Nat) => [(2, .str to), (7, .bool true), (9, .str f), (10, ownV ⟨1, 40984⟩ (m.map encP)), (12, ownV ⟨1, 57344⟩ (o.map encP)), (14, .int .i64 g)])
    (fun g => [(⟨1, 40984⟩, blkV 3 (m.map encP)), (⟨1, 57344⟩, blkV 3 (o.map encP))]) (fun g => m.length - g)
    (fun g => g ≤ m.length) 0 goes (Nat.zero_le _) ?_
  intro i hi2
  (try dsimp only)
  repeat first | refine o_copy ?_ | refine nl ?_ | refine ct_seq ?_ | refine rg ?_ | refine ct_block ?_ | refine bq ?_ | refine o_loads ?_ | refine o_loadp ?_ | refine o_faddr ?_ | refine o_iaddr ?_ | refine o_iaddrO ?_ | refine o_iaddrR ?_ | refine o_add ?_ | refine o_sub ?_ | refine o_cat ?_ | refine o_bin ?_ | refine o_lenq ?_ | refine o_len ?_ | refine o_loadsA ?_ | refine o_loadpA ?_ | refine o_bslice ?_ | refine o_not ?_ | refine o_pickt ?_ | refine o_pickf ?_ | refine o_lenS ?_ | refine skF ?_ | refine skU ?_
  refine cnd (fun h => ct_skip ?_) (fun h => ct_exit ?_)
  · have hlt : i < m.length := by have h' := of_decide_eq_true h; omega
    obtain ⟨y, hy⟩ : ∃ x, o[i]? = some x := ⟨_, List.getElem?_eq_getElem (by omega)⟩
    have hx : m[i]? = some (mvP f to y) := by rw [hmm, List.getElem?_map, hy]; rfl
    have hye := gm (enc := encP) (n := (i : Int)) hy (by omega)
    have hxe := gm (enc := encP) (n := (i : Int)) hx (by omega)
    obtain ⟨hyk, hyb⟩ := hsk y (List.mem_of_getElem? hy)
    obtain ⟨r, hr⟩ := begins_iff.1 hyb
    have hxk : (mvP f to y).key = to ++ r := by simp only [mvP]; rw [hr]; simp
    have hxb : beginsL (mvP f to y).key to = true := begins_iff.2 ⟨r, hxk⟩
    have hb := begins_vc (mvP f to y).key to (by have := hmkey _ (List.mem_of_getElem? hx); omega) (by omega)
    rw [hxb] at hb
    have l1 : ((mvP f to y).key).length = to.length + r.length := by rw [hxk, List.length_append]
    have l2 : y.key.length = f.length + r.length := by rw [hr, List.length_append]
    have f1 : (!((mvP f to y).val == y.val)) = false := by simp [mvP]
    have f2 : (!((mvP f to y).stamp == y.stamp)) = false := by simp [mvP]
    repeat first | refine o_copy ?_ | refine nl ?_ | refine ct_seq ?_ | refine rg ?_ | refine ct_block ?_ | refine bq ?_ | refine cv0 hb ?_ | refine o_loads ?_ | refine o_loadp ?_ | refine o_faddr ?_ | refine o_iaddr ?_ | refine o_iaddrO ?_ | refine o_iaddrR ?_ | refine o_add ?_ | refine o_sub ?_ | refine o_cat ?_ | refine o_bin ?_ | refine o_lenq ?_ | refine o_len ?_ | refine o_loadsA ?_ | refine o_loadpA ?_ | refine o_bslice ?_ | refine o_not ?_ | refine o_pickt ?_ | refine o_pickf ?_ | refine o_lenS ?_ | refine skF ?_ | refine skU ?_
    refine cndf (ct_skip ?_) rfl (by rw [bne_eq_false_iff_eq]; omega)
    repeat first | refine o_copy ?_ | refine nl ?_ | refine ct_seq ?_ | refine rg ?_ | refine ct_block ?_ | refine bq ?_ | refine o_loads ?_ | refine o_loadp ?_ | refine o_faddr ?_ | refine o_iaddr ?_ | refine o_iaddrO ?_ | refine o_iaddrR ?_ | refine o_add ?_ | refine o_sub ?_ | refine o_cat ?_ | refine o_bin ?_ | refine o_lenq ?_ | refine o_len ?_ | refine o_loadsA ?_ | refine o_loadpA ?_ | refine o_bslice ?_ | refine o_not ?_ | refine o_pickt ?_ | refine o_pickf ?_ | refine o_lenS ?_ | refine skF ?_ | refine skU ?_
    exact agn (i + 1) (by omega) goes
  repeat first | refine o_copy ?_ | refine nl ?_ | refine ct_seq ?_ | refine rg ?_ | refine ct_block ?_ | refine bq ?_ | refine o_loads ?_ | refine o_loadp ?_ | refine o_faddr ?_ | refine o_iaddr ?_ | refine o_iaddrO ?_ | refine o_iaddrR ?_ | refine o_add ?_ | refine o_sub ?_ | refine o_cat ?_ | refine o_bin ?_ | refine o_lenq ?_ | refine o_len ?_ | refine o_loadsA ?_ | refine o_loadpA ?_ | refine o_bslice ?_ | refine o_not ?_ | refine o_pickt ?_ | refine o_pickf ?_ | refine o_lenS ?_ | refine skF ?_ | refine skU ?_
  exact ct_ret ⟨.inr rfl, oB rfl⟩
end Go.Proofs
open Go.V Go.Pu
set_option linter.unusedVariables false
namespace Go.Proofs
theorem tableMoves_in (l0 : List (List PV)) (i0 : InTy (.sl [.int .u8, .int .u8, .int .u8]) (.sh false l0)) (n : Int) (hw : (Lit.int .u8 n).wf = true) (to : List UInt8) (hto : to.length ≤ maxLen) : VC Try.prog 9 [.sh false l0, .int .u8 n, .str to] [] (.bool true) [] := by
  obtain ⟨l, rfl, _⟩ := decR i0
  obtain ⟨k, hk, h256⟩ := in_u8 (InTy.int .u8 n hw)
  cases hk
  exact moves_law_vc to Sl.sh h256 hto
end Go.Proofs
