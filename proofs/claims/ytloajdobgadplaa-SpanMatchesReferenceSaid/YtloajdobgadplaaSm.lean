/- Sm -/
import Derived.Test.YtloajdobgadplaaSa
import Derived.Test.YtloajdobgadplaaSk
open Go.V Go.Pu
set_option linter.unusedVariables false
set_option linter.unusedSimpArgs false
set_option maxRecDepth 20000
namespace Go.Proofs
/-- downspout/downspoutlaw02.SpanMatchesReference -/
def vc3 : VCode :=
 (.seq
 (.region 0 false [
 ⟨(some 5), .box (.t 2), none, 0, []⟩,
 ⟨(some 6), .copy (.c (.bool false)), none, 8, []⟩])
 (.seq
 (.region 1 false [
 ⟨(some 16), .call (.c (.fn 11 [])) [], none, 8192, []⟩,
 ⟨(some 7), .copy (.t 16), none, 8200, [0]⟩])
 (.seq
 (.seq
 (.region 2 false [
 ⟨(some 17), .copy (.t 0), none, 16384, []⟩,
 ⟨(some 18), .call (.c (.fn 12 [])) [(.t 17), (.c (.int .i64 8))], none, 16392, [0]⟩,
 ⟨(some 19), .not (.t 18), none, 16400, [1, 0]⟩,
 ⟨(some 20), .copy (.t 19), none, 16408, [2, 1, 0]⟩,
 ⟨(some 21), .copy (.t 1), (some (3, 20, false)), 16416, [3, 2, 1, 0]⟩,
 ⟨(some 22), .call (.c (.fn 12 [])) [(.t 21), (.c (.int .i64 8))], (some (3, 20, false)), 16424, [4, 3, 2, 1, 0]⟩,
 ⟨(some 23), .not (.t 22), (some (3, 20, false)), 16432, [5, 4, 3, 2, 1, 0]⟩,
 ⟨(some 24), .pick (.t 20) (.c (.bool true)) (.t 23), none, 16440, [3, 2, 1, 0, 6, 5, 4]⟩,
 ⟨(some 25), .copy (.t 24), none, 16448, [7, 3, 2, 1, 0, 6, 5, 4]⟩,
 ⟨(some 26), .iaddrA 4 1 (.t 5) (.c (.int .i64 0)), (some (8, 25, false)), 16456, [8, 7, 3, 2, 1, 0, 6, 5, 4]⟩,
 ⟨(some 27), .load false 1 (.t 26), (some (8, 25, false)), 16464, [9, 8, 7, 3, 2, 1, 0, 6, 5, 4]⟩,
 ⟨(some 28), .lenS (.t 27), (some (8, 25, false)), 16472, [10, 9, 8, 7, 3, 2, 1, 0, 6, 5, 4]⟩,
 ⟨(some 29), .bin .gtr (.t 28) (.c (.int .i64 30)), (some (8, 25, false)), 16480, [11, 10, 9, 8, 7, 3, 2, 1, 0, 6, 5, 4]⟩,
 ⟨(some 30), .pick (.t 25) (.c (.bool true)) (.t 29), none, 16488, [8, 7, 3, 2, 1, 0, 6, 5, 4, 12, 11, 10, 9]⟩,
 ⟨(some 31), .copy (.t 30), none, 16496, [13, 8, 7, 3, 2, 1, 0, 6, 5, 4, 12, 11, 10, 9]⟩,
 ⟨(some 32), .iaddrA 4 1 (.t 5) (.c (.int .i64 1)), (some (14, 31, false)), 16504, [14, 13, 8, 7, 3, 2, 1, 0, 6, 5, 4, 12, 11, 10, 9]⟩,
 ⟨(some 33), .load false 1 (.t 32), (some (14, 31, false)), 16512, [15, 14, 13, 8, 7, 3, 2, 1, 0, 6, 5, 4, 12, 11, 10, 9]⟩,
 ⟨(some 34), .lenS (.t 33), (some (14, 31, false)), 16520, [16, 15, 14, 13, 8, 7, 3, 2, 1, 0, 6, 5, 4, 12, 11, 10, 9]⟩,
 ⟨(some 35), .bin .gtr (.t 34) (.c (.int .i64 30)), (some (14, 31, false)), 16528, [17, 16, 15, 14, 13, 8, 7, 3, 2, 1, 0, 6, 5, 4, 12, 11, 10, 9]⟩,
 ⟨(some 36), .pick (.t 31) (.c (.bool true)) (.t 35), none, 16536, [14, 13, 8, 7, 3, 2, 1, 0, 6, 5, 4, 12, 11, 10, 9, 18, 17, 16, 15]⟩,
 ⟨(some 37), .copy (.t 36), none, 16544, [19, 14, 13, 8, 7, 3, 2, 1, 0, 6, 5, 4, 12, 11, 10, 9, 18, 17, 16, 15]⟩,
 ⟨(some 38), .iaddrA 4 1 (.t 5) (.c (.int .i64 2)), (some (20, 37, false)), 16552, [20, 19, 14, 13, 8, 7, 3, 2, 1, 0, 6, 5, 4, 12, 11, 10, 9, 18, 17, 16, 15]⟩,
 ⟨(some 39), .load false 1 (.t 38), (some (20, 37, false)), 16560, [21, 20, 19, 14, 13, 8, 7, 3, 2, 1, 0, 6, 5, 4, 12, 11, 10, 9, 18, 17, 16, 15]⟩,
 ⟨(some 40), .lenS (.t 39), (some (20, 37, false)), 16568, [22, 21, 20, 19, 14, 13, 8, 7, 3, 2, 1, 0, 6, 5, 4, 12, 11, 10, 9, 18, 17, 16, 15]⟩,
 ⟨(some 41), .bin .gtr (.t 40) (.c (.int .i64 30)), (some (20, 37, false)), 16576, [23, 22, 21, 20, 19, 14, 13, 8, 7, 3, 2, 1, 0, 6, 5, 4, 12, 11, 10, 9, 18, 17, 16, 15]⟩,
 ⟨(some 42), .pick (.t 37) (.c (.bool true)) (.t 41), none, 16584, [20, 19, 14, 13, 8, 7, 3, 2, 1, 0, 6, 5, 4, 12, 11, 10, 9, 18, 17, 16, 15, 24, 23, 22, 21]⟩,
 ⟨(some 43), .copy (.t 42), none, 16592, [25, 20, 19, 14, 13, 8, 7, 3, 2, 1, 0, 6, 5, 4, 12, 11, 10, 9, 18, 17, 16, 15, 24, 23, 22, 21]⟩,
 ⟨(some 44), .iaddrA 4 1 (.t 5) (.c (.int .i64 3)), (some (26, 43, false)), 16600, [26, 25, 20, 19, 14, 13, 8, 7, 3, 2, 1, 0, 6, 5, 4, 12, 11, 10, 9, 18, 17, 16, 15, 24, 23, 22, 21]⟩,
 ⟨(some 45), .load false 1 (.t 44), (some (26, 43, false)), 16608, [27, 26, 25, 20, 19, 14, 13, 8, 7, 3, 2, 1, 0, 6, 5, 4, 12, 11, 10, 9, 18, 17, 16, 15, 24, 23, 22, 21]⟩,
 ⟨(some 46), .lenS (.t 45), (some (26, 43, false)), 16616, [28, 27, 26, 25, 20, 19, 14, 13, 8, 7, 3, 2, 1, 0, 6, 5, 4, 12, 11, 10, 9, 18, 17, 16, 15, 24, 23, 22, 21]⟩,
 ⟨(some 47), .bin .gtr (.t 46) (.c (.int .i64 30)), (some (26, 43, false)), 16624, [29, 28, 27, 26, 25, 20, 19, 14, 13, 8, 7, 3, 2, 1, 0, 6, 5, 4, 12, 11, 10, 9, 18, 17, 16, 15, 24, 23, 22, 21]⟩,
 ⟨(some 48), .pick (.t 43) (.c (.bool true)) (.t 47), none, 16632, [26, 25, 20, 19, 14, 13, 8, 7, 3, 2, 1, 0, 6, 5, 4, 12, 11, 10, 9, 18, 17, 16, 15, 24, 23, 22, 21, 30, 29, 28, 27]⟩])
 (.cond (.t 48)
 (.seq
 (.region 3 false [
 ⟨(some 49), .copy (.t 7), none, 24576, []⟩,
 ⟨(some 6), .copy (.t 49), none, 24584, [0]⟩])
 .ret)
 .skip))
 (.seq
 (.region 4 false [
 ⟨(some 51), .iaddrA 4 1 (.t 5) (.c (.int .i64 0)), none, 32768, []⟩,
 ⟨(some 52), .load false 1 (.t 51), none, 32776, [0]⟩,
 ⟨(some 53), .iaddrA 4 1 (.t 5) (.c (.int .i64 1)), none, 32784, []⟩,
 ⟨(some 54), .load false 1 (.t 53), none, 32792, [2]⟩,
 ⟨(some 55), .iaddrA 4 1 (.t 5) (.c (.int .i64 2)), none, 32800, []⟩,
 ⟨(some 56), .load false 1 (.t 55), none, 32808, [4]⟩,
 ⟨(some 57), .call (.c (.fn 13 [])) [(.t 52), (.t 54), (.t 56)], none, 32816, [1, 0, 3, 2, 5, 4]⟩,
 ⟨(some 50), .copy (.t 57), none, 32824, [6, 1, 0, 3, 2, 5, 4]⟩,
 ⟨(some 58), .extract (.t 50) 0, none, 32832, [7, 6, 1, 0, 3, 2, 5, 4]⟩,
 ⟨(some 59), .extract (.t 50) 1, none, 32840, [7, 6, 1, 0, 3, 2, 5, 4]⟩,
 ⟨(some 8), .copy (.t 58), none, 32848, [8, 7, 6, 1, 0, 3, 2, 5, 4]⟩,
 ⟨(some 9), .copy (.t 59), none, 32856, [9, 7, 6, 1, 0, 3, 2, 5, 4, 10, 8]⟩])
 (.seq
 (.region 5 false [
 ⟨(some 61), .iaddrA 4 1 (.t 5) (.c (.int .i64 0)), none, 40960, []⟩,
 ⟨(some 62), .load false 1 (.t 61), none, 40968, [0]⟩,
 ⟨(some 63), .iaddrA 4 1 (.t 5) (.c (.int .i64 1)), none, 40976, []⟩,
 ⟨(some 64), .load false 1 (.t 63), none, 40984, [2]⟩,
 ⟨(some 65), .iaddrA 4 1 (.t 5) (.c (.int .i64 2)), none, 40992, []⟩,
 ⟨(some 66), .load false 1 (.t 65), none, 41000, [4]⟩,
 ⟨(some 67), .call (.c (.fn 14 [])) [(.t 62), (.t 64), (.t 66)], none, 41008, [1, 0, 3, 2, 5, 4]⟩,
 ⟨(some 60), .copy (.t 67), none, 41016, [6, 1, 0, 3, 2, 5, 4]⟩,
 ⟨(some 68), .extract (.t 60) 0, none, 41024, [7, 6, 1, 0, 3, 2, 5, 4]⟩,
 ⟨(some 69), .extract (.t 60) 1, none, 41032, [7, 6, 1, 0, 3, 2, 5, 4]⟩,
 ⟨(some 10), .copy (.t 68), none, 41040, [8, 7, 6, 1, 0, 3, 2, 5, 4]⟩,
 ⟨(some 11), .copy (.t 69), none, 41048, [9, 7, 6, 1, 0, 3, 2, 5, 4, 10, 8]⟩])
 (.seq
 (.seq
 (.region 6 true [
 ⟨(some 70), .iaddrA 4 1 (.t 5) (.c (.int .i64 0)), none, 49152, []⟩,
 ⟨(some 71), .load false 1 (.t 70), none, 49160, [0]⟩,
 ⟨(some 72), .call (.c (.fn 15 [])) [(.t 71)], none, 49168, [1, 0]⟩,
 ⟨(some 73), .iaddrA 4 1 (.t 5) (.c (.int .i64 0)), none, 49176, []⟩,
 ⟨(some 74), .load false 1 (.t 73), none, 49184, [3]⟩,
 ⟨(some 75), .call (.c (.fn 16 [])) [(.t 74)], none, 49192, [4, 3, 2, 1, 0]⟩,
 ⟨(some 76), .eqc true [2, 2] (.t 72) (.t 75), none, 49200, [2, 1, 0, 5, 4, 3]⟩,
 ⟨(some 77), .copy (.t 76), none, 49208, [6, 2, 1, 0, 5, 4, 3]⟩,
 ⟨(some 78), .iaddrA 4 1 (.t 5) (.c (.int .i64 0)), (some (7, 77, false)), 49216, [7, 6, 2, 1, 0, 5, 4, 3]⟩,
 ⟨(some 79), .load false 1 (.t 78), (some (7, 77, false)), 49224, [8, 7, 6, 2, 1, 0, 5, 4, 3]⟩,
 ⟨(some 80), .call (.c (.fn 17 [])) [(.t 79)], (some (7, 77, false)), 49232, [9, 8, 7, 6, 2, 1, 0, 5, 4, 3]⟩,
 ⟨(some 81), .iaddrA 4 1 (.t 5) (.c (.int .i64 0)), (some (7, 77, false)), 49240, [7, 6, 2, 1, 0, 5, 4, 3]⟩,
 ⟨(some 82), .load false 1 (.t 81), (some (7, 77, false)), 49248, [11, 7, 6, 2, 1, 0, 5, 4, 3]⟩,
 ⟨(some 83), .call (.c (.fn 18 [])) [(.t 82)], (some (7, 77, false)), 49256, [12, 11, 7, 6, 2, 1, 0, 5, 4, 3, 10, 9, 8]⟩,
 ⟨(some 84), .eqc true [2, 2] (.t 80) (.t 83), (some (7, 77, false)), 49264, [10, 9, 8, 7, 6, 2, 1, 0, 5, 4, 3, 13, 12, 11]⟩,
 ⟨(some 85), .pick (.t 77) (.c (.bool true)) (.t 84), none, 49272, [7, 6, 2, 1, 0, 5, 4, 3, 14, 10, 9, 8, 13, 12, 11]⟩,
 ⟨(some 86), .copy (.t 85), none, 49280, [15, 7, 6, 2, 1, 0, 5, 4, 3, 14, 10, 9, 8, 13, 12, 11]⟩,
 ⟨(some 87), .copy (.t 8), (some (16, 86, false)), 49288, [16, 15, 7, 6, 2, 1, 0, 5, 4, 3, 14, 10, 9, 8, 13, 12, 11]⟩,
 ⟨(some 88), .copy (.t 10), (some (16, 86, false)), 49296, [16, 15, 7, 6, 2, 1, 0, 5, 4, 3, 14, 10, 9, 8, 13, 12, 11]⟩,
 ⟨(some 89), .bin .neq (.t 87) (.t 88), (some (16, 86, false)), 49304, [17, 16, 15, 7, 6, 2, 1, 0, 5, 4, 3, 14, 10, 9, 8, 13, 12, 11, 18]⟩,
 ⟨(some 90), .pick (.t 86) (.c (.bool true)) (.t 89), none, 49312, [16, 15, 7, 6, 2, 1, 0, 5, 4, 3, 14, 10, 9, 8, 13, 12, 11, 19, 17, 18]⟩,
 ⟨(some 91), .copy (.t 90), none, 49320, [20, 16, 15, 7, 6, 2, 1, 0, 5, 4, 3, 14, 10, 9, 8, 13, 12, 11, 19, 17, 18]⟩,
 ⟨(some 92), .copy (.t 9), (some (21, 91, false)), 49328, [21, 20, 16, 15, 7, 6, 2, 1, 0, 5, 4, 3, 14, 10, 9, 8, 13, 12, 11, 19, 17, 18]⟩,
 ⟨(some 93), .copy (.t 11), (some (21, 91, false)), 49336, [21, 20, 16, 15, 7, 6, 2, 1, 0, 5, 4, 3, 14, 10, 9, 8, 13, 12, 11, 19, 17, 18]⟩,
 ⟨(some 94), .eqb true (.t 92) (.t 93), (some (21, 91, false)), 49344, [22, 21, 20, 16, 15, 7, 6, 2, 1, 0, 5, 4, 3, 14, 10, 9, 8, 13, 12, 11, 19, 17, 18, 23]⟩,
 ⟨(some 95), .pick (.t 91) (.c (.bool true)) (.t 94), none, 49352, [21, 20, 16, 15, 7, 6, 2, 1, 0, 5, 4, 3, 14, 10, 9, 8, 13, 12, 11, 19, 17, 18, 24, 22, 23]⟩])
 (.cond (.t 95)
 (.seq
 (.region 7 false [
 ⟨(some 6), .copy (.c (.bool false)), none, 57344, []⟩])
 .ret)
 .skip))
 (.seq
 (.region 8 true [
 ⟨(some 96), .iaddrA 4 1 (.t 5) (.c (.int .i64 0)), none, 65536, []⟩,
 ⟨(some 97), .load false 1 (.t 96), none, 65544, [0]⟩,
 ⟨(some 98), .iaddrA 4 1 (.t 5) (.c (.int .i64 1)), none, 65552, []⟩,
 ⟨(some 99), .load false 1 (.t 98), none, 65560, [2]⟩,
 ⟨(some 100), .call (.c (.fn 19 [])) [(.t 97), (.t 99)], none, 65568, [1, 0, 3, 2]⟩,
 ⟨(some 101), .iaddrA 4 1 (.t 5) (.c (.int .i64 2)), none, 65576, []⟩,
 ⟨(some 102), .load false 1 (.t 101), none, 65584, [5]⟩,
 ⟨(some 103), .iaddrA 4 1 (.t 5) (.c (.int .i64 3)), none, 65592, []⟩,
 ⟨(some 104), .load false 1 (.t 103), none, 65600, [7]⟩,
 ⟨(some 105), .call (.c (.fn 19 [])) [(.t 102), (.t 104)], none, 65608, [6, 5, 8, 7, 4, 1, 0, 3, 2]⟩,
 ⟨(some 12), .alloc [(.str []), (.str [])], none, 65616, []⟩,
 ⟨(some 13), .alloc [(.str []), (.str [])], none, 65624, []⟩,
 ⟨none, .store 2 (.t 12) (.t 100), none, 65632, [10, 4, 1, 0, 3, 2, 9, 6, 5, 8, 7, 11]⟩,
 ⟨none, .store 2 (.t 13) (.t 105), none, 65640, [11, 9, 6, 5, 8, 7, 4, 1, 0, 3, 2, 12, 10]⟩])
 (.seq
 (.region 9 false [
 ⟨(some 106), .slarr 4 1 (.t 5) none none, none, 73728, []⟩,
 ⟨(some 107), .call (.c (.fn 20 [])) [(.t 106)], none, 73736, [0]⟩,
 ⟨(some 14), .copy (.t 107), none, 73744, [1, 0]⟩])
 (.seq
 (.seq
 (.region 10 true [
 ⟨(some 108), .load true 2 (.t 12), none, 81920, []⟩,
 ⟨(some 109), .iaddrA 4 1 (.t 5) (.c (.int .i64 2)), none, 81928, []⟩,
 ⟨(some 110), .load false 1 (.t 109), none, 81936, [1]⟩,
 ⟨(some 111), .call (.c (.fn 21 [])) [(.t 108), (.t 110)], none, 81944, [0, 2, 1]⟩,
 ⟨(some 112), .load true 2 (.t 12), none, 81952, []⟩,
 ⟨(some 113), .iaddrA 4 1 (.t 5) (.c (.int .i64 2)), none, 81960, []⟩,
 ⟨(some 114), .load false 1 (.t 113), none, 81968, [5]⟩,
 ⟨(some 115), .call (.c (.fn 22 [])) [(.t 112), (.t 114)], none, 81976, [4, 6, 5, 3, 0, 2, 1]⟩,
 ⟨(some 116), .eqb true (.t 111) (.t 115), none, 81984, [3, 0, 2, 1, 7, 4, 6, 5]⟩,
 ⟨(some 117), .copy (.t 116), none, 81992, [8, 3, 0, 2, 1, 7, 4, 6, 5]⟩,
 ⟨(some 118), .load true 2 (.t 12), (some (9, 117, false)), 82000, [9, 8, 3, 0, 2, 1, 7, 4, 6, 5]⟩,
 ⟨(some 119), .call (.c (.fn 23 [])) [(.t 118)], (some (9, 117, false)), 82008, [10, 9, 8, 3, 0, 2, 1, 7, 4, 6, 5]⟩,
 ⟨(some 120), .load true 2 (.t 12), (some (9, 117, false)), 82016, [9, 8, 3, 0, 2, 1, 7, 4, 6, 5]⟩,
 ⟨(some 121), .call (.c (.fn 24 [])) [(.t 120)], (some (9, 117, false)), 82024, [12, 9, 8, 3, 0, 2, 1, 7, 4, 6, 5, 11, 10]⟩,
 ⟨(some 122), .eqb true (.t 119) (.t 121), (some (9, 117, false)), 82032, [11, 10, 9, 8, 3, 0, 2, 1, 7, 4, 6, 5, 13, 12]⟩,
 ⟨(some 123), .pick (.t 117) (.c (.bool true)) (.t 122), none, 82040, [9, 8, 3, 0, 2, 1, 7, 4, 6, 5, 14, 11, 10, 13, 12]⟩,
 ⟨(some 124), .copy (.t 123), none, 82048, [15, 9, 8, 3, 0, 2, 1, 7, 4, 6, 5, 14, 11, 10, 13, 12]⟩,
 ⟨(some 125), .load true 2 (.t 12), (some (16, 124, false)), 82056, [16, 15, 9, 8, 3, 0, 2, 1, 7, 4, 6, 5, 14, 11, 10, 13, 12]⟩,
 ⟨(some 126), .load true 2 (.t 13), (some (16, 124, false)), 82064, [16, 15, 9, 8, 3, 0, 2, 1, 7, 4, 6, 5, 14, 11, 10, 13, 12]⟩,
 ⟨(some 127), .call (.c (.fn 25 [])) [(.t 125), (.t 126)], (some (16, 124, false)), 82072, [17, 16, 15, 9, 8, 3, 0, 2, 1, 7, 4, 6, 5, 14, 11, 10, 13, 12, 18]⟩,
 ⟨(some 128), .load true 2 (.t 12), (some (16, 124, false)), 82080, [16, 15, 9, 8, 3, 0, 2, 1, 7, 4, 6, 5, 14, 11, 10, 13, 12]⟩,
 ⟨(some 129), .load true 2 (.t 13), (some (16, 124, false)), 82088, [16, 15, 9, 8, 3, 0, 2, 1, 7, 4, 6, 5, 14, 11, 10, 13, 12]⟩,
 ⟨(some 130), .call (.c (.fn 26 [])) [(.t 128), (.t 129)], (some (16, 124, false)), 82096, [20, 16, 15, 9, 8, 3, 0, 2, 1, 7, 4, 6, 5, 14, 11, 10, 13, 12, 21, 19, 17, 18]⟩,
 ⟨(some 131), .eqc true [2, 2] (.t 127) (.t 130), (some (16, 124, false)), 82104, [19, 17, 16, 15, 9, 8, 3, 0, 2, 1, 7, 4, 6, 5, 14, 11, 10, 13, 12, 18, 22, 20, 21]⟩,
 ⟨(some 132), .pick (.t 124) (.c (.bool true)) (.t 131), none, 82112, [16, 15, 9, 8, 3, 0, 2, 1, 7, 4, 6, 5, 14, 11, 10, 13, 12, 23, 19, 17, 18, 22, 20, 21]⟩,
 ⟨(some 133), .copy (.t 132), none, 82120, [24, 16, 15, 9, 8, 3, 0, 2, 1, 7, 4, 6, 5, 14, 11, 10, 13, 12, 23, 19, 17, 18, 22, 20, 21]⟩,
 ⟨(some 134), .load true 2 (.t 12), (some (25, 133, false)), 82128, [25, 24, 16, 15, 9, 8, 3, 0, 2, 1, 7, 4, 6, 5, 14, 11, 10, 13, 12, 23, 19, 17, 18, 22, 20, 21]⟩,
 ⟨(some 135), .load true 2 (.t 13), (some (25, 133, false)), 82136, [25, 24, 16, 15, 9, 8, 3, 0, 2, 1, 7, 4, 6, 5, 14, 11, 10, 13, 12, 23, 19, 17, 18, 22, 20, 21]⟩,
 ⟨(some 136), .call (.c (.fn 27 [])) [(.t 134), (.t 135)], (some (25, 133, false)), 82144, [26, 25, 24, 16, 15, 9, 8, 3, 0, 2, 1, 7, 4, 6, 5, 14, 11, 10, 13, 12, 23, 19, 17, 18, 22, 20, 21, 27]⟩,
 ⟨(some 137), .load true 2 (.t 12), (some (25, 133, false)), 82152, [25, 24, 16, 15, 9, 8, 3, 0, 2, 1, 7, 4, 6, 5, 14, 11, 10, 13, 12, 23, 19, 17, 18, 22, 20, 21]⟩,
 ⟨(some 138), .load true 2 (.t 13), (some (25, 133, false)), 82160, [25, 24, 16, 15, 9, 8, 3, 0, 2, 1, 7, 4, 6, 5, 14, 11, 10, 13, 12, 23, 19, 17, 18, 22, 20, 21]⟩,
 ⟨(some 139), .call (.c (.fn 28 [])) [(.t 137), (.t 138)], (some (25, 133, false)), 82168, [29, 25, 24, 16, 15, 9, 8, 3, 0, 2, 1, 7, 4, 6, 5, 14, 11, 10, 13, 12, 23, 19, 17, 18, 22, 20, 21, 30, 28, 26, 27]⟩,
 ⟨(some 140), .eqb true (.t 136) (.t 139), (some (25, 133, false)), 82176, [28, 26, 25, 24, 16, 15, 9, 8, 3, 0, 2, 1, 7, 4, 6, 5, 14, 11, 10, 13, 12, 23, 19, 17, 18, 22, 20, 21, 27, 31, 29, 30]⟩,
 ⟨(some 141), .pick (.t 133) (.c (.bool true)) (.t 140), none, 82184, [25, 24, 16, 15, 9, 8, 3, 0, 2, 1, 7, 4, 6, 5, 14, 11, 10, 13, 12, 23, 19, 17, 18, 22, 20, 21, 32, 28, 26, 27, 31, 29, 30]⟩])
 (.cond (.t 141)
 (.seq
 (.region 11 false [
 ⟨(some 6), .copy (.c (.bool false)), none, 90112, []⟩])
 .ret)
 .skip))
 (.seq
 (.seq
 (.region 12 false [
 ⟨(some 15), .copy (.c (.int .i64 0)), none, 98304, []⟩])
 (.block 0
 (.loop
 (.seq
 (.seq
 (.region 13 false [
 ⟨(some 142), .copy (.t 15), none, 106496, []⟩,
 ⟨(some 143), .copy (.t 0), none, 106504, []⟩,
 ⟨(some 144), .len (.t 143), none, 106512, [1]⟩,
 ⟨(some 145), .bin .lss (.t 142) (.t 144), none, 106520, [0, 2, 1]⟩])
 (.cond (.t 145)
 .skip
 (.exit 0)))
 (.seq
 (.block 1
 (.seq
 (.region 15 true [
 ⟨(some 148), .copy (.t 0), none, 122880, []⟩,
 ⟨(some 149), .copy (.t 15), none, 122888, []⟩,
 ⟨(some 150), .iaddr 2 (.t 148) (.t 149), none, 122896, [0, 1]⟩,
 ⟨(some 151), .load true 2 (.t 150), none, 122904, [2, 0, 1]⟩,
 ⟨(some 152), .copy (.t 14), none, 122912, []⟩,
 ⟨(some 153), .call (.c (.fn 30 [])) [(.t 151), (.t 152)], none, 122920, [3, 2, 0, 1, 4]⟩,
 ⟨(some 154), .copy (.t 0), none, 122928, []⟩,
 ⟨(some 155), .copy (.t 15), none, 122936, []⟩,
 ⟨(some 156), .iaddr 2 (.t 154) (.t 155), none, 122944, [6, 7]⟩,
 ⟨(some 157), .load true 2 (.t 156), none, 122952, [8, 6, 7]⟩,
 ⟨(some 158), .copy (.t 14), none, 122960, []⟩,
 ⟨(some 159), .call (.c (.fn 31 [])) [(.t 157), (.t 158)], none, 122968, [9, 8, 6, 7, 10, 5, 3, 2, 0, 1, 4]⟩,
 ⟨(some 160), .call (.c (.fn 29 [])) [(.t 153), (.t 159)], none, 122976, [5, 3, 2, 0, 1, 4, 11, 9, 8, 6, 7, 10]⟩,
 ⟨(some 161), .not (.t 160), none, 122984, [12, 5, 3, 2, 0, 1, 4, 11, 9, 8, 6, 7, 10]⟩])
 (.cond (.t 161)
 (.seq
 (.region 16 false [
 ⟨(some 6), .copy (.c (.bool false)), none, 131072, []⟩])
 .ret)
 .skip)))
 (.region 14 false [
 ⟨(some 146), .copy (.t 15), none, 114688, []⟩,
 ⟨(some 147), .bin .add (.t 146) (.c (.int .i64 1)), none, 114696, [0]⟩,
 ⟨(some 15), .copy (.t 147), none, 114704, [1, 0]⟩]))))))
 (.seq
 (.region 17 false [
 ⟨(some 162), .copy (.t 0), none, 139264, []⟩,
 ⟨(some 163), .call (.c (.fn 32 [])) [(.t 162)], none, 139272, [0]⟩,
 ⟨(some 164), .copy (.t 0), none, 139280, []⟩,
 ⟨(some 165), .call (.c (.fn 33 [])) [(.t 164)], none, 139288, [2, 1, 0]⟩,
 ⟨(some 166), .call (.c (.fn 29 [])) [(.t 163), (.t 165)], none, 139296, [1, 0, 3, 2]⟩,
 ⟨(some 167), .copy (.t 166), none, 139304, [4, 1, 0, 3, 2]⟩,
 ⟨(some 168), .copy (.t 0), (some (5, 167, true)), 139312, [5, 4, 1, 0, 3, 2]⟩,
 ⟨(some 169), .copy (.t 1), (some (5, 167, true)), 139320, [5, 4, 1, 0, 3, 2]⟩,
 ⟨(some 170), .call (.c (.fn 34 [])) [(.t 168), (.t 169)], (some (5, 167, true)), 139328, [6, 5, 4, 1, 0, 3, 2, 7]⟩,
 ⟨(some 171), .copy (.t 0), (some (5, 167, true)), 139336, [5, 4, 1, 0, 3, 2]⟩,
 ⟨(some 172), .copy (.t 1), (some (5, 167, true)), 139344, [5, 4, 1, 0, 3, 2]⟩,
 ⟨(some 173), .call (.c (.fn 35 [])) [(.t 171), (.t 172)], (some (5, 167, true)), 139352, [9, 5, 4, 1, 0, 3, 2, 10, 8, 6, 7]⟩,
 ⟨(some 174), .call (.c (.fn 29 [])) [(.t 170), (.t 173)], (some (5, 167, true)), 139360, [8, 6, 5, 4, 1, 0, 3, 2, 7, 11, 9, 10]⟩,
 ⟨(some 175), .pick (.t 167) (.t 174) (.c (.bool false)), none, 139368, [5, 4, 1, 0, 3, 2, 12, 8, 6, 7, 11, 9, 10]⟩,
 ⟨(some 176), .copy (.t 175), none, 139376, [13, 5, 4, 1, 0, 3, 2, 12, 8, 6, 7, 11, 9, 10]⟩,
 ⟨(some 177), .copy (.t 7), (some (14, 176, true)), 139384, [14, 13, 5, 4, 1, 0, 3, 2, 12, 8, 6, 7, 11, 9, 10]⟩,
 ⟨(some 178), .pick (.t 176) (.t 177) (.c (.bool false)), none, 139392, [14, 13, 5, 4, 1, 0, 3, 2, 12, 8, 6, 7, 11, 9, 10, 15]⟩,
 ⟨(some 6), .copy (.t 178), none, 139400, [16, 14, 13, 5, 4, 1, 0, 3, 2, 12, 8, 6, 7, 11, 9, 10, 15]⟩])
 .ret)))))))))))
theorem vf3 : VF Try.prog 3 = some (179, vc3, [.tmp 6]) := by kernel_rfl
/-! All functions and the reference -/
theorem vslarr {lvl site : Nat} {tf : Nat → Option PV} {hf : Bid → Option Blk} {n esz : Nat} {x : VX} {b : Bid} {e : List PV} (hx : ev tf x = some (.ptr b 1 0 0) := by rfl) (hb : hf b = some ⟨true, false, n * esz, [e]⟩ := by rfl)
    (h1 : 0 < n ∧ 0 < esz := by decide) (h2 : e.length = n * esz := by rfl) (h3 : (e.all closed) = true := by rfl) : vop lvl site tf hf (.slarr n esz x none none) = some ⟨.sh false (chunks n esz e), [(b, ⟨true, true, n * esz, [e]⟩)], [b]⟩ := by
  have h4 : True ∧ True ∧ True ∧ 0 < n ∧ 0 < esz ∧ 0 + n * esz ≤ e.length ∧ (e.all closed) = true ∧ [e].length = 1 := ⟨trivial, trivial, trivial, h1.1, h1.2, by omega, h3, rfl⟩
  simp only [vop, hx, Option.bind_some, optInt, hb, List.getElem?_cons_zero]
  rw [if_pos h4]
  rfl
set_option maxHeartbeats 4000000 in
theorem matches_vc {q p : PV} {l m : List SpanL} (x y z u : Str) (hq : Sl q (l.map encS)) (hp : Sl p (m.map encS)) (hl : l.length ≤ maxLen) (hm : m.length ≤ maxLen) : VC Try.prog 3 [q, p, .agg [.str x, .str y, .str z, .str u]] [] (.bool true) [] := by
  refine vc_of vf3 ?_ (Nat.le_of_ble_eq_true rfl) (by intro vs h; cases h)
  have hs1 := short_vc (n := 8) hq hl
  have hs2 := short_vc (n := 8) hp hm
  repeat first | refine o_copy ?_ | refine nl ?_ | refine ct_seq ?_ | refine rg ?_ | refine ct_block ?_ | refine bq ?_ | refine cv0 sanity_vc ?_ | refine cv0 hs1 ?_ | refine o_loads ?_ | refine o_loadp ?_ | refine o_iaddr ?_ | refine o_iaddrO ?_ | refine o_iaddrR ?_ | refine o_add ?_ | refine o_cat ?_ | refine o_bin ?_ | refine o_lenq ?_ | refine o_len ?_ | refine o_loadsA ?_ | refine o_loadpA ?_ | refine o_box ?_ | refine o_alloc ?_ | refine o_store ?_ | refine o_not ?_ | refine o_pickt ?_ | refine o_pickf ?_ | refine o_extract ?_ | refine o_iaddrA ?_ | refine o_eqb ?_ | refine o_eqc ?_ | refine o_lenS ?_ | refine skF ?_ | refine skU ?_
  refine glook (fun hg => ?_) (fun hg => ?_)
  · repeat first | refine o_copy ?_ | refine nl ?_ | refine ct_seq ?_ | refine rg ?_ | refine ct_block ?_ | refine bq ?_ | refine o_loads ?_ | refine o_loadp ?_ | refine o_iaddr ?_ | refine o_iaddrO ?_ | refine o_iaddrR ?_ | refine o_add ?_ | refine o_cat ?_ | refine o_bin ?_ | refine o_lenq ?_ | refine o_len ?_ | refine o_loadsA ?_ | refine o_loadpA ?_ | refine o_box ?_ | refine o_alloc ?_ | refine o_store ?_ | refine o_not ?_ | refine o_pickt ?_ | refine o_pickf ?_ | refine o_extract ?_ | refine o_iaddrA ?_ | refine o_eqb ?_ | refine o_eqc ?_ | refine o_lenS ?_ | refine skF ?_ | refine skU ?_
    refine cndt ?_
    repeat first | refine o_copy ?_ | refine nl ?_ | refine ct_seq ?_ | refine rg ?_ | refine ct_block ?_ | refine bq ?_ | refine o_loads ?_ | refine o_loadp ?_ | refine o_iaddr ?_ | refine o_iaddrO ?_ | refine o_iaddrR ?_ | refine o_add ?_ | refine o_cat ?_ | refine o_bin ?_ | refine o_lenq ?_ | refine o_len ?_ | refine o_loadsA ?_ | refine o_loadpA ?_ | refine o_box ?_ | refine o_alloc ?_ | refine o_store ?_ | refine o_not ?_ | refine o_pickt ?_ | refine o_pickf ?_ | refine o_extract ?_ | refine o_iaddrA ?_ | refine o_eqb ?_ | refine o_eqc ?_ | refine o_lenS ?_ | refine skF ?_ | refine skU ?_
    exact ct_ret ⟨.inr rfl, oAny rfl⟩
  repeat first | refine o_copy ?_ | refine nl ?_ | refine ct_seq ?_ | refine rg ?_ | refine ct_block ?_ | refine bq ?_ | refine cv0 hs2 ?_ | refine o_loads ?_ | refine o_loadp ?_ | refine o_iaddr ?_ | refine o_iaddrO ?_ | refine o_iaddrR ?_ | refine o_add ?_ | refine o_cat ?_ | refine o_bin ?_ | refine o_lenq ?_ | refine o_len ?_ | refine o_loadsA ?_ | refine o_loadpA ?_ | refine o_box ?_ | refine o_alloc ?_ | refine o_store ?_ | refine o_not ?_ | refine o_pickt ?_ | refine o_pickf ?_ | refine o_extract ?_ | refine o_iaddrA ?_ | refine o_eqb ?_ | refine o_eqc ?_ | refine o_lenS ?_ | refine skF ?_ | refine skU ?_
  refine glook (fun hg2 => ?_) (fun hg2 => ?_)
  · repeat first | refine o_copy ?_ | refine nl ?_ | refine ct_seq ?_ | refine rg ?_ | refine ct_block ?_ | refine bq ?_ | refine o_loads ?_ | refine o_loadp ?_ | refine o_iaddr ?_ | refine o_iaddrO ?_ | refine o_iaddrR ?_ | refine o_add ?_ | refine o_cat ?_ | refine o_bin ?_ | refine o_lenq ?_ | refine o_len ?_ | refine o_loadsA ?_ | refine o_loadpA ?_ | refine o_box ?_ | refine o_alloc ?_ | refine o_store ?_ | refine o_not ?_ | refine o_pickt ?_ | refine o_pickf ?_ | refine o_extract ?_ | refine o_iaddrA ?_ | refine o_eqb ?_ | refine o_eqc ?_ | refine o_lenS ?_ | refine skF ?_ | refine skU ?_
    refine cndt ?_
    repeat first | refine o_copy ?_ | refine nl ?_ | refine ct_seq ?_ | refine rg ?_ | refine ct_block ?_ | refine bq ?_ | refine o_loads ?_ | refine o_loadp ?_ | refine o_iaddr ?_ | refine o_iaddrO ?_ | refine o_iaddrR ?_ | refine o_add ?_ | refine o_cat ?_ | refine o_bin ?_ | refine o_lenq ?_ | refine o_len ?_ | refine o_loadsA ?_ | refine o_loadpA ?_ | refine o_box ?_ | refine o_alloc ?_ | refine o_store ?_ | refine o_not ?_ | refine o_pickt ?_ | refine o_pickf ?_ | refine o_extract ?_ | refine o_iaddrA ?_ | refine o_eqb ?_ | refine o_eqc ?_ | refine o_lenS ?_ | refine skF ?_ | refine skU ?_
    exact ct_ret ⟨.inr rfl, oAny rfl⟩
  repeat first | refine o_copy ?_ | refine nl ?_ | refine ct_seq ?_ | refine rg ?_ | refine ct_block ?_ | refine bq ?_ | refine o_loads ?_ | refine o_loadp ?_ | refine o_iaddr ?_ | refine o_iaddrO ?_ | refine o_iaddrR ?_ | refine o_add ?_ | refine o_cat ?_ | refine o_bin ?_ | refine o_lenq ?_ | refine o_len ?_ | refine o_loadsA ?_ | refine o_loadpA ?_ | refine o_box ?_ | refine o_alloc ?_ | refine o_store ?_ | refine o_not ?_ | refine o_pickt ?_ | refine o_pickf ?_ | refine o_extract ?_ | refine o_iaddrA ?_ | refine o_eqb ?_ | refine o_eqc ?_ | refine o_lenS ?_ | refine skF ?_ | refine skU ?_
  refine glook (fun hgx => ?_) (fun hgx => ?_)
  · repeat first | refine o_copy ?_ | refine nl ?_ | refine ct_seq ?_ | refine rg ?_ | refine ct_block ?_ | refine bq ?_ | refine o_loads ?_ | refine o_loadp ?_ | refine o_iaddr ?_ | refine o_iaddrO ?_ | refine o_iaddrR ?_ | refine o_add ?_ | refine o_cat ?_ | refine o_bin ?_ | refine o_lenq ?_ | refine o_len ?_ | refine o_loadsA ?_ | refine o_loadpA ?_ | refine o_box ?_ | refine o_alloc ?_ | refine o_store ?_ | refine o_not ?_ | refine o_pickt ?_ | refine o_pickf ?_ | refine o_extract ?_ | refine o_iaddrA ?_ | refine o_eqb ?_ | refine o_eqc ?_ | refine o_lenS ?_ | refine skF ?_ | refine skU ?_
    refine cndt ?_
    repeat first | refine o_copy ?_ | refine nl ?_ | refine ct_seq ?_ | refine rg ?_ | refine ct_block ?_ | refine bq ?_ | refine o_loads ?_ | refine o_loadp ?_ | refine o_iaddr ?_ | refine o_iaddrO ?_ | refine o_iaddrR ?_ | refine o_add ?_ | refine o_cat ?_ | refine o_bin ?_ | refine o_lenq ?_ | refine o_len ?_ | refine o_loadsA ?_ | refine o_loadpA ?_ | refine o_box ?_ | refine o_alloc ?_ | refine o_store ?_ | refine o_not ?_ | refine o_pickt ?_ | refine o_pickf ?_ | refine o_extract ?_ | refine o_iaddrA ?_ | refine o_eqb ?_ | refine o_eqc ?_ | refine o_lenS ?_ | refine skF ?_ | refine skU ?_
    exact ct_ret ⟨.inr rfl, oAny rfl⟩
  repeat first | refine o_copy ?_ | refine nl ?_ | refine ct_seq ?_ | refine rg ?_ | refine ct_block ?_ | refine bq ?_ | refine o_loads ?_ | refine o_loadp ?_ | refine o_iaddr ?_ | refine o_iaddrO ?_ | refine o_iaddrR ?_ | refine o_add ?_ | refine o_cat ?_ | refine o_bin ?_ | refine o_lenq ?_ | refine o_len ?_ | refine o_loadsA ?_ | refine o_loadpA ?_ | refine o_box ?_ | refine o_alloc ?_ | refine o_store ?_ | refine o_not ?_ | refine o_pickt ?_ | refine o_pickf ?_ | refine o_extract ?_ | refine o_iaddrA ?_ | refine o_eqb ?_ | refine o_eqc ?_ | refine o_lenS ?_ | refine skF ?_ | refine skU ?_
  refine glook (fun hgy => ?_) (fun hgy => ?_)
  · repeat first | refine o_copy ?_ | refine nl ?_ | refine ct_seq ?_ | refine rg ?_ | refine ct_block ?_ | refine bq ?_ | refine o_loads ?_ | refine o_loadp ?_ | refine o_iaddr ?_ | refine o_iaddrO ?_ | refine o_iaddrR ?_ | refine o_add ?_ | refine o_cat ?_ | refine o_bin ?_ | refine o_lenq ?_ | refine o_len ?_ | refine o_loadsA ?_ | refine o_loadpA ?_ | refine o_box ?_ | refine o_alloc ?_ | refine o_store ?_ | refine o_not ?_ | refine o_pickt ?_ | refine o_pickf ?_ | refine o_extract ?_ | refine o_iaddrA ?_ | refine o_eqb ?_ | refine o_eqc ?_ | refine o_lenS ?_ | refine skF ?_ | refine skU ?_
    refine cndt ?_
    repeat first | refine o_copy ?_ | refine nl ?_ | refine ct_seq ?_ | refine rg ?_ | refine ct_block ?_ | refine bq ?_ | refine o_loads ?_ | refine o_loadp ?_ | refine o_iaddr ?_ | refine o_iaddrO ?_ | refine o_iaddrR ?_ | refine o_add ?_ | refine o_cat ?_ | refine o_bin ?_ | refine o_lenq ?_ | refine o_len ?_ | refine o_loadsA ?_ | refine o_loadpA ?_ | refine o_box ?_ | refine o_alloc ?_ | refine o_store ?_ | refine o_not ?_ | refine o_pickt ?_ | refine o_pickf ?_ | refine o_extract ?_ | refine o_iaddrA ?_ | refine o_eqb ?_ | refine o_eqc ?_ | refine o_lenS ?_ | refine skF ?_ | refine skU ?_
    exact ct_ret ⟨.inr rfl, oAny rfl⟩
  repeat first | refine o_copy ?_ | refine nl ?_ | refine ct_seq ?_ | refine rg ?_ | refine ct_block ?_ | refine bq ?_ | refine o_loads ?_ | refine o_loadp ?_ | refine o_iaddr ?_ | refine o_iaddrO ?_ | refine o_iaddrR ?_ | refine o_add ?_ | refine o_cat ?_ | refine o_bin ?_ | refine o_lenq ?_ | refine o_len ?_ | refine o_loadsA ?_ | refine o_loadpA ?_ | refine o_box ?_ | refine o_alloc ?_ | refine o_store ?_ | refine o_not ?_ | refine o_pickt ?_ | refine o_pickf ?_ | refine o_extract ?_ | refine o_iaddrA ?_ | refine o_eqb ?_ | refine o_eqc ?_ | refine o_lenS ?_ | refine skF ?_ | refine skU ?_
  refine glook (fun hgz => ?_) (fun hgz => ?_)
  · repeat first | refine o_copy ?_ | refine nl ?_ | refine ct_seq ?_ | refine rg ?_ | refine ct_block ?_ | refine bq ?_ | refine o_loads ?_ | refine o_loadp ?_ | refine o_iaddr ?_ | refine o_iaddrO ?_ | refine o_iaddrR ?_ | refine o_add ?_ | refine o_cat ?_ | refine o_bin ?_ | refine o_lenq ?_ | refine o_len ?_ | refine o_loadsA ?_ | refine o_loadpA ?_ | refine o_box ?_ | refine o_alloc ?_ | refine o_store ?_ | refine o_not ?_ | refine o_pickt ?_ | refine o_pickf ?_ | refine o_extract ?_ | refine o_iaddrA ?_ | refine o_eqb ?_ | refine o_eqc ?_ | refine o_lenS ?_ | refine skF ?_ | refine skU ?_
    refine cndt ?_
    repeat first | refine o_copy ?_ | refine nl ?_ | refine ct_seq ?_ | refine rg ?_ | refine ct_block ?_ | refine bq ?_ | refine o_loads ?_ | refine o_loadp ?_ | refine o_iaddr ?_ | refine o_iaddrO ?_ | refine o_iaddrR ?_ | refine o_add ?_ | refine o_cat ?_ | refine o_bin ?_ | refine o_lenq ?_ | refine o_len ?_ | refine o_loadsA ?_ | refine o_loadpA ?_ | refine o_box ?_ | refine o_alloc ?_ | refine o_store ?_ | refine o_not ?_ | refine o_pickt ?_ | refine o_pickf ?_ | refine o_extract ?_ | refine o_iaddrA ?_ | refine o_eqb ?_ | refine o_eqc ?_ | refine o_lenS ?_ | refine skF ?_ | refine skU ?_
    exact ct_ret ⟨.inr rfl, oAny rfl⟩
  repeat first | refine o_copy ?_ | refine nl ?_ | refine ct_seq ?_ | refine rg ?_ | refine ct_block ?_ | refine bq ?_ | refine o_loads ?_ | refine o_loadp ?_ | refine o_iaddr ?_ | refine o_iaddrO ?_ | refine o_iaddrR ?_ | refine o_add ?_ | refine o_cat ?_ | refine o_bin ?_ | refine o_lenq ?_ | refine o_len ?_ | refine o_loadsA ?_ | refine o_loadpA ?_ | refine o_box ?_ | refine o_alloc ?_ | refine o_store ?_ | refine o_not ?_ | refine o_pickt ?_ | refine o_pickf ?_ | refine o_extract ?_ | refine o_iaddrA ?_ | refine o_eqb ?_ | refine o_eqc ?_ | refine o_lenS ?_ | refine skF ?_ | refine skU ?_
  refine cnd (fun hgu => ?_) (fun hgu => ct_skip ?_)
  · repeat first | refine o_copy ?_ | refine nl ?_ | refine ct_seq ?_ | refine rg ?_ | refine ct_block ?_ | refine bq ?_ | refine o_loads ?_ | refine o_loadp ?_ | refine o_iaddr ?_ | refine o_iaddrO ?_ | refine o_iaddrR ?_ | refine o_add ?_ | refine o_cat ?_ | refine o_bin ?_ | refine o_lenq ?_ | refine o_len ?_ | refine o_loadsA ?_ | refine o_loadpA ?_ | refine o_box ?_ | refine o_alloc ?_ | refine o_store ?_ | refine o_not ?_ | refine o_pickt ?_ | refine o_pickf ?_ | refine o_extract ?_ | refine o_iaddrA ?_ | refine o_eqb ?_ | refine o_eqc ?_ | refine o_lenS ?_ | refine skF ?_ | refine skU ?_
    exact ct_ret ⟨.inr rfl, oAny rfl⟩
  obtain ⟨h8, hls⟩ := short_all (l := l) (n := 8) (by simpa using hg)
  obtain ⟨hm8, hms⟩ := short_all (l := m) (n := 8) (by simpa using hg2)
  have hxl : x.length ≤ 30 := by have h' := of_decide_eq_false hgx; omega
  have hyl : y.length ≤ 30 := by have h' := of_decide_eq_false hgy; omega
  have hzl : z.length ≤ 30 := by have h' := of_decide_eq_false hgz; omega
  have hml : (l.map encS).length = l.length := List.length_map ..
  clear hs1 hs2
  have e1 : (!((prefixL x).lo == (prefixL x).lo && ((prefixL x).hi == (prefixL x).hi && true))) = false := by simp
  have e2 : (!((oneL x).lo == (oneL x).lo && ((oneL x).hi == (oneL x).hi && true))) = false := by simp
  have e3 : (!((movedL x y z).1 == (movedL x y z).1)) = false := by simp
  have e4 : (!((movedL x y z).2 == (movedL x y z).2)) = false := by simp
  repeat first | refine o_copy ?_ | refine nl ?_ | refine ct_seq ?_ | refine rg ?_ | refine ct_block ?_ | refine bq ?_ | refine cv0 (moved_vc x y z (by omega) (by omega) (by omega)) ?_ | refine cv0 (rmoved_vc x y z (by omega) (by omega) (by omega)) ?_ | refine cv0 (prefix_vc x (by omega)) ?_ | refine cv0 (rprefix_vc x (by omega)) ?_ | refine cv0 (one_vc x (by omega)) ?_ | refine cv0 (rone_vc x (by omega)) ?_ | refine o_loads ?_ | refine o_loadp ?_ | refine o_iaddr ?_ | refine o_iaddrO ?_ | refine o_iaddrR ?_ | refine o_add ?_ | refine o_cat ?_ | refine o_bin ?_ | refine o_lenq ?_ | refine o_len ?_ | refine o_loadsA ?_ | refine o_loadpA ?_ | refine o_box ?_ | refine o_alloc ?_ | refine o_store ?_ | refine o_not ?_ | refine o_pickt ?_ | refine o_pickf ?_ | refine o_extract ?_ | refine o_iaddrA ?_ | refine o_eqb ?_ | refine o_eqc ?_ | refine o_lenS ?_ | refine skF ?_ | refine skU ?_
  refine cndf (ct_skip ?_)
  have hpv := pivots_vc (q := .sh false ([x, y, z, u].map encT)) (l := [x, y, z, u]) Sl.sh (Nat.le_of_ble_eq_true rfl)
  have hpl : (pivL [x, y, z, u]).length ≤ 4 := pivL_len [x, y, z, u]
  generalize pivL [x, y, z, u] = pv at hpv hpl
  have hrm : VC Try.prog 26 [.agg (encS ⟨x, y⟩), .agg (encS ⟨z, u⟩)] [] (.agg (encS (meetL ⟨x, y⟩ ⟨z, u⟩))) [] := by rw [meet_ref]; exact rmeet_vc _ _
  have hrc : VC Try.prog 28 [.agg (encS ⟨x, y⟩), .agg (encS ⟨z, u⟩)] [] (.bool (coversL ⟨x, y⟩ ⟨z, u⟩)) [] := by rw [covers_ref]; exact rcovers_vc _ _
  have f1 : (!(hasL ⟨x, y⟩ z == hasL ⟨x, y⟩ z)) = false := by simp
  have f2 : (!(emptyL ⟨x, y⟩ == emptyL ⟨x, y⟩)) = false := by simp
  have f3 : (!((meetL ⟨x, y⟩ ⟨z, u⟩).lo == (meetL ⟨x, y⟩ ⟨z, u⟩).lo && ((meetL ⟨x, y⟩ ⟨z, u⟩).hi == (meetL ⟨x, y⟩ ⟨z, u⟩).hi && true))) = false := by simp
  have f4 : (!(coversL ⟨x, y⟩ ⟨z, u⟩ == coversL ⟨x, y⟩ ⟨z, u⟩)) = false := by simp
  have k1 := has_vc ⟨x, y⟩ z
  have k2 := rhas_vc ⟨x, y⟩ z
  have k3 := empty_vc ⟨x, y⟩
  have k4 := rempty_vc ⟨x, y⟩
  have k5 := meet_vc ⟨x, y⟩ ⟨z, u⟩
  have k6 := covers_vc ⟨x, y⟩ ⟨z, u⟩
  repeat first | refine o_copy ?_ | refine nl ?_ | refine ct_seq ?_ | refine rg ?_ | refine ct_block ?_ | refine bq ?_ | refine cv0 (sp_vc x y) ?_ | refine cv0 (sp_vc z u) ?_ | refine o_v vslarr ?_ | refine cv hpv ?_ | refine cv0 k1 ?_ | refine cv0 k2 ?_ | refine cv0 k3 ?_ | refine cv0 k4 ?_ | refine cv0 k5 ?_ | refine cv0 hrm ?_ | refine cv0 k6 ?_ | refine cv0 hrc ?_ | refine o_loads ?_ | refine o_loadp ?_ | refine o_iaddr ?_ | refine o_iaddrO ?_ | refine o_iaddrR ?_ | refine o_add ?_ | refine o_cat ?_ | refine o_bin ?_ | refine o_lenq ?_ | refine o_len ?_ | refine o_loadsA ?_ | refine o_loadpA ?_ | refine o_box ?_ | refine o_alloc ?_ | refine o_store ?_ | refine o_not ?_ | refine o_pickt ?_ | refine o_pickf ?_ | refine o_extract ?_ | refine o_iaddrA ?_ | refine o_eqb ?_ | refine o_eqc ?_ | refine o_lenS ?_ | refine skF ?_ | refine skU ?_
  refine cndf (ct_skip ?_)
  repeat first | refine o_copy ?_ | refine nl ?_ | refine ct_seq ?_ | refine rg ?_ | refine ct_block ?_ | refine bq ?_ | refine o_loads ?_ | refine o_loadp ?_ | refine o_iaddr ?_ | refine o_iaddrO ?_ | refine o_iaddrR ?_ | refine o_add ?_ | refine o_cat ?_ | refine o_bin ?_ | refine o_lenq ?_ | refine o_len ?_ | refine o_loadsA ?_ | refine o_loadpA ?_ | refine o_box ?_ | refine o_alloc ?_ | refine o_store ?_ | refine o_not ?_ | refine o_pickt ?_ | refine o_pickf ?_ | refine o_extract ?_ | refine o_iaddrA ?_ | refine o_eqb ?_ | refine o_eqc ?_ | refine o_lenS ?_ | refine skF ?_ | refine skU ?_
  refine ct_loopG (fun (g : Nat) => [(0, q), (1, p), (7, .bool true), (14, ownV ⟨1, 73736⟩ (pv.map encT)), (15, .int .i64 g)])
    (fun g => [(⟨1, 73736⟩, blkV 1 (pv.map encT))]) (fun g => l.length - g)
    (fun g => g ≤ l.length) 0 goes (Nat.zero_le _) ?_
  intro i hi
  (try dsimp only)
  repeat first | refine o_copy ?_ | refine nl ?_ | refine ct_seq ?_ | refine rg ?_ | refine ct_block ?_ | refine bq ?_ | refine o_loads ?_ | refine o_loadp ?_ | refine o_iaddr ?_ | refine o_iaddrO ?_ | refine o_iaddrR ?_ | refine o_add ?_ | refine o_cat ?_ | refine o_bin ?_ | refine o_lenq ?_ | refine o_len ?_ | refine o_loadsA ?_ | refine o_loadpA ?_ | refine o_box ?_ | refine o_alloc ?_ | refine o_store ?_ | refine o_not ?_ | refine o_pickt ?_ | refine o_pickf ?_ | refine o_extract ?_ | refine o_iaddrA ?_ | refine o_eqb ?_ | refine o_eqc ?_ | refine o_lenS ?_ | refine skF ?_ | refine skU ?_
  refine cnd (fun h => ct_skip ?_) (fun h => ct_exit ?_)
  · have hlt : i < l.length := by have h' := of_decide_eq_true h; omega
    obtain ⟨s, hs⟩ : ∃ x, l[i]? = some x := ⟨_, List.getElem?_eq_getElem hlt⟩
    have hse := gm (enc := encS) (n := (i : Int)) hs (by omega)
    have p1 := parts_vc (q := .sh false (pv.map encT)) s (l := pv) Sl.sh (by omega)
    have p2 := rparts_vc (q := .sh false (pv.map encT)) s (l := pv) Sl.sh (by omega)
    have ptl := partsL_len s [] pv
    generalize partsL s [] pv = pt at *
    have p3 := same_vc (q := .sh false (pt.map encS)) (p := .sh false (pt.map encS)) (l := pt) (m := pt) Sl.sh Sl.sh (by unfold maxLen; omega) (by unfold maxLen; omega)
    rw [show decide (pt = pt) = true from decide_eq_true rfl] at p3
    repeat first | refine o_copy ?_ | refine nl ?_ | refine ct_seq ?_ | refine rg ?_ | refine ct_block ?_ | refine bq ?_ | refine cv p1 ?_ | refine cv p2 ?_ | refine cv0 p3 ?_ | refine o_loads ?_ | refine o_loadp ?_ | refine o_iaddr ?_ | refine o_iaddrO ?_ | refine o_iaddrR ?_ | refine o_add ?_ | refine o_cat ?_ | refine o_bin ?_ | refine o_lenq ?_ | refine o_len ?_ | refine o_loadsA ?_ | refine o_loadpA ?_ | refine o_box ?_ | refine o_alloc ?_ | refine o_store ?_ | refine o_not ?_ | refine o_pickt ?_ | refine o_pickf ?_ | refine o_extract ?_ | refine o_iaddrA ?_ | refine o_eqb ?_ | refine o_eqc ?_ | refine o_lenS ?_ | refine skF ?_ | refine skU ?_
    refine cndf (ct_skip ?_)
    repeat first | refine o_copy ?_ | refine nl ?_ | refine ct_seq ?_ | refine rg ?_ | refine ct_block ?_ | refine bq ?_ | refine o_loads ?_ | refine o_loadp ?_ | refine o_iaddr ?_ | refine o_iaddrO ?_ | refine o_iaddrR ?_ | refine o_add ?_ | refine o_cat ?_ | refine o_bin ?_ | refine o_lenq ?_ | refine o_len ?_ | refine o_loadsA ?_ | refine o_loadpA ?_ | refine o_box ?_ | refine o_alloc ?_ | refine o_store ?_ | refine o_not ?_ | refine o_pickt ?_ | refine o_pickf ?_ | refine o_extract ?_ | refine o_iaddrA ?_ | refine o_eqb ?_ | refine o_eqc ?_ | refine o_lenS ?_ | refine skF ?_ | refine skU ?_
    exact agn (i + 1) (by omega) goes
  have g1 := norm_vc hq (by omega)
  have g2 := rnorm_vc hq (by omega)
  have g3 := minus_vc hq hp (by omega) (by omega)
  have g4 := rminus_vc hq hp (by omega) (by omega)
  have hrl := rnorm_len l
  have hml2 := minus_len l m
  rw [← minus_ref] at g4
  generalize rnormL l = nrm at *
  generalize minusL l m = mns at *
  have s1 := same_vc (q := .sh false (nrm.map encS)) (p := .sh false (nrm.map encS)) (l := nrm) (m := nrm) Sl.sh Sl.sh (by unfold maxLen; omega) (by unfold maxLen; omega)
  have s2 := same_vc (q := .sh false (mns.map encS)) (p := .sh false (mns.map encS)) (l := mns) (m := mns) Sl.sh Sl.sh (by unfold maxLen; omega) (by unfold maxLen; omega)
  rw [show decide (nrm = nrm) = true from decide_eq_true rfl] at s1
  rw [show decide (mns = mns) = true from decide_eq_true rfl] at s2
  repeat first | refine o_copy ?_ | refine nl ?_ | refine ct_seq ?_ | refine rg ?_ | refine ct_block ?_ | refine bq ?_ | refine cv g1 ?_ | refine cv g2 ?_ | refine cv g3 ?_ | refine cv g4 ?_ | refine cv0 s1 ?_ | refine cv0 s2 ?_ | refine o_loads ?_ | refine o_loadp ?_ | refine o_iaddr ?_ | refine o_iaddrO ?_ | refine o_iaddrR ?_ | refine o_add ?_ | refine o_cat ?_ | refine o_bin ?_ | refine o_lenq ?_ | refine o_len ?_ | refine o_loadsA ?_ | refine o_loadpA ?_ | refine o_box ?_ | refine o_alloc ?_ | refine o_store ?_ | refine o_not ?_ | refine o_pickt ?_ | refine o_pickf ?_ | refine o_extract ?_ | refine o_iaddrA ?_ | refine o_eqb ?_ | refine o_eqc ?_ | refine o_lenS ?_ | refine skF ?_ | refine skU ?_
  exact ct_ret ⟨.inr rfl, oB rfl⟩
theorem spanMatches_in (l0 : List (List PV)) (i0 : InTy (.sl [.str, .str]) (.sh false l0)) (l1 : List (List PV)) (i1 : InTy (.sl [.str, .str]) (.sh false l1)) (qs : List PV) (hl : qs.length = [CTy.str, .str, .str, .str].length) (hq : ∀ (j : Nat) (c : CTy) (q : PV), [CTy.str, .str, .str, .str][j]? = some c → qs[j]? = some q → InTy c q) : VC Try.prog 3 [.sh false l0, .sh false l1, .agg qs] [] (.bool true) [] := by
  obtain ⟨l, rfl, hl0⟩ := decS i0
  obtain ⟨m, rfl, hm0⟩ := decS i1
  obtain ⟨a, b, c, d, rfl⟩ := list4 hl
  obtain ⟨x, rfl, _⟩ := in_str (hq 0 _ _ rfl rfl)
  obtain ⟨y, rfl, _⟩ := in_str (hq 1 _ _ rfl rfl)
  obtain ⟨z, rfl, _⟩ := in_str (hq 2 _ _ rfl rfl)
  obtain ⟨u, rfl, _⟩ := in_str (hq 3 _ _ rfl rfl)
  exact matches_vc x y z u Sl.sh Sl.sh hl0 hm0
end Go.Proofs
