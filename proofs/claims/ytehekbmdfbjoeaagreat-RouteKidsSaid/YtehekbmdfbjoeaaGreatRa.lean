/- Ra -/
import Derived.Test.YtehekbmdfbjoeaaGreatProg
import Derived.Test.YtehekbmdfbjoeaaGreatVE
import Derived.Test.YtehekbmdfbjoeaaGreatVD
import Derived.Test.YtehekbmdfbjoeaaGreatPu
open Go.V
namespace Go.Proofs
theorem sanity_run : run Tryz.prog noCall noX 400 30 11 [] [] = some (.bool true, []) := by kernel_rfl
theorem sanity_vc : VC Tryz.prog 11 [] [] (.bool true) [] := run_ok noCall_good noX_good 30 _ _ _ _ _ sanity_run
end Go.Proofs
open Go.V Go.Pu
set_option linter.unusedVariables false
set_option linter.unusedSimpArgs false
set_option maxRecDepth 20000
namespace Go.Proofs
/-! Printed by turn.py out of the texts of the spans. -/
/-- downspout/downspoutref02.Pivots -/
def vc25 : VCode :=
 (.seq
 (.region 0 false [
 ⟨(some 2), .copy (.c .nils), none, 0, []⟩])
 (.seq
 (.region 1 false [
 ⟨(some 8), .bslice 1 [(.str [])] 0 [], none, 8192, []⟩,
 ⟨(some 3), .copy (.t 8), none, 8200, [0]⟩])
 (.seq
 (.seq
 (.region 2 false [
 ⟨(some 4), .copy (.c (.int .i64 0)), none, 16384, []⟩])
 (.block 0
 (.loop
 (.seq
 (.seq
 (.region 3 false [
 ⟨(some 9), .copy (.t 4), none, 24576, []⟩,
 ⟨(some 10), .copy (.t 0), none, 24584, []⟩,
 ⟨(some 11), .len (.t 10), none, 24592, [1]⟩,
 ⟨(some 12), .bin .lss (.t 9) (.t 11), none, 24600, [0, 2, 1]⟩])
 (.cond (.t 12)
 .skip
 (.exit 0)))
 (.seq
 (.block 1
 (.seq
 (.region 5 true [
 ⟨(some 15), .bslice 1 [(.str [])] 0 [], none, 40960, []⟩,
 ⟨(some 16), .copy (.t 0), none, 40968, []⟩,
 ⟨(some 17), .copy (.t 4), none, 40976, []⟩,
 ⟨(some 18), .iaddr 1 (.t 16) (.t 17), none, 40984, [1, 2]⟩,
 ⟨(some 19), .load false 1 (.t 18), none, 40992, [3, 1, 2]⟩,
 ⟨(some 20), .bin .eql (.t 19) (.c (.str [])), none, 41000, [4, 3, 1, 2]⟩,
 ⟨(some 5), .copy (.t 15), none, 41008, [0]⟩,
 ⟨(some 6), .copy (.t 20), none, 41016, [5, 4, 3, 1, 2, 6, 0]⟩])
 (.seq
 (.seq
 (.region 6 false [
 ⟨(some 7), .copy (.c (.int .i64 0)), none, 49152, []⟩])
 (.block 2
 (.loop
 (.seq
 (.seq
 (.region 7 false [
 ⟨(some 21), .copy (.t 7), none, 57344, []⟩,
 ⟨(some 22), .copy (.t 3), none, 57352, []⟩,
 ⟨(some 23), .len (.t 22), none, 57360, [1]⟩,
 ⟨(some 24), .bin .lss (.t 21) (.t 23), none, 57368, [0, 2, 1]⟩])
 (.cond (.t 24)
 .skip
 (.exit 2)))
 (.seq
 (.block 3
 (.seq
 (.seq
 (.region 9 true [
 ⟨(some 27), .copy (.t 6), none, 73728, []⟩,
 ⟨(some 28), .not (.t 27), none, 73736, [0]⟩,
 ⟨(some 29), .copy (.t 28), none, 73744, [1, 0]⟩,
 ⟨(some 30), .copy (.t 0), (some (2, 29, true)), 73752, [2, 1, 0]⟩,
 ⟨(some 31), .copy (.t 4), (some (2, 29, true)), 73760, [2, 1, 0]⟩,
 ⟨(some 32), .iaddr 1 (.t 30) (.t 31), (some (2, 29, true)), 73768, [3, 2, 1, 0, 4]⟩,
 ⟨(some 33), .load false 1 (.t 32), (some (2, 29, true)), 73776, [5, 3, 2, 1, 0, 4]⟩,
 ⟨(some 34), .copy (.t 3), (some (2, 29, true)), 73784, [2, 1, 0]⟩,
 ⟨(some 35), .copy (.t 7), (some (2, 29, true)), 73792, [2, 1, 0]⟩,
 ⟨(some 36), .iaddr 1 (.t 34) (.t 35), (some (2, 29, true)), 73800, [7, 2, 1, 0, 8]⟩,
 ⟨(some 37), .load false 1 (.t 36), (some (2, 29, true)), 73808, [9, 7, 2, 1, 0, 8]⟩,
 ⟨(some 38), .bin .leq (.t 33) (.t 37), (some (2, 29, true)), 73816, [6, 5, 3, 2, 1, 0, 4, 10, 9, 7, 8]⟩,
 ⟨(some 39), .pick (.t 29) (.t 38) (.c (.bool false)), none, 73824, [2, 1, 0, 11, 6, 5, 3, 4, 10, 9, 7, 8]⟩])
 (.cond (.t 39)
 (.seq
 (.seq
 (.region 10 true [
 ⟨(some 40), .copy (.t 0), none, 81920, []⟩,
 ⟨(some 41), .copy (.t 4), none, 81928, []⟩,
 ⟨(some 42), .iaddr 1 (.t 40) (.t 41), none, 81936, [0, 1]⟩,
 ⟨(some 43), .load false 1 (.t 42), none, 81944, [2, 0, 1]⟩,
 ⟨(some 44), .copy (.t 3), none, 81952, []⟩,
 ⟨(some 45), .copy (.t 7), none, 81960, []⟩,
 ⟨(some 46), .iaddr 1 (.t 44) (.t 45), none, 81968, [4, 5]⟩,
 ⟨(some 47), .load false 1 (.t 46), none, 81976, [6, 4, 5]⟩,
 ⟨(some 48), .bin .lss (.t 43) (.t 47), none, 81984, [3, 2, 0, 1, 7, 6, 4, 5]⟩])
 (.cond (.t 48)
 (.region 11 false [
 ⟨(some 49), .copy (.t 5), none, 90112, []⟩,
 ⟨(some 50), .copy (.t 0), none, 90120, []⟩,
 ⟨(some 51), .copy (.t 4), none, 90128, []⟩,
 ⟨(some 52), .iaddr 1 (.t 50) (.t 51), none, 90136, [1, 2]⟩,
 ⟨(some 53), .load false 1 (.t 52), none, 90144, [3, 1, 2]⟩,
 ⟨(some 54), .bslice 1 [(.str [])] 1 [(0, (.t 53))], none, 90152, [4, 3, 1, 2]⟩,
 ⟨(some 55), .append 1 16 [(.str [])] (.t 49) (.t 54), none, 90160, [0, 5, 4, 3, 1, 2]⟩,
 ⟨(some 5), .copy (.t 55), none, 90168, [6, 0, 5, 4, 3, 1, 2]⟩])
 .skip))
 (.region 12 false [
 ⟨(some 6), .copy (.c (.bool true)), none, 98304, []⟩]))
 .skip))
 (.region 13 false [
 ⟨(some 56), .copy (.t 5), none, 106496, []⟩,
 ⟨(some 57), .copy (.t 3), none, 106504, []⟩,
 ⟨(some 58), .copy (.t 7), none, 106512, []⟩,
 ⟨(some 59), .iaddr 1 (.t 57) (.t 58), none, 106520, [1, 2]⟩,
 ⟨(some 60), .load false 1 (.t 59), none, 106528, [3, 1, 2]⟩,
 ⟨(some 61), .bslice 1 [(.str [])] 1 [(0, (.t 60))], none, 106536, [4, 3, 1, 2]⟩,
 ⟨(some 62), .append 1 16 [(.str [])] (.t 56) (.t 61), none, 106544, [0, 5, 4, 3, 1, 2]⟩,
 ⟨(some 5), .copy (.t 62), none, 106552, [6, 0, 5, 4, 3, 1, 2]⟩])))
 (.region 8 false [
 ⟨(some 25), .copy (.t 7), none, 65536, []⟩,
 ⟨(some 26), .bin .add (.t 25) (.c (.int .i64 1)), none, 65544, [0]⟩,
 ⟨(some 7), .copy (.t 26), none, 65552, [1, 0]⟩]))))))
 (.seq
 (.seq
 (.region 14 false [
 ⟨(some 63), .copy (.t 6), none, 114688, []⟩,
 ⟨(some 64), .not (.t 63), none, 114696, [0]⟩])
 (.cond (.t 64)
 (.region 15 false [
 ⟨(some 65), .copy (.t 5), none, 122880, []⟩,
 ⟨(some 66), .copy (.t 0), none, 122888, []⟩,
 ⟨(some 67), .copy (.t 4), none, 122896, []⟩,
 ⟨(some 68), .iaddr 1 (.t 66) (.t 67), none, 122904, [1, 2]⟩,
 ⟨(some 69), .load false 1 (.t 68), none, 122912, [3, 1, 2]⟩,
 ⟨(some 70), .bslice 1 [(.str [])] 1 [(0, (.t 69))], none, 122920, [4, 3, 1, 2]⟩,
 ⟨(some 71), .append 1 16 [(.str [])] (.t 65) (.t 70), none, 122928, [0, 5, 4, 3, 1, 2]⟩,
 ⟨(some 5), .copy (.t 71), none, 122936, [6, 0, 5, 4, 3, 1, 2]⟩])
 .skip))
 (.region 16 false [
 ⟨(some 72), .copy (.t 5), none, 131072, []⟩,
 ⟨(some 3), .copy (.t 72), none, 131080, [0]⟩])))))
 (.region 4 false [
 ⟨(some 13), .copy (.t 4), none, 32768, []⟩,
 ⟨(some 14), .bin .add (.t 13) (.c (.int .i64 1)), none, 32776, [0]⟩,
 ⟨(some 4), .copy (.t 14), none, 32784, [1, 0]⟩]))))))
 (.seq
 (.region 17 false [
 ⟨(some 73), .copy (.t 3), none, 139264, []⟩,
 ⟨(some 2), .copy (.t 73), none, 139272, [0]⟩])
 .ret))))
theorem vf25 : VF Tryz.prog 25 = some (74, vc25, [.tmp 2]) := by kernel_rfl
/-- downspout/downspoutref02.Parts -/
def vc26 : VCode :=
 (.seq
 (.region 0 false [
 ⟨(some 2), .box (.t 0), none, 0, []⟩,
 ⟨(some 4), .copy (.c .nils), none, 8, []⟩])
 (.seq
 (.region 1 false [
 ⟨(some 8), .bslice 2 [(.str []), (.str [])] 0 [], none, 8192, []⟩,
 ⟨(some 5), .copy (.t 8), none, 8200, [0]⟩,
 ⟨(some 6), .copy (.c (.str [])), none, 8208, [1, 0]⟩])
 (.seq
 (.seq
 (.region 2 false [
 ⟨(some 7), .copy (.c (.int .i64 0)), none, 16384, []⟩])
 (.block 0
 (.loop
 (.seq
 (.seq
 (.region 3 false [
 ⟨(some 9), .copy (.t 7), none, 24576, []⟩,
 ⟨(some 10), .copy (.t 1), none, 24584, []⟩,
 ⟨(some 11), .len (.t 10), none, 24592, [1]⟩,
 ⟨(some 12), .bin .lss (.t 9) (.t 11), none, 24600, [0, 2, 1]⟩])
 (.cond (.t 12)
 .skip
 (.exit 0)))
 (.seq
 (.block 1
 (.seq
 (.region 5 true [
 ⟨(some 15), .copy (.t 5), none, 40960, []⟩,
 ⟨(some 16), .load true 2 (.t 2), none, 40968, []⟩,
 ⟨(some 17), .copy (.t 6), none, 40976, []⟩,
 ⟨(some 18), .copy (.t 1), none, 40984, []⟩,
 ⟨(some 19), .copy (.t 7), none, 40992, []⟩,
 ⟨(some 20), .iaddr 1 (.t 18) (.t 19), none, 41000, [3, 4]⟩,
 ⟨(some 21), .load false 1 (.t 20), none, 41008, [5, 3, 4]⟩,
 ⟨(some 22), .build [(.str []), (.str [])] [(0, 1, (.t 17)), (1, 1, (.t 21))], none, 41016, [2, 6, 5, 3, 4]⟩,
 ⟨(some 23), .call (.c (.fn 59 [])) [(.t 16), (.t 22)], none, 41024, [1, 7, 2, 6, 5, 3, 4]⟩,
 ⟨(some 24), .bslice 2 [(.str []), (.str [])] 1 [(0, (.t 23))], none, 41032, [8, 1, 7, 2, 6, 5, 3, 4]⟩,
 ⟨(some 25), .append 2 32 [(.str []), (.str [])] (.t 15) (.t 24), none, 41040, [0, 9, 8, 1, 7, 2, 6, 5, 3, 4]⟩,
 ⟨(some 5), .copy (.t 25), none, 41048, [10, 0, 9, 8, 1, 7, 2, 6, 5, 3, 4]⟩])
 (.region 6 false [
 ⟨(some 26), .copy (.t 1), none, 49152, []⟩,
 ⟨(some 27), .copy (.t 7), none, 49160, []⟩,
 ⟨(some 28), .iaddr 1 (.t 26) (.t 27), none, 49168, [0, 1]⟩,
 ⟨(some 29), .load false 1 (.t 28), none, 49176, [2, 0, 1]⟩,
 ⟨(some 6), .copy (.t 29), none, 49184, [3, 2, 0, 1]⟩])))
 (.region 4 false [
 ⟨(some 13), .copy (.t 7), none, 32768, []⟩,
 ⟨(some 14), .bin .add (.t 13) (.c (.int .i64 1)), none, 32776, [0]⟩,
 ⟨(some 7), .copy (.t 14), none, 32784, [1, 0]⟩]))))))
 (.seq
 (.region 7 false [
 ⟨(some 30), .copy (.t 5), none, 57344, []⟩,
 ⟨(some 31), .load true 2 (.t 2), none, 57352, []⟩,
 ⟨(some 32), .copy (.t 6), none, 57360, []⟩,
 ⟨(some 33), .build [(.str []), (.str [])] [(0, 1, (.t 32))], none, 57368, [2]⟩,
 ⟨(some 34), .call (.c (.fn 59 [])) [(.t 31), (.t 33)], none, 57376, [1, 3, 2]⟩,
 ⟨(some 35), .bslice 2 [(.str []), (.str [])] 1 [(0, (.t 34))], none, 57384, [4, 1, 3, 2]⟩,
 ⟨(some 36), .append 2 32 [(.str []), (.str [])] (.t 30) (.t 35), none, 57392, [0, 5, 4, 1, 3, 2]⟩,
 ⟨(some 4), .copy (.t 36), none, 57400, [6, 0, 5, 4, 1, 3, 2]⟩])
 .ret))))
theorem vf26 : VF Tryz.prog 26 = some (37, vc26, [.tmp 4]) := by kernel_rfl
/-- downspout/downspoutref02.Has -/
def vc27 : VCode :=
 (.seq
 (.region 0 false [
 ⟨(some 2), .box (.t 0), none, 0, []⟩,
 ⟨(some 4), .copy (.c (.bool false)), none, 8, []⟩])
 (.seq
 (.region 1 false [
 ⟨(some 5), .copy (.t 1), none, 8192, []⟩,
 ⟨(some 6), .faddr 0 (.t 2), none, 8200, []⟩,
 ⟨(some 7), .load false 1 (.t 6), none, 8208, [1]⟩,
 ⟨(some 8), .bin .geq (.t 5) (.t 7), none, 8216, [0, 2, 1]⟩,
 ⟨(some 9), .copy (.t 8), none, 8224, [3, 0, 2, 1]⟩,
 ⟨(some 10), .faddr 1 (.t 2), (some (4, 9, true)), 8232, [4, 3, 0, 2, 1]⟩,
 ⟨(some 11), .load false 1 (.t 10), (some (4, 9, true)), 8240, [5, 4, 3, 0, 2, 1]⟩,
 ⟨(some 12), .bin .eql (.t 11) (.c (.str [])), (some (4, 9, true)), 8248, [6, 5, 4, 3, 0, 2, 1]⟩,
 ⟨(some 13), .copy (.t 12), (some (4, 9, true)), 8256, [7, 6, 5, 4, 3, 0, 2, 1]⟩,
 ⟨(some 14), .copy (.t 1), (some (8, 13, false)), 8264, [8, 7, 6, 5, 4, 3, 0, 2, 1]⟩,
 ⟨(some 15), .faddr 1 (.t 2), (some (8, 13, false)), 8272, [8, 7, 6, 5, 4, 3, 0, 2, 1]⟩,
 ⟨(some 16), .load false 1 (.t 15), (some (8, 13, false)), 8280, [10, 8, 7, 6, 5, 4, 3, 0, 2, 1]⟩,
 ⟨(some 17), .bin .lss (.t 14) (.t 16), (some (8, 13, false)), 8288, [9, 8, 7, 6, 5, 4, 3, 0, 2, 1, 11, 10]⟩,
 ⟨(some 18), .pick (.t 13) (.c (.bool true)) (.t 17), (some (4, 9, true)), 8296, [8, 7, 6, 5, 4, 3, 0, 2, 1, 12, 9, 11, 10]⟩,
 ⟨(some 19), .pick (.t 9) (.t 18) (.c (.bool false)), none, 8304, [4, 3, 0, 2, 1, 13, 8, 7, 6, 5, 12, 9, 11, 10]⟩,
 ⟨(some 4), .copy (.t 19), none, 8312, [14, 4, 3, 0, 2, 1, 13, 8, 7, 6, 5, 12, 9, 11, 10]⟩])
 .ret))
theorem vf27 : VF Tryz.prog 27 = some (20, vc27, [.tmp 4]) := by kernel_rfl
/-- downspout/downspoutref02.Meet -/
def vc59 : VCode :=
 (.seq
 (.region 0 false [
 ⟨(some 2), .box (.t 0), none, 0, []⟩,
 ⟨(some 3), .box (.t 1), none, 8, []⟩,
 ⟨(some 4), .alloc [(.str []), (.str [])], none, 16, []⟩])
 (.seq
 (.region 1 false [
 ⟨(some 6), .faddr 0 (.t 2), none, 8192, []⟩,
 ⟨(some 7), .load false 1 (.t 6), none, 8200, [0]⟩,
 ⟨(some 8), .faddr 0 (.t 3), none, 8208, []⟩,
 ⟨(some 9), .load false 1 (.t 8), none, 8216, [2]⟩,
 ⟨(some 10), .minmax true (.t 7) (.t 9), none, 8224, [1, 0, 3, 2]⟩,
 ⟨(some 11), .faddr 1 (.t 2), none, 8232, []⟩,
 ⟨(some 12), .load false 1 (.t 11), none, 8240, [5]⟩,
 ⟨(some 13), .build [(.str []), (.str [])] [(0, 1, (.t 10)), (1, 1, (.t 12))], none, 8248, [4, 1, 0, 3, 2, 6, 5]⟩,
 ⟨(some 5), .alloc [(.str []), (.str [])], none, 8256, []⟩,
 ⟨none, .store 2 (.t 5) (.t 13), none, 8264, [8, 7, 4, 1, 0, 3, 2, 6, 5]⟩])
 (.seq
 (.seq
 (.region 2 false [
 ⟨(some 14), .faddr 1 (.t 3), none, 16384, []⟩,
 ⟨(some 15), .load false 1 (.t 14), none, 16392, [0]⟩,
 ⟨(some 16), .faddr 1 (.t 2), none, 16400, []⟩,
 ⟨(some 17), .load false 1 (.t 16), none, 16408, [2]⟩,
 ⟨(some 18), .call (.c (.fn 84 [])) [(.t 15), (.t 17)], none, 16416, [1, 0, 3, 2]⟩])
 (.cond (.t 18)
 (.region 3 false [
 ⟨(some 19), .faddr 1 (.t 3), none, 24576, []⟩,
 ⟨(some 20), .load false 1 (.t 19), none, 24584, [0]⟩,
 ⟨(some 21), .faddr 1 (.t 5), none, 24592, [0, 1]⟩,
 ⟨none, .store 1 (.t 21) (.t 20), none, 24600, [2, 0, 1]⟩])
 .skip))
 (.seq
 (.seq
 (.region 4 false [
 ⟨(some 22), .load true 2 (.t 5), none, 32768, []⟩,
 ⟨(some 23), .call (.c (.fn 66 [])) [(.t 22)], none, 32776, [0]⟩])
 (.cond (.t 23)
 (.seq
 (.region 5 false [
 ⟨(some 24), .call (.c (.fn 85 [])) [], none, 40960, []⟩,
 ⟨none, .store 2 (.t 4) (.t 24), none, 40968, [0]⟩])
 .ret)
 .skip))
 (.seq
 (.region 6 false [
 ⟨(some 25), .load true 2 (.t 5), none, 49152, []⟩,
 ⟨none, .store 2 (.t 4) (.t 25), none, 49160, [0]⟩])
 .ret)))))
theorem vf59 : VF Tryz.prog 59 = some (26, vc59, [.cell true 2 4]) := by kernel_rfl
/-- downspout/downspoutref02.Empty -/
def vc66 : VCode :=
 (.seq
 (.region 0 false [
 ⟨(some 1), .box (.t 0), none, 0, []⟩,
 ⟨(some 2), .copy (.c (.bool false)), none, 8, []⟩])
 (.seq
 (.region 1 false [
 ⟨(some 3), .faddr 1 (.t 1), none, 8192, []⟩,
 ⟨(some 4), .load false 1 (.t 3), none, 8200, [0]⟩,
 ⟨(some 5), .bin .neq (.t 4) (.c (.str [])), none, 8208, [1, 0]⟩,
 ⟨(some 6), .copy (.t 5), none, 8216, [2, 1, 0]⟩,
 ⟨(some 7), .faddr 1 (.t 1), (some (3, 6, true)), 8224, [3, 2, 1, 0]⟩,
 ⟨(some 8), .load false 1 (.t 7), (some (3, 6, true)), 8232, [4, 3, 2, 1, 0]⟩,
 ⟨(some 9), .faddr 0 (.t 1), (some (3, 6, true)), 8240, [3, 2, 1, 0]⟩,
 ⟨(some 10), .load false 1 (.t 9), (some (3, 6, true)), 8248, [6, 3, 2, 1, 0]⟩,
 ⟨(some 11), .bin .leq (.t 8) (.t 10), (some (3, 6, true)), 8256, [5, 4, 3, 2, 1, 0, 7, 6]⟩,
 ⟨(some 12), .pick (.t 6) (.t 11) (.c (.bool false)), none, 8264, [3, 2, 1, 0, 8, 5, 4, 7, 6]⟩,
 ⟨(some 2), .copy (.t 12), none, 8272, [9, 3, 2, 1, 0, 8, 5, 4, 7, 6]⟩])
 .ret))
theorem vf66 : VF Tryz.prog 66 = some (13, vc66, [.tmp 2]) := by kernel_rfl
/-- downspout/downspoutref02.Less -/
def vc84 : VCode :=
 (.seq
 (.region 0 false [
 ⟨(some 4), .copy (.c (.bool false)), none, 0, []⟩])
 (.seq
 (.region 1 false [
 ⟨(some 5), .copy (.t 0), none, 8192, []⟩,
 ⟨(some 6), .bin .neq (.t 5) (.c (.str [])), none, 8200, [0]⟩,
 ⟨(some 7), .copy (.t 6), none, 8208, [1, 0]⟩,
 ⟨(some 8), .copy (.t 1), (some (2, 7, true)), 8216, [2, 1, 0]⟩,
 ⟨(some 9), .bin .eql (.t 8) (.c (.str [])), (some (2, 7, true)), 8224, [3, 2, 1, 0]⟩,
 ⟨(some 10), .copy (.t 9), (some (2, 7, true)), 8232, [4, 3, 2, 1, 0]⟩,
 ⟨(some 11), .copy (.t 0), (some (5, 10, false)), 8240, [5, 4, 3, 2, 1, 0]⟩,
 ⟨(some 12), .copy (.t 1), (some (5, 10, false)), 8248, [5, 4, 3, 2, 1, 0]⟩,
 ⟨(some 13), .bin .lss (.t 11) (.t 12), (some (5, 10, false)), 8256, [6, 5, 4, 3, 2, 1, 0, 7]⟩,
 ⟨(some 14), .pick (.t 10) (.c (.bool true)) (.t 13), (some (2, 7, true)), 8264, [5, 4, 3, 2, 1, 0, 8, 6, 7]⟩,
 ⟨(some 15), .pick (.t 7) (.t 14) (.c (.bool false)), none, 8272, [2, 1, 0, 9, 5, 4, 3, 8, 6, 7]⟩,
 ⟨(some 4), .copy (.t 15), none, 8280, [10, 2, 1, 0, 9, 5, 4, 3, 8, 6, 7]⟩])
 .ret))
theorem vf84 : VF Tryz.prog 84 = some (16, vc84, [.tmp 4]) := by kernel_rfl
/-- downspout/downspoutref02.None -/
def vc85 : VCode :=
 (.seq
 (.region 0 false [
 ⟨(some 0), .alloc [(.str []), (.str [])], none, 0, []⟩])
 (.seq
 (.region 1 false [
 ⟨(some 1), .build [(.str []), (.str [])] [(0, 1, (.c (.str [97]))), (1, 1, (.c (.str [97])))], none, 8192, []⟩,
 ⟨none, .store 2 (.t 0) (.t 1), none, 8200, [0]⟩])
 .ret))
theorem vf85 : VF Tryz.prog 85 = some (2, vc85, [.cell true 2 0]) := by kernel_rfl
abbrev encS (s : SpanL) : List PV := [.str s.lo, .str s.hi]
theorem rhas_vc (s : SpanL) (k : Str) : VC Tryz.prog 27 [.agg (encS s), .str k] [] (.bool (hasL s k)) [] := by
  refine vc_of vf27 ?_ (Nat.le_of_ble_eq_true rfl) (by intro vs h; cases h)
  repeat' first | refine o_copy ?_ | refine nl ?_ | refine ct_seq ?_ | refine rg ?_ | refine ct_block ?_ | refine bq ?_ | refine ct_skip ?_ | refine ct_exit ?_ | refine rt_next ?_ | refine cndt ?_ | refine cndf ?_ | refine o_copy ?_ | refine o_loads ?_ | refine o_loadp ?_ | refine o_faddr ?_ | refine o_bin ?_ | refine o_box ?_ | refine o_pickt ?_ | refine o_pickf ?_ | refine skF ?_ | refine skU ?_ | refine ct_ret ⟨.inr rfl, ?_⟩ | refine cnd (fun _ => ?_) (fun _ => ?_) | (refine glook (fun _ => ?_) (fun _ => ?_) <;> first | refine o_copy ?_ | refine o_loads ?_ | refine o_loadp ?_ | refine o_faddr ?_ | refine o_bin ?_ | refine o_box ?_ | refine o_pickt ?_ | refine o_pickf ?_ | refine skF ?_ | refine skU ?_)
  all_goals refine oB ?_
  all_goals simp_all [hasL]
theorem rempty_vc (s : SpanL) : VC Tryz.prog 66 [.agg (encS s)] [] (.bool (emptyL s)) [] := by
  refine vc_of vf66 ?_ (Nat.le_of_ble_eq_true rfl) (by intro vs h; cases h)
  repeat' first | refine o_copy ?_ | refine nl ?_ | refine ct_seq ?_ | refine rg ?_ | refine ct_block ?_ | refine bq ?_ | refine ct_skip ?_ | refine ct_exit ?_ | refine rt_next ?_ | refine cndt ?_ | refine cndf ?_ | refine o_copy ?_ | refine o_loads ?_ | refine o_loadp ?_ | refine o_faddr ?_ | refine o_bin ?_ | refine o_box ?_ | refine o_pickt ?_ | refine o_pickf ?_ | refine skF ?_ | refine skU ?_ | refine ct_ret ⟨.inr rfl, ?_⟩ | refine cnd (fun _ => ?_) (fun _ => ?_) | (refine glook (fun _ => ?_) (fun _ => ?_) <;> first | refine o_copy ?_ | refine o_loads ?_ | refine o_loadp ?_ | refine o_faddr ?_ | refine o_bin ?_ | refine o_box ?_ | refine o_pickt ?_ | refine o_pickf ?_ | refine skF ?_ | refine skU ?_)
  all_goals refine oB ?_
  all_goals simp_all [emptyL]
theorem none_vc : VC Tryz.prog 85 [] [] (.agg (encS noneL)) [] := by
  refine vc_of vf85 ?_ (Nat.le_of_ble_eq_true rfl) (by intro vs h; cases h)
  repeat' first | refine o_copy ?_ | refine nl ?_ | refine ct_seq ?_ | refine rg ?_ | refine ct_block ?_ | refine bq ?_ | refine ct_skip ?_ | refine ct_exit ?_ | refine rt_next ?_ | refine cndt ?_ | refine cndf ?_ | refine o_copy ?_ | refine o_alloc ?_ | refine o_store ?_ | refine o_build ?_ | refine ct_ret ⟨.inr rfl, ?_⟩ | refine cnd (fun _ => ?_) (fun _ => ?_) | (refine glook (fun _ => ?_) (fun _ => ?_) <;> first | refine o_copy ?_ | refine o_alloc ?_ | refine o_store ?_ | refine o_build ?_)
  all_goals exact oAny rfl
theorem less_vc (a b : Str) : VC Tryz.prog 84 [.str a, .str b] [] (.bool (lessL a b)) [] := by
  refine vc_of vf84 ?_ (Nat.le_of_ble_eq_true rfl) (by intro vs h; cases h)
  repeat' first | refine o_copy ?_ | refine nl ?_ | refine ct_seq ?_ | refine rg ?_ | refine ct_block ?_ | refine bq ?_ | refine ct_skip ?_ | refine ct_exit ?_ | refine rt_next ?_ | refine cndt ?_ | refine cndf ?_ | refine o_copy ?_ | refine o_bin ?_ | refine o_pickt ?_ | refine o_pickf ?_ | refine skF ?_ | refine skU ?_ | refine ct_ret ⟨.inr rfl, ?_⟩ | refine cnd (fun _ => ?_) (fun _ => ?_) | (refine glook (fun _ => ?_) (fun _ => ?_) <;> first | refine o_copy ?_ | refine o_bin ?_ | refine o_pickt ?_ | refine o_pickf ?_ | refine skF ?_ | refine skU ?_)
  all_goals refine oB ?_
  all_goals simp_all [lessL]
  all_goals (cases a <;> cases b <;> simp_all)
theorem rmeet_vc (a b : SpanL) : VC Tryz.prog 59 [.agg (encS a), .agg (encS b)] [] (.agg (encS (rmeetL a b))) [] := by
  refine vc_of vf59 ?_ (Nat.le_of_ble_eq_true rfl) (by intro vs h; cases h)
  repeat' first | refine o_copy ?_ | refine nl ?_ | refine ct_seq ?_ | refine rg ?_ | refine ct_block ?_ | refine bq ?_ | refine ct_skip ?_ | refine ct_exit ?_ | refine rt_next ?_ | refine cndt ?_ | refine cndf ?_ | refine cv0 (less_vc b.hi a.hi) ?_ | refine cv0 (rempty_vc ⟨maxL a.lo b.lo, a.hi⟩) ?_ | refine cv0 (rempty_vc ⟨maxL a.lo b.lo, b.hi⟩) ?_ | refine cv0 none_vc ?_ | refine o_copy ?_ | refine o_loads ?_ | refine o_loadp ?_ | refine o_faddr ?_ | refine o_loadsA ?_ | refine o_loadpA ?_ | refine o_box ?_ | refine o_alloc ?_ | refine o_store ?_ | refine o_build ?_ | refine o_minmax ?_ | refine ct_ret ⟨.inr rfl, ?_⟩ | refine cnd (fun _ => ?_) (fun _ => ?_) | (refine glook (fun _ => ?_) (fun _ => ?_) <;> first | refine cv0 (less_vc b.hi a.hi) ?_ | refine cv0 (rempty_vc ⟨maxL a.lo b.lo, a.hi⟩) ?_ | refine cv0 (rempty_vc ⟨maxL a.lo b.lo, b.hi⟩) ?_ | refine cv0 none_vc ?_ | refine o_copy ?_ | refine o_loads ?_ | refine o_loadp ?_ | refine o_faddr ?_ | refine o_loadsA ?_ | refine o_loadpA ?_ | refine o_box ?_ | refine o_alloc ?_ | refine o_store ?_ | refine o_build ?_ | refine o_minmax ?_)
  all_goals refine oC ?_
  all_goals simp_all [rmeetL, noneL]
  all_goals rfl
abbrev encT (s : Str) : List PV := [.str s]
def partsL (s : SpanL) : Str → List Str → List SpanL
  | lo, [] => [meetL s ⟨lo, []⟩]
  | lo, p :: l => meetL s ⟨lo, p⟩ :: partsL s p l
theorem partsL_len (s : SpanL) : ∀ (lo : Str) (l : List Str), (partsL s lo l).length = l.length + 1
  | _, [] => rfl
  | _, p :: l => by rw [partsL, List.length_cons, partsL_len s p l, List.length_cons]
theorem rparts_vc {q : PV} (s : SpanL) {l : List Str} (hq : Sl q (l.map encT)) (hl : l.length ≤ 1000000) : VC Tryz.prog 26 [.agg (encS s), q] [] (ownV ⟨0, 0⟩ ((partsL s [] l).map encS)) [blkV 2 ((partsL s [] l).map encS)] := by
  refine vc_of vf26 ?_ (Nat.le_of_ble_eq_true rfl) (by intro vs h; cases h)
  have hm : ∀ b, VC Tryz.prog 59 [.agg (encS s), .agg (encS b)] [] (.agg (encS (meetL s b))) [] := fun b => by rw [meet_ref]; exact rmeet_vc s b
  repeat first | refine o_copy ?_ | refine nl ?_ | refine ct_seq ?_ | refine rg ?_ | refine ct_block ?_ | refine bq ?_ | refine o_loads ?_ | refine o_loadp ?_ | refine o_iaddr ?_ | refine o_iaddrO ?_ | refine o_iaddrR ?_ | refine o_add ?_ | refine o_cat ?_ | refine o_bin ?_ | refine o_lenq ?_ | refine o_len ?_ | refine o_loadsA ?_ | refine o_loadpA ?_ | refine o_box ?_ | refine o_bslice ?_ | refine o_build ?_
  refine ct_loopG (fun (g : Nat × Str × List SpanL) => [(1, q), (2, .ptr ⟨1, 0⟩ 1 0 0), (5, ownV ⟨1, 8192⟩ (g.2.2.map encS)), (6, .str g.2.1), (7, .int .i64 g.1)])
    (fun g => [(⟨1, 0⟩, ⟨true, false, 2, [encS s]⟩), (⟨1, 8192⟩, blkV 2 (g.2.2.map encS))]) (fun g => l.length - g.1)
    (fun g => g.1 ≤ l.length ∧ g.2.2.length = g.1 ∧ g.2.2 ++ partsL s g.2.1 (l.drop g.1) = partsL s [] l) (0, [], []) goes ⟨Nat.zero_le _, rfl, rfl⟩ ?_
  rintro ⟨i, lo, out⟩ ⟨hi, ho, hv⟩
  dsimp only at hi ho hv ⊢
  repeat first | refine o_copy ?_ | refine nl ?_ | refine ct_seq ?_ | refine rg ?_ | refine ct_block ?_ | refine bq ?_ | refine o_loads ?_ | refine o_loadp ?_ | refine o_iaddr ?_ | refine o_iaddrO ?_ | refine o_iaddrR ?_ | refine o_add ?_ | refine o_cat ?_ | refine o_bin ?_ | refine o_lenq ?_ | refine o_len ?_ | refine o_loadsA ?_ | refine o_loadpA ?_ | refine o_box ?_ | refine o_bslice ?_ | refine o_build ?_
  refine cnd (fun h => ct_skip ?_) (fun h => ct_exit ?_)
  · have hlt : i < l.length := by have h' := of_decide_eq_true h; simp only [List.length_map] at h'; omega
    obtain ⟨x, hx⟩ : ∃ x, l[i]? = some x := ⟨_, List.getElem?_eq_getElem hlt⟩
    have hxe := gm (enc := encT) (n := (i : Int)) hx (by omega)
    rw [drop_get hx, partsL] at hv
    repeat first | refine o_copy ?_ | refine nl ?_ | refine ct_seq ?_ | refine rg ?_ | refine ct_block ?_ | refine bq ?_ | refine cv0 (hm ⟨lo, x⟩) ?_ | refine o_v (vap encS (meetL s ⟨lo, x⟩)) ?_ | refine o_loads ?_ | refine o_loadp ?_ | refine o_iaddr ?_ | refine o_iaddrO ?_ | refine o_iaddrR ?_ | refine o_add ?_ | refine o_cat ?_ | refine o_bin ?_ | refine o_lenq ?_ | refine o_len ?_ | refine o_loadsA ?_ | refine o_loadpA ?_ | refine o_box ?_ | refine o_bslice ?_ | refine o_build ?_
    refine agn (i + 1, x, out ++ [meetL s ⟨lo, x⟩]) ⟨by simp only; omega, by simp [ho], ?_⟩ goes
    rw [← hv]; simp
  · have hge : i = l.length := by have h' := of_decide_eq_false h; simp only [List.length_map] at h'; omega
    subst hge
    rw [List.drop_length, partsL] at hv
    repeat first | refine o_copy ?_ | refine nl ?_ | refine ct_seq ?_ | refine rg ?_ | refine ct_block ?_ | refine bq ?_ | refine cv0 (hm ⟨lo, []⟩) ?_ | refine o_v (vap encS (meetL s ⟨lo, []⟩)) ?_ | refine o_loads ?_ | refine o_loadp ?_ | refine o_iaddr ?_ | refine o_iaddrO ?_ | refine o_iaddrR ?_ | refine o_add ?_ | refine o_cat ?_ | refine o_bin ?_ | refine o_lenq ?_ | refine o_len ?_ | refine o_loadsA ?_ | refine o_loadpA ?_ | refine o_box ?_ | refine o_bslice ?_ | refine o_build ?_
    exact ct_ret ⟨.inr rfl, oOwn (congrArg (List.map encS) hv)⟩
/-- A pivot put in its place. -/
def pivInner (x : Str) : List Str → List Str → Bool → List Str × Bool
  | [], nx, d => (nx, d)
  | y :: l, nx, d =>
    if d = false ∧ (Op.bytesLess x y || x == y) = true then pivInner x l ((if Op.bytesLess x y = true then nx ++ [x] else nx) ++ [y]) true
    else pivInner x l (nx ++ [y]) d
def pivStep (out : List Str) (x : Str) : List Str :=
  let r := pivInner x out [] (x == [])
  if r.2 = false then r.1 ++ [x] else r.1
def pivL (l : List Str) : List Str := l.foldl pivStep []
theorem pivInner_len (x : Str) : ∀ (l nx : List Str) (d : Bool), (pivInner x l nx d).1.length ≤ nx.length + l.length + (if d = true then 0 else if (pivInner x l nx d).2 = true then 1 else 0)
  | [], nx, d => by simp [pivInner]
  | y :: l, nx, d => by
    unfold pivInner
    split
    · rename_i h
      have := pivInner_len x l ((if Op.bytesLess x y = true then nx ++ [x] else nx) ++ [y]) true
      have h2 : (pivInner x l ((if Op.bytesLess x y = true then nx ++ [x] else nx) ++ [y]) true).2 = true := by
        have key : ∀ (l nx : List Str), (pivInner x l nx true).2 = true := by
          intro l
          induction l with
          | nil => intro nx; rfl
          | cons z l ih => intro nx; unfold pivInner; rw [if_neg (by simp)]; exact ih _
        exact key _ _
      rw [h2, h.1]
      simp only [if_true, List.length_append, List.length_cons, List.length_nil] at this ⊢
      split at this <;> simp_all <;> omega
    · have := pivInner_len x l (nx ++ [y]) d
      simp only [List.length_append, List.length_cons, List.length_nil] at this ⊢
      omega
theorem pivStep_len (out : List Str) (x : Str) : (pivStep out x).length ≤ out.length + 1 := by
  have := pivInner_len x out [] (x == [])
  unfold pivStep
  generalize (x == []) = d0 at this
  generalize pivInner x out [] d0 = r at this
  obtain ⟨r1, r2⟩ := r
  simp only [List.length_nil] at this ⊢
  cases r2 <;> cases d0 <;> simp at this ⊢ <;> omega
theorem pivots_vc {q : PV} {l : List Str} (hq : Sl q (l.map encT)) (hl : l.length ≤ 1000000) : VC Tryz.prog 25 [q] [] (ownV ⟨0, 0⟩ ((pivL l).map encT)) [blkV 1 ((pivL l).map encT)] := by
  refine vc_of vf25 ?_ (Nat.le_of_ble_eq_true rfl) (by intro vs h; cases h)
  repeat first | refine o_copy ?_ | refine nl ?_ | refine ct_seq ?_ | refine rg ?_ | refine ct_block ?_ | refine bq ?_ | refine o_loads ?_ | refine o_loadp ?_ | refine o_iaddr ?_ | refine o_iaddrO ?_ | refine o_iaddrR ?_ | refine o_add ?_ | refine o_cat ?_ | refine o_bin ?_ | refine o_lenq ?_ | refine o_len ?_ | refine o_bslice ?_ | refine o_not ?_ | refine o_pickt ?_ | refine o_pickf ?_ | refine skF ?_ | refine skU ?_
  refine ct_loopG (fun (g : Nat × List Str) => [(0, q), (3, ownV ⟨1, 8192⟩ (g.2.map encT)), (4, .int .i64 g.1)]) (fun g => [(⟨1, 8192⟩, blkV 1 (g.2.map encT))]) (fun g => l.length - g.1)
    (fun g => g.1 ≤ l.length ∧ g.2.length ≤ g.1 ∧ (l.drop g.1).foldl pivStep g.2 = pivL l) (0, []) goes ⟨Nat.zero_le _, Nat.le_refl _, rfl⟩ ?_
  rintro ⟨i, out⟩ ⟨hi, ho, hv⟩
  dsimp only at hi ho hv ⊢
  repeat first | refine o_copy ?_ | refine nl ?_ | refine ct_seq ?_ | refine rg ?_ | refine ct_block ?_ | refine bq ?_ | refine o_loads ?_ | refine o_loadp ?_ | refine o_iaddr ?_ | refine o_iaddrO ?_ | refine o_iaddrR ?_ | refine o_add ?_ | refine o_cat ?_ | refine o_bin ?_ | refine o_lenq ?_ | refine o_len ?_ | refine o_bslice ?_ | refine o_not ?_ | refine o_pickt ?_ | refine o_pickf ?_ | refine skF ?_ | refine skU ?_
  refine cnd (fun h => ct_skip ?_) (fun h => ct_exit ?_)
  · have hlt : i < l.length := by have h' := of_decide_eq_true h; simp only [List.length_map] at h'; omega
    obtain ⟨x, hx⟩ : ∃ x, l[i]? = some x := ⟨_, List.getElem?_eq_getElem hlt⟩
    have hxe := gm (enc := encT) (n := (i : Int)) hx (by omega)
    rw [drop_get hx, List.foldl_cons] at hv
    have hps := pivStep_len out x
    repeat first | refine o_copy ?_ | refine nl ?_ | refine ct_seq ?_ | refine rg ?_ | refine ct_block ?_ | refine bq ?_ | refine o_loads ?_ | refine o_loadp ?_ | refine o_iaddr ?_ | refine o_iaddrO ?_ | refine o_iaddrR ?_ | refine o_add ?_ | refine o_cat ?_ | refine o_bin ?_ | refine o_lenq ?_ | refine o_len ?_ | refine o_bslice ?_ | refine o_not ?_ | refine o_pickt ?_ | refine o_pickf ?_ | refine skF ?_ | refine skU ?_
    refine ct_loopG (fun (g : Nat × List Str × Bool) => [(0, q), (3, ownV ⟨1, 8192⟩ (out.map encT)), (4, .int .i64 i), (5, ownV ⟨1, 40960⟩ (g.2.1.map encT)), (6, .bool g.2.2), (7, .int .i64 g.1)])
      (fun g => [(⟨1, 8192⟩, blkV 1 (out.map encT)), (⟨1, 40960⟩, blkV 1 (g.2.1.map encT))]) (fun g => out.length - g.1)
      (fun g => g.1 ≤ out.length ∧ g.2.1.length ≤ 2 * g.1 ∧ pivInner x (out.drop g.1) g.2.1 g.2.2 = pivInner x out [] (x == [])) (0, [], x == []) goes ⟨Nat.zero_le _, Nat.le_refl _, rfl⟩ ?_
    rintro ⟨k, nx, d⟩ ⟨hk, hn, hw⟩
    dsimp only at hk hn hw ⊢
    repeat first | refine o_copy ?_ | refine nl ?_ | refine ct_seq ?_ | refine rg ?_ | refine ct_block ?_ | refine bq ?_ | refine o_loads ?_ | refine o_loadp ?_ | refine o_iaddr ?_ | refine o_iaddrO ?_ | refine o_iaddrR ?_ | refine o_add ?_ | refine o_cat ?_ | refine o_bin ?_ | refine o_lenq ?_ | refine o_len ?_ | refine o_bslice ?_ | refine o_not ?_ | refine o_pickt ?_ | refine o_pickf ?_ | refine skF ?_ | refine skU ?_
    refine cnd (fun h2 => ct_skip ?_) (fun h2 => ct_exit ?_)
    · have hlt2 : k < out.length := by have h' := of_decide_eq_true h2; simp only [List.length_map] at h'; omega
      obtain ⟨y, hy⟩ : ∃ y, out[k]? = some y := ⟨_, List.getElem?_eq_getElem hlt2⟩
      have hye := gm (enc := encT) (n := (k : Int)) hy (by omega)
      have hye2 : (blkV 1 (out.map encT)).els[0 + (k : Int).toNat]? = some (encT y) := by rw [Nat.zero_add]; exact hye
      rw [drop_get hy, pivInner] at hw
      cases d with
      | true =>
        repeat first | refine o_copy ?_ | refine nl ?_ | refine ct_seq ?_ | refine rg ?_ | refine ct_block ?_ | refine bq ?_ | refine o_loads ?_ | refine o_loadp ?_ | refine o_iaddr ?_ | refine o_iaddrO ?_ | refine o_iaddrR ?_ | refine o_add ?_ | refine o_cat ?_ | refine o_bin ?_ | refine o_lenq ?_ | refine o_len ?_ | refine o_bslice ?_ | refine o_not ?_ | refine o_pickt ?_ | refine o_pickf ?_ | refine skF ?_ | refine skU ?_
        refine cndf (ct_skip ?_)
        repeat first | refine o_copy ?_ | refine nl ?_ | refine ct_seq ?_ | refine rg ?_ | refine ct_block ?_ | refine bq ?_ | refine o_iaddrG ?_ | refine o_v (vap encT y) ?_ | refine o_loads ?_ | refine o_loadp ?_ | refine o_iaddr ?_ | refine o_iaddrO ?_ | refine o_iaddrR ?_ | refine o_add ?_ | refine o_cat ?_ | refine o_bin ?_ | refine o_lenq ?_ | refine o_len ?_ | refine o_bslice ?_ | refine o_not ?_ | refine o_pickt ?_ | refine o_pickf ?_ | refine skF ?_ | refine skU ?_
        refine agn (k + 1, nx ++ [y], true) ⟨by simp only; omega, by simp only [List.length_append, List.length_cons, List.length_nil]; omega, ?_⟩ goes
        rw [if_neg (by simp)] at hw
        exact hw
      | false =>
        repeat first | refine o_copy ?_ | refine nl ?_ | refine ct_seq ?_ | refine rg ?_ | refine ct_block ?_ | refine bq ?_ | refine o_iaddrG ?_ | refine o_loads ?_ | refine o_loadp ?_ | refine o_iaddr ?_ | refine o_iaddrO ?_ | refine o_iaddrR ?_ | refine o_add ?_ | refine o_cat ?_ | refine o_bin ?_ | refine o_lenq ?_ | refine o_len ?_ | refine o_bslice ?_ | refine o_not ?_ | refine o_pickt ?_ | refine o_pickf ?_ | refine skF ?_ | refine skU ?_
        refine cnd (fun h3 => ?_) (fun h3 => ct_skip ?_)
        · repeat first | refine o_copy ?_ | refine nl ?_ | refine ct_seq ?_ | refine rg ?_ | refine ct_block ?_ | refine bq ?_ | refine o_iaddrG ?_ | refine o_loads ?_ | refine o_loadp ?_ | refine o_iaddr ?_ | refine o_iaddrO ?_ | refine o_iaddrR ?_ | refine o_add ?_ | refine o_cat ?_ | refine o_bin ?_ | refine o_lenq ?_ | refine o_len ?_ | refine o_bslice ?_ | refine o_not ?_ | refine o_pickt ?_ | refine o_pickf ?_ | refine skF ?_ | refine skU ?_
          refine cnd (fun h4 => ?_) (fun h4 => ct_skip ?_)
          · repeat first | refine o_copy ?_ | refine nl ?_ | refine ct_seq ?_ | refine rg ?_ | refine ct_block ?_ | refine bq ?_ | refine o_iaddrG ?_ | refine o_v (vap encT x) ?_ | refine o_v (vap encT y) ?_ | refine o_loads ?_ | refine o_loadp ?_ | refine o_iaddr ?_ | refine o_iaddrO ?_ | refine o_iaddrR ?_ | refine o_add ?_ | refine o_cat ?_ | refine o_bin ?_ | refine o_lenq ?_ | refine o_len ?_ | refine o_bslice ?_ | refine o_not ?_ | refine o_pickt ?_ | refine o_pickf ?_ | refine skF ?_ | refine skU ?_
            refine agn (k + 1, nx ++ [x] ++ [y], true) ⟨by simp only; omega, by simp only [List.length_append, List.length_cons, List.length_nil]; omega, ?_⟩ goes
            rw [if_pos ⟨rfl, h3⟩, if_pos h4] at hw
            exact hw
          · repeat first | refine o_copy ?_ | refine nl ?_ | refine ct_seq ?_ | refine rg ?_ | refine ct_block ?_ | refine bq ?_ | refine o_iaddrG ?_ | refine o_v (vap encT y) ?_ | refine o_loads ?_ | refine o_loadp ?_ | refine o_iaddr ?_ | refine o_iaddrO ?_ | refine o_iaddrR ?_ | refine o_add ?_ | refine o_cat ?_ | refine o_bin ?_ | refine o_lenq ?_ | refine o_len ?_ | refine o_bslice ?_ | refine o_not ?_ | refine o_pickt ?_ | refine o_pickf ?_ | refine skF ?_ | refine skU ?_
            refine agn (k + 1, nx ++ [y], true) ⟨by simp only; omega, by simp only [List.length_append, List.length_cons, List.length_nil]; omega, ?_⟩ goes
            rw [if_pos ⟨rfl, h3⟩, if_neg (by simp [h4])] at hw
            exact hw
        · repeat first | refine o_copy ?_ | refine nl ?_ | refine ct_seq ?_ | refine rg ?_ | refine ct_block ?_ | refine bq ?_ | refine o_iaddrG ?_ | refine o_v (vap encT y) ?_ | refine o_loads ?_ | refine o_loadp ?_ | refine o_iaddr ?_ | refine o_iaddrO ?_ | refine o_iaddrR ?_ | refine o_add ?_ | refine o_cat ?_ | refine o_bin ?_ | refine o_lenq ?_ | refine o_len ?_ | refine o_bslice ?_ | refine o_not ?_ | refine o_pickt ?_ | refine o_pickf ?_ | refine skF ?_ | refine skU ?_
          refine agn (k + 1, nx ++ [y], false) ⟨by simp only; omega, by simp only [List.length_append, List.length_cons, List.length_nil]; omega, ?_⟩ goes
          rw [if_neg (by simp [h3])] at hw
          exact hw
    · have hge : k = out.length := by have h' := of_decide_eq_false h2; simp only [List.length_map] at h'; omega
      subst hge
      rw [List.drop_length, pivInner] at hw
      repeat first | refine o_copy ?_ | refine nl ?_ | refine ct_seq ?_ | refine rg ?_ | refine ct_block ?_ | refine bq ?_ | refine o_loads ?_ | refine o_loadp ?_ | refine o_iaddr ?_ | refine o_iaddrO ?_ | refine o_iaddrR ?_ | refine o_add ?_ | refine o_cat ?_ | refine o_bin ?_ | refine o_lenq ?_ | refine o_len ?_ | refine o_bslice ?_ | refine o_not ?_ | refine o_pickt ?_ | refine o_pickf ?_ | refine skF ?_ | refine skU ?_
      refine cnd (fun h3 => ?_) (fun h3 => ct_skip ?_)
      · have hd : d = false := by simpa using h3
        subst hd
        have hstep : pivStep out x = nx ++ [x] := by unfold pivStep; simp only [← hw, if_true]
        rw [hstep] at hv hps
        repeat first | refine o_copy ?_ | refine nl ?_ | refine ct_seq ?_ | refine rg ?_ | refine ct_block ?_ | refine bq ?_ | refine o_v (vap encT x) ?_ | refine o_loads ?_ | refine o_loadp ?_ | refine o_iaddr ?_ | refine o_iaddrO ?_ | refine o_iaddrR ?_ | refine o_add ?_ | refine o_cat ?_ | refine o_bin ?_ | refine o_lenq ?_ | refine o_len ?_ | refine o_bslice ?_ | refine o_not ?_ | refine o_pickt ?_ | refine o_pickf ?_ | refine skF ?_ | refine skU ?_
        exact agn (i + 1, nx ++ [x]) ⟨by simp only; omega, by simp only; omega, hv⟩ (goesR ⟨1, 40960⟩ ⟨1, 8192⟩)
      · have hd : d = true := by simpa using h3
        subst hd
        have hstep : pivStep out x = nx := by unfold pivStep; simp only [← hw]; rfl
        rw [hstep] at hv hps
        repeat first | refine o_copy ?_ | refine nl ?_ | refine ct_seq ?_ | refine rg ?_ | refine ct_block ?_ | refine bq ?_ | refine o_loads ?_ | refine o_loadp ?_ | refine o_iaddr ?_ | refine o_iaddrO ?_ | refine o_iaddrR ?_ | refine o_add ?_ | refine o_cat ?_ | refine o_bin ?_ | refine o_lenq ?_ | refine o_len ?_ | refine o_bslice ?_ | refine o_not ?_ | refine o_pickt ?_ | refine o_pickf ?_ | refine skF ?_ | refine skU ?_
        exact agn (i + 1, nx) ⟨by simp only; omega, by simp only; omega, hv⟩ (goesR ⟨1, 40960⟩ ⟨1, 8192⟩)
  · have hge : i = l.length := by have h' := of_decide_eq_false h; simp only [List.length_map] at h'; omega
    subst hge
    rw [List.drop_length] at hv
    repeat first | refine o_copy ?_ | refine nl ?_ | refine ct_seq ?_ | refine rg ?_ | refine ct_block ?_ | refine bq ?_ | refine o_loads ?_ | refine o_loadp ?_ | refine o_iaddr ?_ | refine o_iaddrO ?_ | refine o_iaddrR ?_ | refine o_add ?_ | refine o_cat ?_ | refine o_bin ?_ | refine o_lenq ?_ | refine o_len ?_ | refine o_bslice ?_ | refine o_not ?_ | refine o_pickt ?_ | refine o_pickf ?_ | refine skF ?_ | refine skU ?_
    exact ct_ret ⟨.inr rfl, oOwn (congrArg (List.map encT) hv)⟩
def Asc (l : List Str) : Prop := (∀ x ∈ l, x ≠ []) ∧ l.Pairwise (fun a b => Op.bytesLess a b = true)
theorem pivInner_true (x : Str) : ∀ (l nx : List Str), pivInner x l nx true = (nx ++ l, true)
  | [], nx => by simp [pivInner]
  | y :: l, nx => by rw [pivInner, if_neg (by simp), pivInner_true x l]; simp
/-- A text put in its place. -/
def putP (x : Str) : List Str → List Str
  | [] => [x]
  | y :: l => if Op.bytesLess x y = true then x :: y :: l else if x = y then y :: l else y :: putP x l
theorem pivInner_false (x : Str) : ∀ (l nx : List Str), (if (pivInner x l nx false).2 = false then (pivInner x l nx false).1 ++ [x] else (pivInner x l nx false).1) = nx ++ putP x l
  | [], nx => by simp [pivInner, putP]
  | y :: l, nx => by
    have e : pivInner x (y :: l) nx false = if false = false ∧ (Op.bytesLess x y || x == y) = true then pivInner x l ((if Op.bytesLess x y = true then nx ++ [x] else nx) ++ [y]) true else pivInner x l (nx ++ [y]) false := by rw [pivInner]
    by_cases h : Op.bytesLess x y = true
    · have e2 : pivInner x (y :: l) nx false = (nx ++ x :: y :: l, true) := by
        rw [e, if_pos ⟨rfl, by rw [h]; rfl⟩, if_pos h, pivInner_true]; simp
      rw [e2, putP, if_pos h]
      simp
    · by_cases h2 : x = y
      · have e2 : pivInner x (y :: l) nx false = (nx ++ y :: l, true) := by
          rw [e, if_pos ⟨rfl, by simp [h2]⟩, if_neg h, pivInner_true]; simp
        rw [e2, putP, if_neg h, if_pos h2]
        simp
      · have e2 : pivInner x (y :: l) nx false = pivInner x l (nx ++ [y]) false := by
          rw [e, if_neg (by simp [h, h2])]
        rw [e2, pivInner_false x l, putP, if_neg h, if_neg h2]
        simp
theorem pivStep_eq (out : List Str) (x : Str) : pivStep out x = if x = [] then out else putP x out := by
  unfold pivStep
  by_cases h : x = []
  · have : (x == []) = true := by simpa using h
    rw [this, pivInner_true, if_pos h]
    simp
  · have : (x == []) = false := by simpa using h
    rw [this, if_neg h]
    exact pivInner_false x out []
theorem putP_mem {x z : Str} : ∀ {l : List Str}, z ∈ putP x l → z = x ∨ z ∈ l
  | [], h => .inl (by simpa [putP] using h)
  | y :: l, h => by
    rw [putP] at h
    split at h
    · simpa using h
    · split at h
      · exact .inr h
      · rcases List.mem_cons.1 h with h | h
        · exact .inr (by simp [h])
        · rcases putP_mem h with h | h
          · exact .inl h
          · exact .inr (by simp [h])
theorem putP_asc {x : Str} (hx : x ≠ []) : ∀ {l : List Str}, Asc l → Asc (putP x l)
  | [], _ => ⟨by simp [putP, hx], by simp [putP]⟩
  | y :: l, ⟨h1, h2⟩ => by
    rw [putP]
    obtain ⟨h3, h4⟩ := List.pairwise_cons.1 h2
    split
    · next h =>
      refine ⟨?_, List.pairwise_cons.2 ⟨?_, h2⟩⟩
      · intro z hz
        rcases List.mem_cons.1 hz with rfl | hz
        · exact hx
        · exact h1 z hz
      · intro z hz
        rcases List.mem_cons.1 hz with rfl | hz
        · exact h
        · exact blt_trans h (h3 z hz)
    · split
      · exact ⟨h1, h2⟩
      · next h h5 =>
        have hyx : Op.bytesLess y x = true := by
          rcases blt_tri x y with h6 | h6 | h6
          · exact absurd h6 h
          · exact absurd h6 h5
          · exact h6
        obtain ⟨h6, h7⟩ := putP_asc hx (l := l) ⟨fun z hz => h1 z (by simp [hz]), h4⟩
        refine ⟨?_, List.pairwise_cons.2 ⟨?_, h7⟩⟩
        · intro z hz
          rcases List.mem_cons.1 hz with rfl | hz
          · exact h1 _ (by simp)
          · exact h6 z hz
        · intro z hz
          rcases putP_mem hz with rfl | hz
          · exact hyx
          · exact h3 z hz
theorem piv_fold_asc : ∀ (l o : List Str), Asc o → Asc (l.foldl pivStep o)
  | [], o, h => h
  | x :: l, o, h => by
    rw [List.foldl_cons]
    refine piv_fold_asc l _ ?_
    rw [pivStep_eq]
    split
    · exact h
    · next hx => exact putP_asc hx h
theorem pivL_asc (l : List Str) : Asc (pivL l) := piv_fold_asc l [] ⟨by simp, by simp⟩
theorem piv_fold_len : ∀ (l o : List Str), (l.foldl pivStep o).length ≤ o.length + l.length
  | [], o => by simp
  | x :: l, o => by
    rw [List.foldl_cons, List.length_cons]
    have h1 := piv_fold_len l (pivStep o x)
    have h2 := pivStep_len o x
    omega
theorem pivL_len (l : List Str) : (pivL l).length ≤ l.length := by
  have := piv_fold_len l []
  simpa [pivL] using this
/-- Where a key is between pivots. -/
def atL (key : Str) : List Str → Nat
  | [] => 0
  | p :: l => if ble p key = true then atL key l + 1 else 0
theorem atL_le (key : Str) : ∀ l : List Str, atL key l ≤ l.length
  | [] => Nat.le_refl _
  | p :: l => by
    have := atL_le key l
    rw [atL, List.length_cons]
    split <;> omega
theorem atL_get (key : Str) : ∀ (l : List Str) (i : Nat) (p : Str), l[i]? = some p → i ≤ atL key l → (ble p key = true ↔ i < atL key l)
  | [], i, p, h, _ => by simp at h
  | q :: l, i, p, h, hi => by
    rw [atL] at hi ⊢
    cases i with
    | zero =>
      obtain rfl : q = p := by simpa using h
      split
      · next h2 => simp [h2]
      · next h2 => simp [h2]
    | succ i =>
      split at hi
      · next h2 =>
        rw [if_pos h2]
        have := atL_get key l i p (by simpa using h) (by omega)
        rw [this]
        omega
      · omega
theorem parts_has (s : SpanL) (key : Str) : ∀ (l : List Str) (lo : Str) (k : Nat) (t : SpanL), Asc l → (∀ p ∈ l, ble lo p = true) → (partsL s lo l)[k]? = some t →
    hasL t key = (ble lo key && (decide (k = atL key l) && hasL s key))
  | [], lo, k, t, _, _, h => by
    rw [partsL] at h
    have hk : k = 0 := by
      have := (List.getElem?_eq_some_iff.1 h).1
      simp at this
      omega
    subst hk
    obtain rfl : meetL s ⟨lo, []⟩ = t := by simpa using h
    rw [meet_has, has_last, atL]
    cases hasL s key <;> simp
  | p :: l, lo, k, t, ha, hlo, h => by
    rw [partsL] at h
    obtain ⟨h3, h4⟩ := List.pairwise_cons.1 ha.2
    cases k with
    | zero =>
      obtain rfl : meetL s ⟨lo, p⟩ = t := by simpa using h
      rw [meet_has, has_gap (ha.1 p (by simp)), atL]
      have e : ble p key = !Op.bytesLess key p := rfl
      rw [e]
      cases Op.bytesLess key p <;> cases hasL s key <;> simp
    | succ k =>
      rw [parts_has s key l p k t ⟨fun z hz => ha.1 z (by simp [hz]), h4⟩ (fun z hz => ble_iff.2 (.inl (h3 z hz))) (by simpa using h), atL]
      cases h5 : ble p key with
      | true =>
        have h6 : ble lo key = true := ble_trans (hlo p (by simp)) h5
        simp [h6]
      | false => simp
theorem parts_in (s : SpanL) (key : Str) : ∀ (l : List Str) (lo : Str), Asc l → (∀ p ∈ l, ble lo p = true) → inL (partsL s lo l) key = (ble lo key && hasL s key)
  | [], lo, _, _ => by
    rw [partsL, inL_cons, meet_has, has_last]
    cases hasL s key <;> simp [inL]
  | p :: l, lo, ha, hlo => by
    obtain ⟨h3, h4⟩ := List.pairwise_cons.1 ha.2
    rw [partsL, inL_cons, meet_has, has_gap (ha.1 p (by simp)), parts_in s key l p ⟨fun z hz => ha.1 z (by simp [hz]), h4⟩ (fun z hz => ble_iff.2 (.inl (h3 z hz)))]
    have e : ble p key = !Op.bytesLess key p := rfl
    cases h5 : Op.bytesLess key p with
    | true => rw [e, h5]; cases hasL s key <;> simp
    | false =>
      have h6 : ble lo key = true := ble_trans (hlo p (by simp)) (by rw [e, h5]; rfl)
      rw [e, h5, h6]
      cases hasL s key <;> simp
theorem dec2s {qs : List PV} (hl : qs.length = [CTy.str, .str].length) (hq : ∀ (j : Nat) (c : CTy) (q : PV), [CTy.str, .str][j]? = some c → qs[j]? = some q → InTy c q) : ∃ a b : Str, qs = [.str a, .str b] ∧ a.length ≤ maxLen ∧ b.length ≤ maxLen := by
  obtain ⟨a, b, rfl⟩ := list2 hl
  obtain ⟨x, rfl, hx⟩ := in_str (hq 0 _ _ rfl rfl)
  obtain ⟨y, rfl, hy⟩ := in_str (hq 1 _ _ rfl rfl)
  exact ⟨x, y, rfl, hx, hy⟩
theorem decS {l : List (List PV)} (h : InTy (.sl [.str, .str]) (.sh false l)) : ∃ xs : List SpanL, l = xs.map encS ∧ xs.length ≤ maxLen := decodeL h fun e hl hc => by
  obtain ⟨a, b, rfl, _⟩ := dec2s hl hc
  exact ⟨⟨a, b⟩, rfl⟩
theorem decT {l : List (List PV)} (h : InTy (.sl [.str]) (.sh false l)) : ∃ xs : List Str, l = xs.map encT ∧ xs.length ≤ maxLen := decodeL h fun e hl hc => by
  obtain ⟨a, rfl⟩ := list1 hl
  obtain ⟨s, rfl, _⟩ := in_str (hc 0 _ _ rfl rfl)
  exact ⟨s, rfl⟩
end Go.Proofs
open Go.V Go.Pu
set_option linter.unusedVariables false
set_option linter.unusedSimpArgs false
set_option maxRecDepth 20000
namespace Go.Proofs
/-- slices.isNaN[string] -/
def vc72 : VCode :=
 (.seq
 (.region 0 false [
 ⟨(some 2), .copy (.c (.bool false)), none, 0, []⟩])
 (.seq
 (.region 1 false [
 ⟨(some 3), .copy (.t 0), none, 8192, []⟩,
 ⟨(some 4), .copy (.t 0), none, 8200, []⟩,
 ⟨(some 5), .bin .neq (.t 3) (.t 4), none, 8208, [0, 1]⟩,
 ⟨(some 2), .copy (.t 5), none, 8216, [2, 0, 1]⟩])
 .ret))
theorem vf72 : VF Tryz.prog 72 = some (6, vc72, [.tmp 2]) := by kernel_rfl
/-- cmp.isNaN[string] -/
def vc86 : VCode :=
 (.seq
 (.region 0 false [
 ⟨(some 2), .copy (.c (.bool false)), none, 0, []⟩])
 (.seq
 (.region 1 false [
 ⟨(some 3), .copy (.t 0), none, 8192, []⟩,
 ⟨(some 4), .copy (.t 0), none, 8200, []⟩,
 ⟨(some 5), .bin .neq (.t 3) (.t 4), none, 8208, [0, 1]⟩,
 ⟨(some 2), .copy (.t 5), none, 8216, [2, 0, 1]⟩])
 .ret))
theorem vf86 : VF Tryz.prog 86 = some (6, vc86, [.tmp 2]) := by kernel_rfl
/-- cmp.Less[string] -/
def vc71 : VCode :=
 (.seq
 (.region 0 false [
 ⟨(some 4), .copy (.c (.bool false)), none, 0, []⟩])
 (.seq
 (.region 1 false [
 ⟨(some 5), .copy (.t 0), none, 8192, []⟩,
 ⟨(some 6), .call (.c (.fn 86 [])) [(.t 5)], none, 8200, [0]⟩,
 ⟨(some 7), .copy (.t 6), none, 8208, [1, 0]⟩,
 ⟨(some 8), .copy (.t 1), (some (2, 7, true)), 8216, [2, 1, 0]⟩,
 ⟨(some 9), .call (.c (.fn 86 [])) [(.t 8)], (some (2, 7, true)), 8224, [3, 2, 1, 0]⟩,
 ⟨(some 10), .not (.t 9), (some (2, 7, true)), 8232, [4, 3, 2, 1, 0]⟩,
 ⟨(some 11), .pick (.t 7) (.t 10) (.c (.bool false)), none, 8240, [2, 1, 0, 5, 4, 3]⟩,
 ⟨(some 12), .copy (.t 11), none, 8248, [6, 2, 1, 0, 5, 4, 3]⟩,
 ⟨(some 13), .copy (.t 0), (some (7, 12, false)), 8256, [7, 6, 2, 1, 0, 5, 4, 3]⟩,
 ⟨(some 14), .copy (.t 1), (some (7, 12, false)), 8264, [7, 6, 2, 1, 0, 5, 4, 3]⟩,
 ⟨(some 15), .bin .lss (.t 13) (.t 14), (some (7, 12, false)), 8272, [8, 7, 6, 2, 1, 0, 5, 4, 3, 9]⟩,
 ⟨(some 16), .pick (.t 12) (.c (.bool true)) (.t 15), none, 8280, [7, 6, 2, 1, 0, 5, 4, 3, 10, 8, 9]⟩,
 ⟨(some 4), .copy (.t 16), none, 8288, [11, 7, 6, 2, 1, 0, 5, 4, 3, 10, 8, 9]⟩])
 .ret))
theorem vf71 : VF Tryz.prog 71 = some (17, vc71, [.tmp 4]) := by kernel_rfl
/-- slices.BinarySearch[[]string,string] -/
def vc46 : VCode :=
 (.seq
 (.region 0 false [
 ⟨(some 4), .copy (.c (.int .i64 0)), none, 0, []⟩,
 ⟨(some 5), .copy (.c (.bool false)), none, 8, [0]⟩])
 (.seq
 (.region 1 false [
 ⟨(some 10), .copy (.t 0), none, 8192, []⟩,
 ⟨(some 11), .len (.t 10), none, 8200, [0]⟩,
 ⟨(some 6), .copy (.t 11), none, 8208, [1, 0]⟩])
 (.seq
 (.region 2 false [
 ⟨(some 12), .copy (.t 6), none, 16384, []⟩,
 ⟨(some 7), .copy (.c (.int .i64 0)), none, 16392, []⟩,
 ⟨(some 8), .copy (.t 12), none, 16400, [0, 1]⟩])
 (.seq
 (.block 0
 (.loop
 (.seq
 (.seq
 (.region 3 false [
 ⟨(some 13), .copy (.t 7), none, 24576, []⟩,
 ⟨(some 14), .copy (.t 8), none, 24584, []⟩,
 ⟨(some 15), .bin .lss (.t 13) (.t 14), none, 24592, [0, 1]⟩])
 (.cond (.t 15)
 .skip
 (.exit 0)))
 (.block 1
 (.seq
 (.region 4 false [
 ⟨(some 16), .copy (.t 7), none, 32768, []⟩,
 ⟨(some 17), .copy (.t 8), none, 32776, []⟩,
 ⟨(some 18), .bin .add (.t 16) (.t 17), none, 32784, [0, 1]⟩,
 ⟨(some 19), .conv .u64 (.t 18), none, 32792, [2, 0, 1]⟩,
 ⟨(some 20), .bin .shr (.t 19) (.c (.int .u64 1)), none, 32800, [3, 2, 0, 1]⟩,
 ⟨(some 21), .conv .i64 (.t 20), none, 32808, [4, 3, 2, 0, 1]⟩,
 ⟨(some 9), .copy (.t 21), none, 32816, [5, 4, 3, 2, 0, 1]⟩])
 (.seq
 (.region 5 false [
 ⟨(some 22), .copy (.t 0), none, 40960, []⟩,
 ⟨(some 23), .copy (.t 9), none, 40968, []⟩,
 ⟨(some 24), .iaddr 1 (.t 22) (.t 23), none, 40976, [0, 1]⟩,
 ⟨(some 25), .load false 1 (.t 24), none, 40984, [2, 0, 1]⟩,
 ⟨(some 26), .copy (.t 1), none, 40992, []⟩,
 ⟨(some 27), .call (.c (.fn 71 [])) [(.t 25), (.t 26)], none, 41000, [3, 2, 0, 1, 4]⟩])
 (.cond (.t 27)
 (.region 6 false [
 ⟨(some 28), .copy (.t 9), none, 49152, []⟩,
 ⟨(some 29), .bin .add (.t 28) (.c (.int .i64 1)), none, 49160, [0]⟩,
 ⟨(some 7), .copy (.t 29), none, 49168, [1, 0]⟩])
 (.region 7 false [
 ⟨(some 30), .copy (.t 9), none, 57344, []⟩,
 ⟨(some 8), .copy (.t 30), none, 57352, [0]⟩]))))))))
 (.seq
 (.region 8 false [
 ⟨(some 31), .copy (.t 7), none, 65536, []⟩,
 ⟨(some 32), .copy (.t 7), none, 65544, []⟩,
 ⟨(some 33), .copy (.t 6), none, 65552, []⟩,
 ⟨(some 34), .bin .lss (.t 32) (.t 33), none, 65560, [1, 2]⟩,
 ⟨(some 35), .copy (.t 34), none, 65568, [3, 1, 2]⟩,
 ⟨(some 36), .copy (.t 0), (some (4, 35, true)), 65576, [4, 3, 1, 2]⟩,
 ⟨(some 37), .copy (.t 7), (some (4, 35, true)), 65584, [4, 3, 1, 2]⟩,
 ⟨(some 38), .iaddr 1 (.t 36) (.t 37), (some (4, 35, true)), 65592, [5, 4, 3, 1, 2, 6]⟩,
 ⟨(some 39), .load false 1 (.t 38), (some (4, 35, true)), 65600, [7, 5, 4, 3, 1, 2, 6]⟩,
 ⟨(some 40), .copy (.t 1), (some (4, 35, true)), 65608, [4, 3, 1, 2]⟩,
 ⟨(some 41), .bin .eql (.t 39) (.t 40), (some (4, 35, true)), 65616, [8, 7, 5, 4, 3, 1, 2, 6, 9]⟩,
 ⟨(some 42), .copy (.t 41), (some (4, 35, true)), 65624, [10, 8, 7, 5, 4, 3, 1, 2, 6, 9]⟩,
 ⟨(some 43), .copy (.t 0), (some (11, 42, false)), 65632, [11, 10, 8, 7, 5, 4, 3, 1, 2, 6, 9]⟩,
 ⟨(some 44), .copy (.t 7), (some (11, 42, false)), 65640, [11, 10, 8, 7, 5, 4, 3, 1, 2, 6, 9]⟩,
 ⟨(some 45), .iaddr 1 (.t 43) (.t 44), (some (11, 42, false)), 65648, [12, 11, 10, 8, 7, 5, 4, 3, 1, 2, 6, 9, 13]⟩,
 ⟨(some 46), .load false 1 (.t 45), (some (11, 42, false)), 65656, [14, 12, 11, 10, 8, 7, 5, 4, 3, 1, 2, 6, 9, 13]⟩,
 ⟨(some 47), .call (.c (.fn 72 [])) [(.t 46)], (some (11, 42, false)), 65664, [15, 14, 12, 11, 10, 8, 7, 5, 4, 3, 1, 2, 6, 9, 13]⟩,
 ⟨(some 48), .copy (.t 47), (some (11, 42, false)), 65672, [16, 15, 14, 12, 11, 10, 8, 7, 5, 4, 3, 1, 2, 6, 9, 13]⟩,
 ⟨(some 49), .copy (.t 1), (some (17, 48, true)), 65680, [17, 16, 15, 14, 12, 11, 10, 8, 7, 5, 4, 3, 1, 2, 6, 9, 13]⟩,
 ⟨(some 50), .call (.c (.fn 72 [])) [(.t 49)], (some (17, 48, true)), 65688, [18, 17, 16, 15, 14, 12, 11, 10, 8, 7, 5, 4, 3, 1, 2, 6, 9, 13]⟩,
 ⟨(some 51), .pick (.t 48) (.t 50) (.c (.bool false)), (some (11, 42, false)), 65696, [17, 16, 15, 14, 12, 11, 10, 8, 7, 5, 4, 3, 1, 2, 6, 9, 13, 19, 18]⟩,
 ⟨(some 52), .pick (.t 42) (.c (.bool true)) (.t 51), (some (4, 35, true)), 65704, [11, 10, 8, 7, 5, 4, 3, 1, 2, 6, 9, 20, 17, 16, 15, 14, 12, 13, 19, 18]⟩,
 ⟨(some 53), .pick (.t 35) (.t 52) (.c (.bool false)), none, 65712, [4, 3, 1, 2, 21, 11, 10, 8, 7, 5, 6, 9, 20, 17, 16, 15, 14, 12, 13, 19, 18]⟩,
 ⟨(some 4), .copy (.t 31), none, 65720, [0, 19, 18, 17, 16, 15, 14, 12, 11, 10, 8, 7, 5, 4, 3, 1, 2, 6, 9, 13]⟩,
 ⟨(some 5), .copy (.t 53), none, 65728, [22, 4, 3, 1, 2, 21, 11, 10, 8, 7, 5, 6, 9, 20, 17, 16, 15, 14, 12, 13, 19, 18, 23, 0]⟩])
 .ret)))))
theorem vf46 : VF Tryz.prog 46 = some (54, vc46, [.tmp 4, .tmp 5]) := by kernel_rfl
/-- downspout/route.Kid -/
def vc15 : VCode :=
 (.seq
 (.region 0 false [
 ⟨(some 4), .copy (.c (.int .i64 0)), none, 0, []⟩])
 (.seq
 (.region 1 false [
 ⟨(some 8), .copy (.t 1), none, 8192, []⟩,
 ⟨(some 9), .copy (.t 0), none, 8200, []⟩,
 ⟨(some 10), .call (.c (.fn 46 [])) [(.t 8), (.t 9)], none, 8208, [0, 1]⟩,
 ⟨(some 7), .copy (.t 10), none, 8216, [2, 0, 1]⟩,
 ⟨(some 11), .extract (.t 7) 0, none, 8224, [3, 2, 0, 1]⟩,
 ⟨(some 12), .extract (.t 7) 1, none, 8232, [3, 2, 0, 1]⟩,
 ⟨(some 5), .copy (.t 11), none, 8240, [4, 3, 2, 0, 1]⟩,
 ⟨(some 6), .copy (.t 12), none, 8248, [5, 3, 2, 0, 1, 6, 4]⟩])
 (.seq
 (.seq
 (.region 2 false [
 ⟨(some 13), .copy (.t 6), none, 16384, []⟩])
 (.cond (.t 13)
 (.region 3 false [
 ⟨(some 14), .copy (.t 5), none, 24576, []⟩,
 ⟨(some 15), .bin .add (.t 14) (.c (.int .i64 1)), none, 24584, [0]⟩,
 ⟨(some 5), .copy (.t 15), none, 24592, [1, 0]⟩])
 .skip))
 (.seq
 (.region 4 false [
 ⟨(some 16), .copy (.t 5), none, 32768, []⟩,
 ⟨(some 4), .copy (.t 16), none, 32776, [0]⟩])
 .ret))))
theorem vf15 : VF Tryz.prog 15 = some (17, vc15, [.tmp 4]) := by kernel_rfl
/-- downspout/downspoutref08.Kid -/
def vc16 : VCode :=
 (.seq
 (.region 0 false [
 ⟨(some 4), .copy (.c (.int .i64 0)), none, 0, []⟩])
 (.seq
 (.region 1 false [
 ⟨(some 5), .copy (.c (.int .i64 0)), none, 8192, []⟩])
 (.seq
 (.seq
 (.region 2 false [
 ⟨(some 6), .copy (.c (.int .i64 0)), none, 16384, []⟩])
 (.block 0
 (.loop
 (.seq
 (.seq
 (.region 3 false [
 ⟨(some 7), .copy (.t 6), none, 24576, []⟩,
 ⟨(some 8), .copy (.t 1), none, 24584, []⟩,
 ⟨(some 9), .len (.t 8), none, 24592, [1]⟩,
 ⟨(some 10), .bin .lss (.t 7) (.t 9), none, 24600, [0, 2, 1]⟩])
 (.cond (.t 10)
 .skip
 (.exit 0)))
 (.seq
 (.block 1
 (.seq
 (.region 5 false [
 ⟨(some 13), .copy (.t 1), none, 40960, []⟩,
 ⟨(some 14), .copy (.t 6), none, 40968, []⟩,
 ⟨(some 15), .iaddr 1 (.t 13) (.t 14), none, 40976, [0, 1]⟩,
 ⟨(some 16), .load false 1 (.t 15), none, 40984, [2, 0, 1]⟩,
 ⟨(some 17), .copy (.t 0), none, 40992, []⟩,
 ⟨(some 18), .bin .leq (.t 16) (.t 17), none, 41000, [3, 2, 0, 1, 4]⟩])
 (.cond (.t 18)
 (.region 6 false [
 ⟨(some 19), .copy (.t 5), none, 49152, []⟩,
 ⟨(some 20), .bin .add (.t 19) (.c (.int .i64 1)), none, 49160, [0]⟩,
 ⟨(some 5), .copy (.t 20), none, 49168, [1, 0]⟩])
 .skip)))
 (.region 4 false [
 ⟨(some 11), .copy (.t 6), none, 32768, []⟩,
 ⟨(some 12), .bin .add (.t 11) (.c (.int .i64 1)), none, 32776, [0]⟩,
 ⟨(some 6), .copy (.t 12), none, 32784, [1, 0]⟩]))))))
 (.seq
 (.region 7 false [
 ⟨(some 21), .copy (.t 5), none, 57344, []⟩,
 ⟨(some 4), .copy (.t 21), none, 57352, [0]⟩])
 .ret))))
theorem vf16 : VF Tryz.prog 16 = some (22, vc16, [.tmp 4]) := by kernel_rfl
/-! The kid of a key -/
def lbS (l : List Str) (k : Str) : Nat := (l.takeWhile (fun p => Op.bytesLess p k)).length
def fdS (l : List Str) (k : Str) : Bool := match l[lbS l k]? with | some p => p == k | none => false
theorem lbS_cons (p : Str) (t : List Str) (k : Str) : lbS (p :: t) k = if Op.bytesLess p k = true then lbS t k + 1 else 0 := by
  unfold lbS
  rw [List.takeWhile_cons]
  split <;> simp [*]
theorem lbS_le (k : Str) : ∀ t : List Str, lbS t k ≤ t.length
  | [] => Nat.le_refl _
  | p :: t => by
    have := lbS_le k t
    rw [lbS_cons, List.length_cons]
    split <;> omega
theorem lbS_get {t : List Str} (h : t.Pairwise (fun a b => Op.bytesLess a b = true)) (k : Str) : ∀ {m : Nat} {p : Str}, t[m]? = some p → (Op.bytesLess p k = true ↔ m < lbS t k) := by
  induction t with
  | nil => intro m p hp; simp at hp
  | cons x t ih =>
    intro m p hp
    obtain ⟨hx0, ht⟩ := List.pairwise_cons.1 h
    rw [lbS_cons]
    cases m with
    | zero =>
      obtain rfl : x = p := by simpa using hp
      split <;> simp [*]
    | succ m =>
      have hp' : t[m]? = some p := by simpa using hp
      split
      · rw [ih ht hp']; omega
      · next hx =>
        have hmem : p ∈ t := List.mem_of_getElem? hp'
        constructor
        · intro h2
          exact absurd (blt_trans (hx0 p hmem) h2) hx
        · intro h2; omega
theorem kid_eq (k : Str) : ∀ {t : List Str}, t.Pairwise (fun a b => Op.bytesLess a b = true) → lbS t k + (if fdS t k = true then 1 else 0) = atL k t
  | [], _ => rfl
  | x :: t, h => by
    obtain ⟨hx0, ht⟩ := List.pairwise_cons.1 h
    have ih := kid_eq k ht
    unfold fdS at ih ⊢
    rw [lbS_cons, atL]
    by_cases hx : Op.bytesLess x k = true
    · rw [if_pos hx, if_pos (ble_iff.2 (.inl hx)), List.getElem?_cons_succ]
      omega
    · rw [if_neg hx, List.getElem?_cons_zero]
      by_cases he : x = k
      · subst he
        have : atL x t = 0 := by
          cases t with
          | nil => rfl
          | cons y t =>
            rw [atL, if_neg]
            have h1 := hx0 y (by simp)
            intro h2
            have := blt_of_ble_of_blt h2 h1
            rw [blt_irrefl] at this
            cases this
        simp [ble_refl, this]
      · have h1 : ble x k = false := by
          cases hb : ble x k with
          | false => rfl
          | true => rcases ble_iff.1 hb with h2 | h2
                    · exact absurd h2 hx
                    · exact absurd h2 he
        simp [he, h1]
theorem nan_vc (a : Str) : VC Tryz.prog 72 [.str a] [] (.bool false) [] := by
  refine vc_of vf72 ?_ (Nat.le_of_ble_eq_true rfl) (by intro vs h; cases h)
  repeat' first | refine o_copy ?_ | refine nl ?_ | refine ct_seq ?_ | refine rg ?_ | refine ct_block ?_ | refine bq ?_ | refine ct_skip ?_ | refine ct_exit ?_ | refine rt_next ?_ | refine cndt ?_ | refine cndf ?_ | refine o_copy ?_ | refine o_bin ?_ | refine ct_ret ⟨.inr rfl, ?_⟩ | refine cnd (fun _ => ?_) (fun _ => ?_) | (refine glook (fun _ => ?_) (fun _ => ?_) <;> first | refine o_copy ?_ | refine o_bin ?_)
  all_goals refine oB ?_
  all_goals simp
theorem nanc_vc (a : Str) : VC Tryz.prog 86 [.str a] [] (.bool false) [] := by
  refine vc_of vf86 ?_ (Nat.le_of_ble_eq_true rfl) (by intro vs h; cases h)
  repeat' first | refine o_copy ?_ | refine nl ?_ | refine ct_seq ?_ | refine rg ?_ | refine ct_block ?_ | refine bq ?_ | refine ct_skip ?_ | refine ct_exit ?_ | refine rt_next ?_ | refine cndt ?_ | refine cndf ?_ | refine o_copy ?_ | refine o_bin ?_ | refine ct_ret ⟨.inr rfl, ?_⟩ | refine cnd (fun _ => ?_) (fun _ => ?_) | (refine glook (fun _ => ?_) (fun _ => ?_) <;> first | refine o_copy ?_ | refine o_bin ?_)
  all_goals refine oB ?_
  all_goals simp
theorem cless_vc (a b : Str) : VC Tryz.prog 71 [.str a, .str b] [] (.bool (Op.bytesLess a b)) [] := by
  refine vc_of vf71 ?_ (Nat.le_of_ble_eq_true rfl) (by intro vs h; cases h)
  repeat' first | refine o_copy ?_ | refine nl ?_ | refine ct_seq ?_ | refine rg ?_ | refine ct_block ?_ | refine bq ?_ | refine ct_skip ?_ | refine ct_exit ?_ | refine rt_next ?_ | refine cndt ?_ | refine cndf ?_ | refine cv0 (nanc_vc _) ?_ | refine o_copy ?_ | refine o_bin ?_ | refine o_not ?_ | refine o_pickt ?_ | refine o_pickf ?_ | refine skF ?_ | refine skU ?_ | refine ct_ret ⟨.inr rfl, ?_⟩ | refine cnd (fun _ => ?_) (fun _ => ?_) | (refine glook (fun _ => ?_) (fun _ => ?_) <;> first | refine cv0 (nanc_vc _) ?_ | refine o_copy ?_ | refine o_bin ?_ | refine o_not ?_ | refine o_pickt ?_ | refine o_pickf ?_ | refine skF ?_ | refine skU ?_)
  all_goals refine oB ?_
  all_goals simp_all
theorem half {n : Nat} : bin .shr (.int .u64 (n : Nat)) (.int .u64 1) = some (.int .u64 ((n / 2 : Nat) : Int)) := by
  show (if (1 : Int) < 0 then none else some (PV.int .u64 ((n : Int).fdiv (2 ^ (Int.toNat 1))))) = _
  rw [if_neg (by decide), Int.fdiv_eq_ediv_of_nonneg _ (by decide)]
  rfl
theorem noTup2 {a b : PV} (ha : ∀ q, a ≠ .tup q) (hb : ∀ q, b ≠ .tup q) : ∀ vs, PV.tup [a, b] = .tup vs → ∀ p ∈ vs, ∀ q, p ≠ .tup q := by
  intro vs h p hp q
  cases h
  rcases List.mem_cons.1 hp with rfl | hp
  · exact ha q
  · rw [List.mem_singleton.1 hp]; exact hb q
set_option maxHeartbeats 1000000 in
theorem bs_vc {q : PV} {t : List Str} (k : Str) (hs : t.Pairwise (fun a b => Op.bytesLess a b = true)) (hq : Sl q (t.map encT)) (hl : t.length ≤ 1000000) : VC Tryz.prog 46 [q, .str k] [] (.tup [.int .i64 (lbS t k), .bool (fdS t k)]) [] := by
  refine vc_of vf46 ?_ (Nat.le_of_ble_eq_true rfl) (noTup2 (by intro q h; cases h) (by intro q h; cases h))
  have hle := lbS_le k t
  have hget := fun m p => lbS_get hs k (m := m) (p := p)
  have hfd : (match t[lbS t k]? with | some p => p == k | none => false) = fdS t k := rfl
  have hml : (t.map encT).length = t.length := List.length_map ..
  generalize lbS t k = lb at *
  generalize fdS t k = fd at *
  repeat first | refine o_copy ?_ | refine nl ?_ | refine ct_seq ?_ | refine rg ?_ | refine ct_block ?_ | refine bq ?_ | refine o_loads ?_ | refine o_loadp ?_ | refine o_iaddr ?_ | refine o_iaddrO ?_ | refine o_iaddrR ?_ | refine o_add ?_ | refine o_cat ?_ | refine o_bin ?_ | refine o_lenq ?_ | refine o_len ?_ | refine o_pickt ?_ | refine o_pickf ?_ | refine skF ?_ | refine skU ?_
  refine ct_loopG (fun (g : Nat × Nat) => [(0, q), (1, .str k), (6, .int .i64 (t.map encT).length), (7, .int .i64 g.1), (8, .int .i64 g.2)])
    (fun g => []) (fun g => g.2 - g.1) (fun g => g.1 ≤ lb ∧ lb ≤ g.2 ∧ g.2 ≤ t.length) (0, t.length) (goes (h1 := by refine ⟨rfl, rfl, rfl, rfl, ?_, trivial⟩; exact congrArg (fun n : Nat => some (PV.int .i64 n)) hml)) ⟨Nat.zero_le _, hle, Nat.le_refl _⟩ ?_
  rintro ⟨i, j⟩ ⟨h1, h2, h3⟩
  dsimp only at h1 h2 h3 ⊢
  repeat first | refine o_copy ?_ | refine nl ?_ | refine ct_seq ?_ | refine rg ?_ | refine ct_block ?_ | refine bq ?_ | refine o_loads ?_ | refine o_loadp ?_ | refine o_iaddr ?_ | refine o_iaddrO ?_ | refine o_iaddrR ?_ | refine o_add ?_ | refine o_cat ?_ | refine o_bin ?_ | refine o_lenq ?_ | refine o_len ?_ | refine o_pickt ?_ | refine o_pickf ?_ | refine skF ?_ | refine skU ?_
  refine cnd (fun h => ct_skip ?_) (fun h => ct_exit ?_)
  · have hlt : i < j := by have h' := of_decide_eq_true h; omega
    have c1 : IntKind.u64.wrap ((i : Int) + (j : Int)) = ((i + j : Nat) : Int) := by unfold IntKind.wrap; simp [IntKind.bits, IntKind.signed]; omega
    have c2 : IntKind.i64.wrap (((i + j) / 2 : Nat) : Int) = (((i + j) / 2 : Nat) : Int) := wrap64 (by omega) (by omega)
    obtain ⟨p, hp⟩ : ∃ x, t[(i + j) / 2]? = some x := ⟨_, List.getElem?_eq_getElem (by omega)⟩
    have hpe := gm (enc := encT) (n := (((i + j) / 2 : Nat) : Int)) hp (by omega)
    have hgp := hget _ _ hp
    repeat first | refine o_copy ?_ | refine nl ?_ | refine ct_seq ?_ | refine rg ?_ | refine ct_block ?_ | refine bq ?_ | refine o_convE ?_ | refine o_binE half ?_ | refine cv0 (cless_vc p k) ?_ | refine o_loads ?_ | refine o_loadp ?_ | refine o_iaddr ?_ | refine o_iaddrO ?_ | refine o_iaddrR ?_ | refine o_add ?_ | refine o_cat ?_ | refine o_bin ?_ | refine o_lenq ?_ | refine o_len ?_ | refine o_pickt ?_ | refine o_pickf ?_ | refine skF ?_ | refine skU ?_
    refine cnd (fun h4 => ?_) (fun h4 => ?_)
    · have h5 := hgp.1 h4
      repeat first | refine o_copy ?_ | refine nl ?_ | refine ct_seq ?_ | refine rg ?_ | refine ct_block ?_ | refine bq ?_ | refine o_loads ?_ | refine o_loadp ?_ | refine o_iaddr ?_ | refine o_iaddrO ?_ | refine o_iaddrR ?_ | refine o_add ?_ | refine o_cat ?_ | refine o_bin ?_ | refine o_lenq ?_ | refine o_len ?_ | refine o_pickt ?_ | refine o_pickf ?_ | refine skF ?_ | refine skU ?_
      exact agn ((i + j) / 2 + 1, j) ⟨by simp only; omega, by simp only; omega, by simp only; omega⟩ goes
    · have h5 : ¬ (i + j) / 2 < lb := fun h5 => by rw [hgp.2 h5] at h4; cases h4
      repeat first | refine o_copy ?_ | refine nl ?_ | refine ct_seq ?_ | refine rg ?_ | refine ct_block ?_ | refine bq ?_ | refine o_loads ?_ | refine o_loadp ?_ | refine o_iaddr ?_ | refine o_iaddrO ?_ | refine o_iaddrR ?_ | refine o_add ?_ | refine o_cat ?_ | refine o_bin ?_ | refine o_lenq ?_ | refine o_len ?_ | refine o_pickt ?_ | refine o_pickf ?_ | refine skF ?_ | refine skU ?_
      exact agn (i, (i + j) / 2) ⟨by simp only; omega, by simp only; omega, by simp only; omega⟩ goes
  · have h' := of_decide_eq_false h
    have e : i = lb := by omega
    subst e
    repeat first | refine o_copy ?_ | refine nl ?_ | refine ct_seq ?_ | refine rg ?_ | refine ct_block ?_ | refine bq ?_ | refine o_loads ?_ | refine o_loadp ?_ | refine o_iaddr ?_ | refine o_iaddrO ?_ | refine o_iaddrR ?_ | refine o_add ?_ | refine o_cat ?_ | refine o_bin ?_ | refine o_lenq ?_ | refine o_len ?_ | refine o_pickt ?_ | refine o_pickf ?_ | refine skF ?_ | refine skU ?_
    refine glook (fun hg => ?_) (fun hg => ?_)
    · have hlt : i < t.length := by have h' := of_decide_eq_true hg; omega
      obtain ⟨p, hp⟩ : ∃ x, t[i]? = some x := ⟨_, List.getElem?_eq_getElem hlt⟩
      have hpe := gm (enc := encT) (n := (i : Int)) hp (by omega)
      rw [hp] at hfd
      repeat first | refine o_copy ?_ | refine nl ?_ | refine ct_seq ?_ | refine rg ?_ | refine ct_block ?_ | refine bq ?_ | refine cv0 (nan_vc p) ?_ | refine o_loads ?_ | refine o_loadp ?_ | refine o_iaddr ?_ | refine o_iaddrO ?_ | refine o_iaddrR ?_ | refine o_add ?_ | refine o_cat ?_ | refine o_bin ?_ | refine o_lenq ?_ | refine o_len ?_ | refine o_pickt ?_ | refine o_pickf ?_ | refine skF ?_ | refine skU ?_
      refine glook (fun hg2 => ?_) (fun hg2 => ?_)
      · repeat first | refine o_copy ?_ | refine nl ?_ | refine ct_seq ?_ | refine rg ?_ | refine ct_block ?_ | refine bq ?_ | refine o_loads ?_ | refine o_loadp ?_ | refine o_iaddr ?_ | refine o_iaddrO ?_ | refine o_iaddrR ?_ | refine o_add ?_ | refine o_cat ?_ | refine o_bin ?_ | refine o_lenq ?_ | refine o_len ?_ | refine o_pickt ?_ | refine o_pickf ?_ | refine skF ?_ | refine skU ?_
        refine ct_ret ⟨.inr rfl, oAny ?_⟩
        rw [← hfd]
        simp only [hg2]
        rfl
      · repeat first | refine o_copy ?_ | refine nl ?_ | refine ct_seq ?_ | refine rg ?_ | refine ct_block ?_ | refine bq ?_ | refine cv0 (nan_vc p) ?_ | refine o_loads ?_ | refine o_loadp ?_ | refine o_iaddr ?_ | refine o_iaddrO ?_ | refine o_iaddrR ?_ | refine o_add ?_ | refine o_cat ?_ | refine o_bin ?_ | refine o_lenq ?_ | refine o_len ?_ | refine o_pickt ?_ | refine o_pickf ?_ | refine skF ?_ | refine skU ?_
        refine ct_ret ⟨.inr rfl, oAny ?_⟩
        rw [← hfd]
        simp only [hg2]
        rfl
    · have hge : t.length ≤ i := by have h' := of_decide_eq_false hg; omega
      rw [List.getElem?_eq_none hge] at hfd
      repeat first | refine o_copy ?_ | refine nl ?_ | refine ct_seq ?_ | refine rg ?_ | refine ct_block ?_ | refine bq ?_ | refine o_loads ?_ | refine o_loadp ?_ | refine o_iaddr ?_ | refine o_iaddrO ?_ | refine o_iaddrR ?_ | refine o_add ?_ | refine o_cat ?_ | refine o_bin ?_ | refine o_lenq ?_ | refine o_len ?_ | refine o_pickt ?_ | refine o_pickf ?_ | refine skF ?_ | refine skU ?_
      refine ct_ret ⟨.inr rfl, oAny ?_⟩
      rw [← hfd]
      rfl
theorem kid_vc {q : PV} {t : List Str} (k : Str) (hs : Asc t) (hq : Sl q (t.map encT)) (hl : t.length ≤ 1000000) : VC Tryz.prog 15 [.str k, q] [] (.int .i64 (atL k t)) [] := by
  refine vc_of vf15 ?_ (Nat.le_of_ble_eq_true rfl) (by intro vs h; cases h)
  have h1 := kid_eq k hs.2
  have h2 := lbS_le k t
  have hb := bs_vc k hs.2 hq hl
  rw [← h1]
  generalize lbS t k = n at *
  generalize fdS t k = b at *
  cases b
  · repeat first | refine o_copy ?_ | refine nl ?_ | refine ct_seq ?_ | refine rg ?_ | refine ct_block ?_ | refine bq ?_ | refine cv0 hb ?_ | refine o_add ?_ | refine o_cat ?_ | refine o_bin ?_ | refine o_extract ?_
    refine cndf (ct_skip ?_)
    repeat first | refine o_copy ?_ | refine nl ?_ | refine ct_seq ?_ | refine rg ?_ | refine ct_block ?_ | refine bq ?_ | refine o_add ?_ | refine o_cat ?_ | refine o_bin ?_ | refine o_extract ?_
    exact ct_ret ⟨.inr rfl, oI rfl⟩
  · repeat first | refine o_copy ?_ | refine nl ?_ | refine ct_seq ?_ | refine rg ?_ | refine ct_block ?_ | refine bq ?_ | refine cv0 hb ?_ | refine o_add ?_ | refine o_cat ?_ | refine o_bin ?_ | refine o_extract ?_
    refine cndt ?_
    repeat first | refine o_copy ?_ | refine nl ?_ | refine ct_seq ?_ | refine rg ?_ | refine ct_block ?_ | refine bq ?_ | refine o_add ?_ | refine o_cat ?_ | refine o_bin ?_ | refine o_extract ?_
    exact ct_ret ⟨.inr rfl, oI rfl⟩
end Go.Proofs
