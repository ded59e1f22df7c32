/- Sd -/
import Derived.Test.YtloajdobgadplaaSa
import Derived.Test.YtloajdobgadplaaPu
import Derived.Test.YtloajdobgadplaaVD
open Go.V Go.Pu
set_option linter.unusedVariables false
set_option linter.unusedSimpArgs false
set_option maxRecDepth 20000
namespace Go.Proofs
/-- downspout/downspoutref02.Same -/
def vc29 : VCode :=
 (.seq
 (.region 0 false [
 ⟨(some 4), .copy (.c (.bool false)), none, 0, []⟩])
 (.seq
 (.seq
 (.region 1 false [
 ⟨(some 6), .copy (.t 0), none, 8192, []⟩,
 ⟨(some 7), .len (.t 6), none, 8200, [0]⟩,
 ⟨(some 8), .copy (.t 1), none, 8208, []⟩,
 ⟨(some 9), .len (.t 8), none, 8216, [2]⟩,
 ⟨(some 10), .bin .neq (.t 7) (.t 9), none, 8224, [1, 0, 3, 2]⟩])
 (.cond (.t 10)
 (.seq
 (.region 2 false [
 ⟨(some 4), .copy (.c (.bool false)), none, 16384, []⟩])
 .ret)
 .skip))
 (.seq
 (.seq
 (.region 3 false [
 ⟨(some 5), .copy (.c (.int .i64 0)), none, 24576, []⟩])
 (.block 0
 (.loop
 (.seq
 (.seq
 (.region 4 false [
 ⟨(some 11), .copy (.t 5), none, 32768, []⟩,
 ⟨(some 12), .copy (.t 0), none, 32776, []⟩,
 ⟨(some 13), .len (.t 12), none, 32784, [1]⟩,
 ⟨(some 14), .bin .lss (.t 11) (.t 13), none, 32792, [0, 2, 1]⟩])
 (.cond (.t 14)
 .skip
 (.exit 0)))
 (.seq
 (.block 1
 (.seq
 (.region 6 true [
 ⟨(some 17), .copy (.t 0), none, 49152, []⟩,
 ⟨(some 18), .copy (.t 5), none, 49160, []⟩,
 ⟨(some 19), .iaddr 2 (.t 17) (.t 18), none, 49168, [0, 1]⟩,
 ⟨(some 20), .load true 2 (.t 19), none, 49176, [2, 0, 1]⟩,
 ⟨(some 21), .copy (.t 1), none, 49184, []⟩,
 ⟨(some 22), .copy (.t 5), none, 49192, []⟩,
 ⟨(some 23), .iaddr 2 (.t 21) (.t 22), none, 49200, [4, 5]⟩,
 ⟨(some 24), .load true 2 (.t 23), none, 49208, [6, 4, 5]⟩,
 ⟨(some 25), .eqc true [2, 2] (.t 20) (.t 24), none, 49216, [3, 2, 0, 1, 7, 6, 4, 5]⟩])
 (.cond (.t 25)
 (.seq
 (.region 7 false [
 ⟨(some 4), .copy (.c (.bool false)), none, 57344, []⟩])
 .ret)
 .skip)))
 (.region 5 false [
 ⟨(some 15), .copy (.t 5), none, 40960, []⟩,
 ⟨(some 16), .bin .add (.t 15) (.c (.int .i64 1)), none, 40968, [0]⟩,
 ⟨(some 5), .copy (.t 16), none, 40976, [1, 0]⟩]))))))
 (.seq
 (.region 8 false [
 ⟨(some 4), .copy (.c (.bool true)), none, 65536, []⟩])
 .ret))))
theorem vf29 : VF Try.prog 29 = some (26, vc29, [.tmp 4]) := by kernel_rfl
/-- downspout/span.Parts -/
def vc30 : VCode :=
 (.seq
 (.region 0 false [
 ⟨(some 2), .box (.t 0), none, 0, []⟩,
 ⟨(some 4), .copy (.c .nils), none, 8, []⟩])
 (.seq
 (.region 1 false [
 ⟨(some 5), .copy (.c .nils), none, 8192, []⟩])
 (.seq
 (.region 2 false [
 ⟨(some 6), .copy (.c (.str [])), none, 16384, []⟩])
 (.seq
 (.seq
 (.region 3 false [
 ⟨(some 9), .copy (.t 1), none, 24576, []⟩,
 ⟨(some 10), .len (.t 9), none, 24584, [0]⟩,
 ⟨(some 11), .copy (.c (.int .i64 0)), none, 24592, []⟩])
 (.block 0
 (.loop
 (.seq
 (.region 4 false [
 ⟨(some 12), .bin .lss (.t 11) (.t 10), none, 32768, []⟩])
 (.seq
 (.cond (.t 12)
 .skip
 (.exit 0))
 (.seq
 (.block 1
 (.seq
 (.region 5 false [
 ⟨(some 13), .iaddr 1 (.t 9) (.t 11), none, 40960, []⟩,
 ⟨(some 14), .load false 1 (.t 13), none, 40968, [0]⟩,
 ⟨(some 8), .copy (.t 14), none, 40976, [1, 0]⟩])
 (.seq
 (.region 6 false [
 ⟨(some 15), .copy (.t 5), none, 49152, []⟩,
 ⟨(some 16), .load true 2 (.t 2), none, 49160, []⟩,
 ⟨(some 17), .copy (.t 6), none, 49168, []⟩,
 ⟨(some 18), .copy (.t 8), none, 49176, []⟩,
 ⟨(some 19), .build [(.str []), (.str [])] [(0, 1, (.t 17)), (1, 1, (.t 18))], none, 49184, [2, 3]⟩,
 ⟨(some 20), .call (.c (.fn 25 [])) [(.t 16), (.t 19)], none, 49192, [1, 4, 2, 3]⟩,
 ⟨(some 21), .bslice 2 [(.str []), (.str [])] 1 [(0, (.t 20))], none, 49200, [5, 1, 4, 2, 3]⟩,
 ⟨(some 22), .append 2 32 [(.str []), (.str [])] (.t 15) (.t 21), none, 49208, [0, 6, 5, 1, 4, 2, 3]⟩,
 ⟨(some 5), .copy (.t 22), none, 49216, [7, 0, 6, 5, 1, 4, 2, 3]⟩])
 (.region 7 false [
 ⟨(some 23), .copy (.t 8), none, 57344, []⟩,
 ⟨(some 6), .copy (.t 23), none, 57352, [0]⟩]))))
 (.region 8 false [
 ⟨(some 24), .bin .add (.t 11) (.c (.int .i64 1)), none, 65536, []⟩,
 ⟨(some 11), .copy (.t 24), none, 65544, [0]⟩])))))))
 (.seq
 (.region 9 false [
 ⟨(some 25), .copy (.t 5), none, 73728, []⟩,
 ⟨(some 26), .load true 2 (.t 2), none, 73736, []⟩,
 ⟨(some 27), .copy (.t 6), none, 73744, []⟩,
 ⟨(some 28), .build [(.str []), (.str [])] [(0, 1, (.t 27))], none, 73752, [2]⟩,
 ⟨(some 29), .call (.c (.fn 25 [])) [(.t 26), (.t 28)], none, 73760, [1, 3, 2]⟩,
 ⟨(some 30), .bslice 2 [(.str []), (.str [])] 1 [(0, (.t 29))], none, 73768, [4, 1, 3, 2]⟩,
 ⟨(some 31), .append 2 32 [(.str []), (.str [])] (.t 25) (.t 30), none, 73776, [0, 5, 4, 1, 3, 2]⟩,
 ⟨(some 4), .copy (.t 31), none, 73784, [6, 0, 5, 4, 1, 3, 2]⟩])
 .ret)))))
theorem vf30 : VF Try.prog 30 = some (32, vc30, [.tmp 4]) := by kernel_rfl
/-- downspout/downspoutref02.Parts -/
def vc31 : VCode :=
 (.seq
 (.region 0 false [
 ⟨(some 2), .box (.t 0), none, 0, []⟩,
 ⟨(some 4), .copy (.c .nils), none, 8, []⟩])
 (.seq
 (.region 1 false [
 ⟨(some 8), .bslice 2 [(.str []), (.str [])] 0 [], none, 8192, []⟩,
 ⟨(some 5), .copy (.t 8), none, 8200, [0]⟩,
 ⟨(some 6), .copy (.c (.str [])), none, 8208, [1, 0]⟩])
 (.seq
 (.seq
 (.region 2 false [
 ⟨(some 7), .copy (.c (.int .i64 0)), none, 16384, []⟩])
 (.block 0
 (.loop
 (.seq
 (.seq
 (.region 3 false [
 ⟨(some 9), .copy (.t 7), none, 24576, []⟩,
 ⟨(some 10), .copy (.t 1), none, 24584, []⟩,
 ⟨(some 11), .len (.t 10), none, 24592, [1]⟩,
 ⟨(some 12), .bin .lss (.t 9) (.t 11), none, 24600, [0, 2, 1]⟩])
 (.cond (.t 12)
 .skip
 (.exit 0)))
 (.seq
 (.block 1
 (.seq
 (.region 5 true [
 ⟨(some 15), .copy (.t 5), none, 40960, []⟩,
 ⟨(some 16), .load true 2 (.t 2), none, 40968, []⟩,
 ⟨(some 17), .copy (.t 6), none, 40976, []⟩,
 ⟨(some 18), .copy (.t 1), none, 40984, []⟩,
 ⟨(some 19), .copy (.t 7), none, 40992, []⟩,
 ⟨(some 20), .iaddr 1 (.t 18) (.t 19), none, 41000, [3, 4]⟩,
 ⟨(some 21), .load false 1 (.t 20), none, 41008, [5, 3, 4]⟩,
 ⟨(some 22), .build [(.str []), (.str [])] [(0, 1, (.t 17)), (1, 1, (.t 21))], none, 41016, [2, 6, 5, 3, 4]⟩,
 ⟨(some 23), .call (.c (.fn 26 [])) [(.t 16), (.t 22)], none, 41024, [1, 7, 2, 6, 5, 3, 4]⟩,
 ⟨(some 24), .bslice 2 [(.str []), (.str [])] 1 [(0, (.t 23))], none, 41032, [8, 1, 7, 2, 6, 5, 3, 4]⟩,
 ⟨(some 25), .append 2 32 [(.str []), (.str [])] (.t 15) (.t 24), none, 41040, [0, 9, 8, 1, 7, 2, 6, 5, 3, 4]⟩,
 ⟨(some 5), .copy (.t 25), none, 41048, [10, 0, 9, 8, 1, 7, 2, 6, 5, 3, 4]⟩])
 (.region 6 false [
 ⟨(some 26), .copy (.t 1), none, 49152, []⟩,
 ⟨(some 27), .copy (.t 7), none, 49160, []⟩,
 ⟨(some 28), .iaddr 1 (.t 26) (.t 27), none, 49168, [0, 1]⟩,
 ⟨(some 29), .load false 1 (.t 28), none, 49176, [2, 0, 1]⟩,
 ⟨(some 6), .copy (.t 29), none, 49184, [3, 2, 0, 1]⟩])))
 (.region 4 false [
 ⟨(some 13), .copy (.t 7), none, 32768, []⟩,
 ⟨(some 14), .bin .add (.t 13) (.c (.int .i64 1)), none, 32776, [0]⟩,
 ⟨(some 7), .copy (.t 14), none, 32784, [1, 0]⟩]))))))
 (.seq
 (.region 7 false [
 ⟨(some 30), .copy (.t 5), none, 57344, []⟩,
 ⟨(some 31), .load true 2 (.t 2), none, 57352, []⟩,
 ⟨(some 32), .copy (.t 6), none, 57360, []⟩,
 ⟨(some 33), .build [(.str []), (.str [])] [(0, 1, (.t 32))], none, 57368, [2]⟩,
 ⟨(some 34), .call (.c (.fn 26 [])) [(.t 31), (.t 33)], none, 57376, [1, 3, 2]⟩,
 ⟨(some 35), .bslice 2 [(.str []), (.str [])] 1 [(0, (.t 34))], none, 57384, [4, 1, 3, 2]⟩,
 ⟨(some 36), .append 2 32 [(.str []), (.str [])] (.t 30) (.t 35), none, 57392, [0, 5, 4, 1, 3, 2]⟩,
 ⟨(some 4), .copy (.t 36), none, 57400, [6, 0, 5, 4, 1, 3, 2]⟩])
 .ret))))
theorem vf31 : VF Try.prog 31 = some (37, vc31, [.tmp 4]) := by kernel_rfl
/-- downspout/downspoutref02.Pivots -/
def vc20 : VCode :=
 (.seq
 (.region 0 false [
 ⟨(some 2), .copy (.c .nils), none, 0, []⟩])
 (.seq
 (.region 1 false [
 ⟨(some 8), .bslice 1 [(.str [])] 0 [], none, 8192, []⟩,
 ⟨(some 3), .copy (.t 8), none, 8200, [0]⟩])
 (.seq
 (.seq
 (.region 2 false [
 ⟨(some 4), .copy (.c (.int .i64 0)), none, 16384, []⟩])
 (.block 0
 (.loop
 (.seq
 (.seq
 (.region 3 false [
 ⟨(some 9), .copy (.t 4), none, 24576, []⟩,
 ⟨(some 10), .copy (.t 0), none, 24584, []⟩,
 ⟨(some 11), .len (.t 10), none, 24592, [1]⟩,
 ⟨(some 12), .bin .lss (.t 9) (.t 11), none, 24600, [0, 2, 1]⟩])
 (.cond (.t 12)
 .skip
 (.exit 0)))
 (.seq
 (.block 1
 (.seq
 (.region 5 true [
 ⟨(some 15), .bslice 1 [(.str [])] 0 [], none, 40960, []⟩,
 ⟨(some 16), .copy (.t 0), none, 40968, []⟩,
 ⟨(some 17), .copy (.t 4), none, 40976, []⟩,
 ⟨(some 18), .iaddr 1 (.t 16) (.t 17), none, 40984, [1, 2]⟩,
 ⟨(some 19), .load false 1 (.t 18), none, 40992, [3, 1, 2]⟩,
 ⟨(some 20), .bin .eql (.t 19) (.c (.str [])), none, 41000, [4, 3, 1, 2]⟩,
 ⟨(some 5), .copy (.t 15), none, 41008, [0]⟩,
 ⟨(some 6), .copy (.t 20), none, 41016, [5, 4, 3, 1, 2, 6, 0]⟩])
 (.seq
 (.seq
 (.region 6 false [
 ⟨(some 7), .copy (.c (.int .i64 0)), none, 49152, []⟩])
 (.block 2
 (.loop
 (.seq
 (.seq
 (.region 7 false [
 ⟨(some 21), .copy (.t 7), none, 57344, []⟩,
 ⟨(some 22), .copy (.t 3), none, 57352, []⟩,
 ⟨(some 23), .len (.t 22), none, 57360, [1]⟩,
 ⟨(some 24), .bin .lss (.t 21) (.t 23), none, 57368, [0, 2, 1]⟩])
 (.cond (.t 24)
 .skip
 (.exit 2)))
 (.seq
 (.block 3
 (.seq
 (.seq
 (.region 9 true [
 ⟨(some 27), .copy (.t 6), none, 73728, []⟩,
 ⟨(some 28), .not (.t 27), none, 73736, [0]⟩,
 ⟨(some 29), .copy (.t 28), none, 73744, [1, 0]⟩,
 ⟨(some 30), .copy (.t 0), (some (2, 29, true)), 73752, [2, 1, 0]⟩,
 ⟨(some 31), .copy (.t 4), (some (2, 29, true)), 73760, [2, 1, 0]⟩,
 ⟨(some 32), .iaddr 1 (.t 30) (.t 31), (some (2, 29, true)), 73768, [3, 2, 1, 0, 4]⟩,
 ⟨(some 33), .load false 1 (.t 32), (some (2, 29, true)), 73776, [5, 3, 2, 1, 0, 4]⟩,
 ⟨(some 34), .copy (.t 3), (some (2, 29, true)), 73784, [2, 1, 0]⟩,
 ⟨(some 35), .copy (.t 7), (some (2, 29, true)), 73792, [2, 1, 0]⟩,
 ⟨(some 36), .iaddr 1 (.t 34) (.t 35), (some (2, 29, true)), 73800, [7, 2, 1, 0, 8]⟩,
 ⟨(some 37), .load false 1 (.t 36), (some (2, 29, true)), 73808, [9, 7, 2, 1, 0, 8]⟩,
 ⟨(some 38), .bin .leq (.t 33) (.t 37), (some (2, 29, true)), 73816, [6, 5, 3, 2, 1, 0, 4, 10, 9, 7, 8]⟩,
 ⟨(some 39), .pick (.t 29) (.t 38) (.c (.bool false)), none, 73824, [2, 1, 0, 11, 6, 5, 3, 4, 10, 9, 7, 8]⟩])
 (.cond (.t 39)
 (.seq
 (.seq
 (.region 10 true [
 ⟨(some 40), .copy (.t 0), none, 81920, []⟩,
 ⟨(some 41), .copy (.t 4), none, 81928, []⟩,
 ⟨(some 42), .iaddr 1 (.t 40) (.t 41), none, 81936, [0, 1]⟩,
 ⟨(some 43), .load false 1 (.t 42), none, 81944, [2, 0, 1]⟩,
 ⟨(some 44), .copy (.t 3), none, 81952, []⟩,
 ⟨(some 45), .copy (.t 7), none, 81960, []⟩,
 ⟨(some 46), .iaddr 1 (.t 44) (.t 45), none, 81968, [4, 5]⟩,
 ⟨(some 47), .load false 1 (.t 46), none, 81976, [6, 4, 5]⟩,
 ⟨(some 48), .bin .lss (.t 43) (.t 47), none, 81984, [3, 2, 0, 1, 7, 6, 4, 5]⟩])
 (.cond (.t 48)
 (.region 11 false [
 ⟨(some 49), .copy (.t 5), none, 90112, []⟩,
 ⟨(some 50), .copy (.t 0), none, 90120, []⟩,
 ⟨(some 51), .copy (.t 4), none, 90128, []⟩,
 ⟨(some 52), .iaddr 1 (.t 50) (.t 51), none, 90136, [1, 2]⟩,
 ⟨(some 53), .load false 1 (.t 52), none, 90144, [3, 1, 2]⟩,
 ⟨(some 54), .bslice 1 [(.str [])] 1 [(0, (.t 53))], none, 90152, [4, 3, 1, 2]⟩,
 ⟨(some 55), .append 1 16 [(.str [])] (.t 49) (.t 54), none, 90160, [0, 5, 4, 3, 1, 2]⟩,
 ⟨(some 5), .copy (.t 55), none, 90168, [6, 0, 5, 4, 3, 1, 2]⟩])
 .skip))
 (.region 12 false [
 ⟨(some 6), .copy (.c (.bool true)), none, 98304, []⟩]))
 .skip))
 (.region 13 false [
 ⟨(some 56), .copy (.t 5), none, 106496, []⟩,
 ⟨(some 57), .copy (.t 3), none, 106504, []⟩,
 ⟨(some 58), .copy (.t 7), none, 106512, []⟩,
 ⟨(some 59), .iaddr 1 (.t 57) (.t 58), none, 106520, [1, 2]⟩,
 ⟨(some 60), .load false 1 (.t 59), none, 106528, [3, 1, 2]⟩,
 ⟨(some 61), .bslice 1 [(.str [])] 1 [(0, (.t 60))], none, 106536, [4, 3, 1, 2]⟩,
 ⟨(some 62), .append 1 16 [(.str [])] (.t 56) (.t 61), none, 106544, [0, 5, 4, 3, 1, 2]⟩,
 ⟨(some 5), .copy (.t 62), none, 106552, [6, 0, 5, 4, 3, 1, 2]⟩])))
 (.region 8 false [
 ⟨(some 25), .copy (.t 7), none, 65536, []⟩,
 ⟨(some 26), .bin .add (.t 25) (.c (.int .i64 1)), none, 65544, [0]⟩,
 ⟨(some 7), .copy (.t 26), none, 65552, [1, 0]⟩]))))))
 (.seq
 (.seq
 (.region 14 false [
 ⟨(some 63), .copy (.t 6), none, 114688, []⟩,
 ⟨(some 64), .not (.t 63), none, 114696, [0]⟩])
 (.cond (.t 64)
 (.region 15 false [
 ⟨(some 65), .copy (.t 5), none, 122880, []⟩,
 ⟨(some 66), .copy (.t 0), none, 122888, []⟩,
 ⟨(some 67), .copy (.t 4), none, 122896, []⟩,
 ⟨(some 68), .iaddr 1 (.t 66) (.t 67), none, 122904, [1, 2]⟩,
 ⟨(some 69), .load false 1 (.t 68), none, 122912, [3, 1, 2]⟩,
 ⟨(some 70), .bslice 1 [(.str [])] 1 [(0, (.t 69))], none, 122920, [4, 3, 1, 2]⟩,
 ⟨(some 71), .append 1 16 [(.str [])] (.t 65) (.t 70), none, 122928, [0, 5, 4, 3, 1, 2]⟩,
 ⟨(some 5), .copy (.t 71), none, 122936, [6, 0, 5, 4, 3, 1, 2]⟩])
 .skip))
 (.region 16 false [
 ⟨(some 72), .copy (.t 5), none, 131072, []⟩,
 ⟨(some 3), .copy (.t 72), none, 131080, [0]⟩])))))
 (.region 4 false [
 ⟨(some 13), .copy (.t 4), none, 32768, []⟩,
 ⟨(some 14), .bin .add (.t 13) (.c (.int .i64 1)), none, 32776, [0]⟩,
 ⟨(some 4), .copy (.t 14), none, 32784, [1, 0]⟩]))))))
 (.seq
 (.region 17 false [
 ⟨(some 73), .copy (.t 3), none, 139264, []⟩,
 ⟨(some 2), .copy (.t 73), none, 139272, [0]⟩])
 .ret))))
theorem vf20 : VF Try.prog 20 = some (74, vc20, [.tmp 2]) := by kernel_rfl
/-! In, Same, Parts, Pivots, insert -/
theorem any_drop {α : Type} {f : α → Bool} {l : List α} {i : Nat} {x : α} (h : l[i]? = some x) : (l.drop i).any f = (f x || (l.drop (i + 1)).any f) := by
  rw [drop_get h, List.any_cons]
theorem in_vc {q : PV} {l : List SpanL} (k : Str) (hq : Sl q (l.map encS)) (hl : l.length ≤ maxLen) : VC Try.prog 38 [q, .str k] [] (.bool (inL l k)) [] := by
  refine vc_of vf38 ?_ (Nat.le_of_ble_eq_true rfl) (by intro vs h; cases h)
  unfold maxLen at hl
  repeat first | refine o_copy ?_ | refine nl ?_ | refine ct_seq ?_ | refine rg ?_ | refine ct_block ?_ | refine bq ?_ | refine o_iaddr ?_ | refine o_iaddrO ?_ | refine o_iaddrR ?_ | refine o_add ?_ | refine o_cat ?_ | refine o_bin ?_ | refine o_lenq ?_ | refine o_len ?_ | refine o_loadsA ?_ | refine o_loadpA ?_
  refine ct_loopG (fun (g : Nat) => [(0, q), (1, .str k), (5, .int .i64 g)]) (fun g => []) (fun g => l.length - g)
    (fun g => g ≤ l.length ∧ (l.drop g).any (fun s => hasL s k) = inL l k) 0 goes ⟨Nat.zero_le _, rfl⟩ ?_
  rintro i ⟨hi, hv⟩
  (try dsimp only)
  repeat first | refine o_copy ?_ | refine nl ?_ | refine ct_seq ?_ | refine rg ?_ | refine ct_block ?_ | refine bq ?_ | refine o_iaddr ?_ | refine o_iaddrO ?_ | refine o_iaddrR ?_ | refine o_add ?_ | refine o_cat ?_ | refine o_bin ?_ | refine o_lenq ?_ | refine o_len ?_ | refine o_loadsA ?_ | refine o_loadpA ?_
  refine cnd (fun h => ct_skip ?_) (fun h => ct_exit ?_)
  · have hlt : i < l.length := by have h' := of_decide_eq_true h; simp only [List.length_map] at h'; omega
    obtain ⟨x, hx⟩ : ∃ x, l[i]? = some x := ⟨_, List.getElem?_eq_getElem hlt⟩
    have hxe := gm (enc := encS) (n := (i : Int)) hx (by omega)
    rw [any_drop hx] at hv
    repeat first | refine o_copy ?_ | refine nl ?_ | refine ct_seq ?_ | refine rg ?_ | refine ct_block ?_ | refine bq ?_ | refine cv0 (rhas_vc x k) ?_ | refine o_iaddr ?_ | refine o_iaddrO ?_ | refine o_iaddrR ?_ | refine o_add ?_ | refine o_cat ?_ | refine o_bin ?_ | refine o_lenq ?_ | refine o_len ?_ | refine o_loadsA ?_ | refine o_loadpA ?_
    refine cnd (fun h2 => ?_) (fun h2 => ct_skip ?_)
    · repeat first | refine o_copy ?_ | refine nl ?_ | refine ct_seq ?_ | refine rg ?_ | refine ct_block ?_ | refine bq ?_ | refine o_iaddr ?_ | refine o_iaddrO ?_ | refine o_iaddrR ?_ | refine o_add ?_ | refine o_cat ?_ | refine o_bin ?_ | refine o_lenq ?_ | refine o_len ?_ | refine o_loadsA ?_ | refine o_loadpA ?_
      refine ct_ret ⟨.inr rfl, oB ?_⟩
      rw [← hv, h2]; rfl
    · repeat first | refine o_copy ?_ | refine nl ?_ | refine ct_seq ?_ | refine rg ?_ | refine ct_block ?_ | refine bq ?_ | refine o_iaddr ?_ | refine o_iaddrO ?_ | refine o_iaddrR ?_ | refine o_add ?_ | refine o_cat ?_ | refine o_bin ?_ | refine o_lenq ?_ | refine o_len ?_ | refine o_loadsA ?_ | refine o_loadpA ?_
      refine agn (i + 1) ⟨by omega, ?_⟩ goes
      rw [← hv, h2]; rfl
  · have hge : i = l.length := by have h' := of_decide_eq_false h; simp only [List.length_map] at h'; omega
    subst hge
    repeat first | refine o_copy ?_ | refine nl ?_ | refine ct_seq ?_ | refine rg ?_ | refine ct_block ?_ | refine bq ?_ | refine o_iaddr ?_ | refine o_iaddrO ?_ | refine o_iaddrR ?_ | refine o_add ?_ | refine o_cat ?_ | refine o_bin ?_ | refine o_lenq ?_ | refine o_len ?_ | refine o_loadsA ?_ | refine o_loadpA ?_
    refine ct_ret ⟨.inr rfl, oB ?_⟩
    rw [List.drop_length] at hv
    exact hv
theorem drop_ne {α : Type} {l m : List α} {i : Nat} {x y : α} (h : l[i]? = some x) (h2 : m[i]? = some y) (hn : x ≠ y) : l ≠ m := by
  intro e; subst e; rw [h] at h2; cases h2; exact hn rfl
theorem same_vc {q p : PV} {l m : List SpanL} (hq : Sl q (l.map encS)) (hp : Sl p (m.map encS)) (hl : l.length ≤ maxLen) (hm : m.length ≤ maxLen) : VC Try.prog 29 [q, p] [] (.bool (decide (l = m))) [] := by
  refine vc_of vf29 ?_ (Nat.le_of_ble_eq_true rfl) (by intro vs h; cases h)
  unfold maxLen at hl hm
  repeat first | refine o_copy ?_ | refine nl ?_ | refine ct_seq ?_ | refine rg ?_ | refine ct_block ?_ | refine bq ?_ | refine o_iaddr ?_ | refine o_iaddrO ?_ | refine o_iaddrR ?_ | refine o_add ?_ | refine o_cat ?_ | refine o_bin ?_ | refine o_lenq ?_ | refine o_len ?_ | refine o_loadsA ?_ | refine o_loadpA ?_ | refine o_eqc ?_
  refine cnd (fun h => ?_) (fun h => ct_skip ?_)
  · repeat first | refine o_copy ?_ | refine nl ?_ | refine ct_seq ?_ | refine rg ?_ | refine ct_block ?_ | refine bq ?_ | refine o_iaddr ?_ | refine o_iaddrO ?_ | refine o_iaddrR ?_ | refine o_add ?_ | refine o_cat ?_ | refine o_bin ?_ | refine o_lenq ?_ | refine o_len ?_ | refine o_loadsA ?_ | refine o_loadpA ?_ | refine o_eqc ?_
    refine ct_ret ⟨.inr rfl, oB ?_⟩
    have : l ≠ m := by
      intro e; subst e
      simp at h
    simp [this]
  · have hlm : l.length = m.length := by have h' : (l.length : Int) = m.length := by simpa using h
                                         omega
    repeat first | refine o_copy ?_ | refine nl ?_ | refine ct_seq ?_ | refine rg ?_ | refine ct_block ?_ | refine bq ?_ | refine o_iaddr ?_ | refine o_iaddrO ?_ | refine o_iaddrR ?_ | refine o_add ?_ | refine o_cat ?_ | refine o_bin ?_ | refine o_lenq ?_ | refine o_len ?_ | refine o_loadsA ?_ | refine o_loadpA ?_ | refine o_eqc ?_
    refine ct_loopG (fun (g : Nat) => [(0, q), (1, p), (5, .int .i64 g)]) (fun g => []) (fun g => l.length - g)
      (fun g => g ≤ l.length ∧ l.take g = m.take g) 0 goes ⟨Nat.zero_le _, rfl⟩ ?_
    rintro i ⟨hi, hv⟩
    (try dsimp only)
    repeat first | refine o_copy ?_ | refine nl ?_ | refine ct_seq ?_ | refine rg ?_ | refine ct_block ?_ | refine bq ?_ | refine o_iaddr ?_ | refine o_iaddrO ?_ | refine o_iaddrR ?_ | refine o_add ?_ | refine o_cat ?_ | refine o_bin ?_ | refine o_lenq ?_ | refine o_len ?_ | refine o_loadsA ?_ | refine o_loadpA ?_ | refine o_eqc ?_
    refine cnd (fun h => ct_skip ?_) (fun h => ct_exit ?_)
    · have hlt : i < l.length := by have h' := of_decide_eq_true h; simp only [List.length_map] at h'; omega
      obtain ⟨x, hx⟩ : ∃ x, l[i]? = some x := ⟨_, List.getElem?_eq_getElem hlt⟩
      obtain ⟨y, hy⟩ : ∃ x, m[i]? = some x := ⟨_, List.getElem?_eq_getElem (by omega)⟩
      have hxe := gm (enc := encS) (n := (i : Int)) hx (by omega)
      have hye := gm (enc := encS) (n := (i : Int)) hy (by omega)
      repeat first | refine o_copy ?_ | refine nl ?_ | refine ct_seq ?_ | refine rg ?_ | refine ct_block ?_ | refine bq ?_ | refine o_iaddr ?_ | refine o_iaddrO ?_ | refine o_iaddrR ?_ | refine o_add ?_ | refine o_cat ?_ | refine o_bin ?_ | refine o_lenq ?_ | refine o_len ?_ | refine o_loadsA ?_ | refine o_loadpA ?_ | refine o_eqc ?_
      refine cnd (fun h2 => ?_) (fun h2 => ct_skip ?_)
      · repeat first | refine o_copy ?_ | refine nl ?_ | refine ct_seq ?_ | refine rg ?_ | refine ct_block ?_ | refine bq ?_ | refine o_iaddr ?_ | refine o_iaddrO ?_ | refine o_iaddrR ?_ | refine o_add ?_ | refine o_cat ?_ | refine o_bin ?_ | refine o_lenq ?_ | refine o_len ?_ | refine o_loadsA ?_ | refine o_loadpA ?_ | refine o_eqc ?_
        refine ct_ret ⟨.inr rfl, oB ?_⟩
        have hne : l ≠ m := drop_ne hx hy (by intro e; subst e; simp at h2)
        simp [hne]
      · have hxy : x = y := by
          have h3 : x.lo = y.lo ∧ x.hi = y.hi := by simpa using h2
          cases x; cases y; simp at h3; obtain ⟨rfl, rfl⟩ := h3; rfl
        subst hxy
        repeat first | refine o_copy ?_ | refine nl ?_ | refine ct_seq ?_ | refine rg ?_ | refine ct_block ?_ | refine bq ?_ | refine o_iaddr ?_ | refine o_iaddrO ?_ | refine o_iaddrR ?_ | refine o_add ?_ | refine o_cat ?_ | refine o_bin ?_ | refine o_lenq ?_ | refine o_len ?_ | refine o_loadsA ?_ | refine o_loadpA ?_ | refine o_eqc ?_
        refine agn (i + 1) ⟨by omega, ?_⟩ goes
        rw [List.take_add_one, List.take_add_one, hv, hx, hy]
    · have hge : i = l.length := by have h' := of_decide_eq_false h; simp only [List.length_map] at h'; omega
      subst hge
      repeat first | refine o_copy ?_ | refine nl ?_ | refine ct_seq ?_ | refine rg ?_ | refine ct_block ?_ | refine bq ?_ | refine o_iaddr ?_ | refine o_iaddrO ?_ | refine o_iaddrR ?_ | refine o_add ?_ | refine o_cat ?_ | refine o_bin ?_ | refine o_lenq ?_ | refine o_len ?_ | refine o_loadsA ?_ | refine o_loadpA ?_ | refine o_eqc ?_
      refine ct_ret ⟨.inr rfl, oB ?_⟩
      rw [List.take_length, hlm, List.take_length] at hv
      simp [hv]

def partsL (s : SpanL) : Str → List Str → List SpanL
  | lo, [] => [meetL s ⟨lo, []⟩]
  | lo, p :: l => meetL s ⟨lo, p⟩ :: partsL s p l
theorem partsL_len (s : SpanL) : ∀ (lo : Str) (l : List Str), (partsL s lo l).length = l.length + 1
  | _, [] => rfl
  | _, p :: l => by rw [partsL, List.length_cons, partsL_len s p l, List.length_cons]
theorem parts_vc {q : PV} (s : SpanL) {l : List Str} (hq : Sl q (l.map encT)) (hl : l.length ≤ 1000000) : VC Try.prog 30 [.agg (encS s), q] [] (ownV ⟨0, 0⟩ ((partsL s [] l).map encS)) [blkV 2 ((partsL s [] l).map encS)] := by
  refine vc_of vf30 ?_ (Nat.le_of_ble_eq_true rfl) (by intro vs h; cases h)
  repeat first | refine o_copy ?_ | refine nl ?_ | refine ct_seq ?_ | refine rg ?_ | refine ct_block ?_ | refine bq ?_ | refine o_loads ?_ | refine o_loadp ?_ | refine o_iaddr ?_ | refine o_iaddrO ?_ | refine o_iaddrR ?_ | refine o_add ?_ | refine o_cat ?_ | refine o_bin ?_ | refine o_lenq ?_ | refine o_len ?_ | refine o_loadsA ?_ | refine o_loadpA ?_ | refine o_box ?_ | refine o_bslice ?_ | refine o_build ?_
  refine ct_loopG (fun (g : Nat × Str × List SpanL) => [(2, .ptr ⟨1, 0⟩ 1 0 0), (5, ownV ⟨1, 49208⟩ (g.2.2.map encS)), (6, .str g.2.1), (9, q), (10, .int .i64 (l.map encT).length), (11, .int .i64 g.1)])
    (fun g => [(⟨1, 0⟩, ⟨true, false, 2, [encS s]⟩), (⟨1, 49208⟩, blkV 2 (g.2.2.map encS))]) (fun g => l.length - g.1)
    (fun g => g.1 ≤ l.length ∧ g.2.2.length = g.1 ∧ g.2.2 ++ partsL s g.2.1 (l.drop g.1) = partsL s [] l) (0, [], []) ((Imp.nil (t := 5) (b := ⟨1, 49208⟩) (esz := 2) rfl rfl (by decide)).trans goes) ⟨Nat.zero_le _, rfl, rfl⟩ ?_
  rintro ⟨i, lo, out⟩ ⟨hi, ho, hv⟩
  dsimp only at hi ho hv ⊢
  repeat first | refine o_copy ?_ | refine nl ?_ | refine ct_seq ?_ | refine rg ?_ | refine ct_block ?_ | refine bq ?_ | refine o_loads ?_ | refine o_loadp ?_ | refine o_iaddr ?_ | refine o_iaddrO ?_ | refine o_iaddrR ?_ | refine o_add ?_ | refine o_cat ?_ | refine o_bin ?_ | refine o_lenq ?_ | refine o_len ?_ | refine o_loadsA ?_ | refine o_loadpA ?_ | refine o_box ?_ | refine o_bslice ?_ | refine o_build ?_
  refine cnd (fun h => ct_skip ?_) (fun h => ct_exit ?_)
  · have hlt : i < l.length := by have h' := of_decide_eq_true h; simp only [List.length_map] at h'; omega
    obtain ⟨x, hx⟩ : ∃ x, l[i]? = some x := ⟨_, List.getElem?_eq_getElem hlt⟩
    have hxe := gm (enc := encT) (n := (i : Int)) hx (by omega)
    rw [drop_get hx, partsL] at hv
    repeat first | refine o_copy ?_ | refine nl ?_ | refine ct_seq ?_ | refine rg ?_ | refine ct_block ?_ | refine bq ?_ | refine cv0 (meet_vc s ⟨lo, x⟩) ?_ | refine o_v (vap encS (meetL s ⟨lo, x⟩)) ?_ | refine o_loads ?_ | refine o_loadp ?_ | refine o_iaddr ?_ | refine o_iaddrO ?_ | refine o_iaddrR ?_ | refine o_add ?_ | refine o_cat ?_ | refine o_bin ?_ | refine o_lenq ?_ | refine o_len ?_ | refine o_loadsA ?_ | refine o_loadpA ?_ | refine o_box ?_ | refine o_bslice ?_ | refine o_build ?_
    refine agn (i + 1, x, out ++ [meetL s ⟨lo, x⟩]) ⟨by simp only; omega, by simp [ho], ?_⟩ goes
    rw [← hv]; simp
  · have hge : i = l.length := by have h' := of_decide_eq_false h; simp only [List.length_map] at h'; omega
    subst hge
    rw [List.drop_length, partsL] at hv
    repeat first | refine o_copy ?_ | refine nl ?_ | refine ct_seq ?_ | refine rg ?_ | refine ct_block ?_ | refine bq ?_ | refine cv0 (meet_vc s ⟨lo, []⟩) ?_ | refine o_v (vap encS (meetL s ⟨lo, []⟩)) ?_ | refine o_loads ?_ | refine o_loadp ?_ | refine o_iaddr ?_ | refine o_iaddrO ?_ | refine o_iaddrR ?_ | refine o_add ?_ | refine o_cat ?_ | refine o_bin ?_ | refine o_lenq ?_ | refine o_len ?_ | refine o_loadsA ?_ | refine o_loadpA ?_ | refine o_box ?_ | refine o_bslice ?_ | refine o_build ?_
    exact ct_ret ⟨.inr rfl, oOwn (congrArg (List.map encS) hv)⟩
theorem rparts_vc {q : PV} (s : SpanL) {l : List Str} (hq : Sl q (l.map encT)) (hl : l.length ≤ 1000000) : VC Try.prog 31 [.agg (encS s), q] [] (ownV ⟨0, 0⟩ ((partsL s [] l).map encS)) [blkV 2 ((partsL s [] l).map encS)] := by
  refine vc_of vf31 ?_ (Nat.le_of_ble_eq_true rfl) (by intro vs h; cases h)
  have hm : ∀ b, VC Try.prog 26 [.agg (encS s), .agg (encS b)] [] (.agg (encS (meetL s b))) [] := fun b => by rw [meet_ref]; exact rmeet_vc s b
  repeat first | refine o_copy ?_ | refine nl ?_ | refine ct_seq ?_ | refine rg ?_ | refine ct_block ?_ | refine bq ?_ | refine o_loads ?_ | refine o_loadp ?_ | refine o_iaddr ?_ | refine o_iaddrO ?_ | refine o_iaddrR ?_ | refine o_add ?_ | refine o_cat ?_ | refine o_bin ?_ | refine o_lenq ?_ | refine o_len ?_ | refine o_loadsA ?_ | refine o_loadpA ?_ | refine o_box ?_ | refine o_bslice ?_ | refine o_build ?_
  refine ct_loopG (fun (g : Nat × Str × List SpanL) => [(1, q), (2, .ptr ⟨1, 0⟩ 1 0 0), (5, ownV ⟨1, 8192⟩ (g.2.2.map encS)), (6, .str g.2.1), (7, .int .i64 g.1)])
    (fun g => [(⟨1, 0⟩, ⟨true, false, 2, [encS s]⟩), (⟨1, 8192⟩, blkV 2 (g.2.2.map encS))]) (fun g => l.length - g.1)
    (fun g => g.1 ≤ l.length ∧ g.2.2.length = g.1 ∧ g.2.2 ++ partsL s g.2.1 (l.drop g.1) = partsL s [] l) (0, [], []) goes ⟨Nat.zero_le _, rfl, rfl⟩ ?_
  rintro ⟨i, lo, out⟩ ⟨hi, ho, hv⟩
  dsimp only at hi ho hv ⊢
  repeat first | refine o_copy ?_ | refine nl ?_ | refine ct_seq ?_ | refine rg ?_ | refine ct_block ?_ | refine bq ?_ | refine o_loads ?_ | refine o_loadp ?_ | refine o_iaddr ?_ | refine o_iaddrO ?_ | refine o_iaddrR ?_ | refine o_add ?_ | refine o_cat ?_ | refine o_bin ?_ | refine o_lenq ?_ | refine o_len ?_ | refine o_loadsA ?_ | refine o_loadpA ?_ | refine o_box ?_ | refine o_bslice ?_ | refine o_build ?_
  refine cnd (fun h => ct_skip ?_) (fun h => ct_exit ?_)
  · have hlt : i < l.length := by have h' := of_decide_eq_true h; simp only [List.length_map] at h'; omega
    obtain ⟨x, hx⟩ : ∃ x, l[i]? = some x := ⟨_, List.getElem?_eq_getElem hlt⟩
    have hxe := gm (enc := encT) (n := (i : Int)) hx (by omega)
    rw [drop_get hx, partsL] at hv
    repeat first | refine o_copy ?_ | refine nl ?_ | refine ct_seq ?_ | refine rg ?_ | refine ct_block ?_ | refine bq ?_ | refine cv0 (hm ⟨lo, x⟩) ?_ | refine o_v (vap encS (meetL s ⟨lo, x⟩)) ?_ | refine o_loads ?_ | refine o_loadp ?_ | refine o_iaddr ?_ | refine o_iaddrO ?_ | refine o_iaddrR ?_ | refine o_add ?_ | refine o_cat ?_ | refine o_bin ?_ | refine o_lenq ?_ | refine o_len ?_ | refine o_loadsA ?_ | refine o_loadpA ?_ | refine o_box ?_ | refine o_bslice ?_ | refine o_build ?_
    refine agn (i + 1, x, out ++ [meetL s ⟨lo, x⟩]) ⟨by simp only; omega, by simp [ho], ?_⟩ goes
    rw [← hv]; simp
  · have hge : i = l.length := by have h' := of_decide_eq_false h; simp only [List.length_map] at h'; omega
    subst hge
    rw [List.drop_length, partsL] at hv
    repeat first | refine o_copy ?_ | refine nl ?_ | refine ct_seq ?_ | refine rg ?_ | refine ct_block ?_ | refine bq ?_ | refine cv0 (hm ⟨lo, []⟩) ?_ | refine o_v (vap encS (meetL s ⟨lo, []⟩)) ?_ | refine o_loads ?_ | refine o_loadp ?_ | refine o_iaddr ?_ | refine o_iaddrO ?_ | refine o_iaddrR ?_ | refine o_add ?_ | refine o_cat ?_ | refine o_bin ?_ | refine o_lenq ?_ | refine o_len ?_ | refine o_loadsA ?_ | refine o_loadpA ?_ | refine o_box ?_ | refine o_bslice ?_ | refine o_build ?_
    exact ct_ret ⟨.inr rfl, oOwn (congrArg (List.map encS) hv)⟩

/-- A pivot put in its place. -/
def pivInner (x : Str) : List Str → List Str → Bool → List Str × Bool
  | [], nx, d => (nx, d)
  | y :: l, nx, d =>
    if d = false ∧ (Op.bytesLess x y || x == y) = true then pivInner x l ((if Op.bytesLess x y = true then nx ++ [x] else nx) ++ [y]) true
    else pivInner x l (nx ++ [y]) d
def pivStep (out : List Str) (x : Str) : List Str :=
  let r := pivInner x out [] (x == [])
  if r.2 = false then r.1 ++ [x] else r.1
def pivL (l : List Str) : List Str := l.foldl pivStep []
theorem pivInner_len (x : Str) : ∀ (l nx : List Str) (d : Bool), (pivInner x l nx d).1.length ≤ nx.length + l.length + (if d = true then 0 else if (pivInner x l nx d).2 = true then 1 else 0)
  | [], nx, d => by simp [pivInner]
  | y :: l, nx, d => by
    unfold pivInner
    split
    · rename_i h
      have := pivInner_len x l ((if Op.bytesLess x y = true then nx ++ [x] else nx) ++ [y]) true
      have h2 : (pivInner x l ((if Op.bytesLess x y = true then nx ++ [x] else nx) ++ [y]) true).2 = true := by
        have key : ∀ (l nx : List Str), (pivInner x l nx true).2 = true := by
          intro l
          induction l with
          | nil => intro nx; rfl
          | cons z l ih => intro nx; unfold pivInner; rw [if_neg (by simp)]; exact ih _
        exact key _ _
      rw [h2, h.1]
      simp only [if_true, List.length_append, List.length_cons, List.length_nil] at this ⊢
      split at this <;> simp_all <;> omega
    · have := pivInner_len x l (nx ++ [y]) d
      simp only [List.length_append, List.length_cons, List.length_nil] at this ⊢
      omega
theorem pivStep_len (out : List Str) (x : Str) : (pivStep out x).length ≤ out.length + 1 := by
  have := pivInner_len x out [] (x == [])
  unfold pivStep
  generalize (x == []) = d0 at this
  generalize pivInner x out [] d0 = r at this
  obtain ⟨r1, r2⟩ := r
  simp only [List.length_nil] at this ⊢
  cases r2 <;> cases d0 <;> simp at this ⊢ <;> omega
theorem pivots_vc {q : PV} {l : List Str} (hq : Sl q (l.map encT)) (hl : l.length ≤ 1000000) : VC Try.prog 20 [q] [] (ownV ⟨0, 0⟩ ((pivL l).map encT)) [blkV 1 ((pivL l).map encT)] := by
  refine vc_of vf20 ?_ (Nat.le_of_ble_eq_true rfl) (by intro vs h; cases h)
  repeat first | refine o_copy ?_ | refine nl ?_ | refine ct_seq ?_ | refine rg ?_ | refine ct_block ?_ | refine bq ?_ | refine o_loads ?_ | refine o_loadp ?_ | refine o_iaddr ?_ | refine o_iaddrO ?_ | refine o_iaddrR ?_ | refine o_add ?_ | refine o_cat ?_ | refine o_bin ?_ | refine o_lenq ?_ | refine o_len ?_ | refine o_bslice ?_ | refine o_not ?_ | refine o_pickt ?_ | refine o_pickf ?_ | refine skF ?_ | refine skU ?_
  refine ct_loopG (fun (g : Nat × List Str) => [(0, q), (3, ownV ⟨1, 8192⟩ (g.2.map encT)), (4, .int .i64 g.1)]) (fun g => [(⟨1, 8192⟩, blkV 1 (g.2.map encT))]) (fun g => l.length - g.1)
    (fun g => g.1 ≤ l.length ∧ g.2.length ≤ g.1 ∧ (l.drop g.1).foldl pivStep g.2 = pivL l) (0, []) goes ⟨Nat.zero_le _, Nat.le_refl _, rfl⟩ ?_
  rintro ⟨i, out⟩ ⟨hi, ho, hv⟩
  dsimp only at hi ho hv ⊢
  repeat first | refine o_copy ?_ | refine nl ?_ | refine ct_seq ?_ | refine rg ?_ | refine ct_block ?_ | refine bq ?_ | refine o_loads ?_ | refine o_loadp ?_ | refine o_iaddr ?_ | refine o_iaddrO ?_ | refine o_iaddrR ?_ | refine o_add ?_ | refine o_cat ?_ | refine o_bin ?_ | refine o_lenq ?_ | refine o_len ?_ | refine o_bslice ?_ | refine o_not ?_ | refine o_pickt ?_ | refine o_pickf ?_ | refine skF ?_ | refine skU ?_
  refine cnd (fun h => ct_skip ?_) (fun h => ct_exit ?_)
  · have hlt : i < l.length := by have h' := of_decide_eq_true h; simp only [List.length_map] at h'; omega
    obtain ⟨x, hx⟩ : ∃ x, l[i]? = some x := ⟨_, List.getElem?_eq_getElem hlt⟩
    have hxe := gm (enc := encT) (n := (i : Int)) hx (by omega)
    rw [drop_get hx, List.foldl_cons] at hv
    have hps := pivStep_len out x
    repeat first | refine o_copy ?_ | refine nl ?_ | refine ct_seq ?_ | refine rg ?_ | refine ct_block ?_ | refine bq ?_ | refine o_loads ?_ | refine o_loadp ?_ | refine o_iaddr ?_ | refine o_iaddrO ?_ | refine o_iaddrR ?_ | refine o_add ?_ | refine o_cat ?_ | refine o_bin ?_ | refine o_lenq ?_ | refine o_len ?_ | refine o_bslice ?_ | refine o_not ?_ | refine o_pickt ?_ | refine o_pickf ?_ | refine skF ?_ | refine skU ?_
    refine ct_loopG (fun (g : Nat × List Str × Bool) => [(0, q), (3, ownV ⟨1, 8192⟩ (out.map encT)), (4, .int .i64 i), (5, ownV ⟨1, 40960⟩ (g.2.1.map encT)), (6, .bool g.2.2), (7, .int .i64 g.1)])
      (fun g => [(⟨1, 8192⟩, blkV 1 (out.map encT)), (⟨1, 40960⟩, blkV 1 (g.2.1.map encT))]) (fun g => out.length - g.1)
      (fun g => g.1 ≤ out.length ∧ g.2.1.length ≤ 2 * g.1 ∧ pivInner x (out.drop g.1) g.2.1 g.2.2 = pivInner x out [] (x == [])) (0, [], x == []) goes ⟨Nat.zero_le _, Nat.le_refl _, rfl⟩ ?_
    rintro ⟨k, nx, d⟩ ⟨hk, hn, hw⟩
    dsimp only at hk hn hw ⊢
    repeat first | refine o_copy ?_ | refine nl ?_ | refine ct_seq ?_ | refine rg ?_ | refine ct_block ?_ | refine bq ?_ | refine o_loads ?_ | refine o_loadp ?_ | refine o_iaddr ?_ | refine o_iaddrO ?_ | refine o_iaddrR ?_ | refine o_add ?_ | refine o_cat ?_ | refine o_bin ?_ | refine o_lenq ?_ | refine o_len ?_ | refine o_bslice ?_ | refine o_not ?_ | refine o_pickt ?_ | refine o_pickf ?_ | refine skF ?_ | refine skU ?_
    refine cnd (fun h2 => ct_skip ?_) (fun h2 => ct_exit ?_)
    · have hlt2 : k < out.length := by have h' := of_decide_eq_true h2; simp only [List.length_map] at h'; omega
      obtain ⟨y, hy⟩ : ∃ y, out[k]? = some y := ⟨_, List.getElem?_eq_getElem hlt2⟩
      have hye := gm (enc := encT) (n := (k : Int)) hy (by omega)
      have hye2 : (blkV 1 (out.map encT)).els[0 + (k : Int).toNat]? = some (encT y) := by rw [Nat.zero_add]; exact hye
      rw [drop_get hy, pivInner] at hw
      cases d with
      | true =>
        repeat first | refine o_copy ?_ | refine nl ?_ | refine ct_seq ?_ | refine rg ?_ | refine ct_block ?_ | refine bq ?_ | refine o_loads ?_ | refine o_loadp ?_ | refine o_iaddr ?_ | refine o_iaddrO ?_ | refine o_iaddrR ?_ | refine o_add ?_ | refine o_cat ?_ | refine o_bin ?_ | refine o_lenq ?_ | refine o_len ?_ | refine o_bslice ?_ | refine o_not ?_ | refine o_pickt ?_ | refine o_pickf ?_ | refine skF ?_ | refine skU ?_
        refine cndf (ct_skip ?_)
        repeat first | refine o_copy ?_ | refine nl ?_ | refine ct_seq ?_ | refine rg ?_ | refine ct_block ?_ | refine bq ?_ | refine o_iaddrG ?_ | refine o_v (vap encT y) ?_ | refine o_loads ?_ | refine o_loadp ?_ | refine o_iaddr ?_ | refine o_iaddrO ?_ | refine o_iaddrR ?_ | refine o_add ?_ | refine o_cat ?_ | refine o_bin ?_ | refine o_lenq ?_ | refine o_len ?_ | refine o_bslice ?_ | refine o_not ?_ | refine o_pickt ?_ | refine o_pickf ?_ | refine skF ?_ | refine skU ?_
        refine agn (k + 1, nx ++ [y], true) ⟨by simp only; omega, by simp only [List.length_append, List.length_cons, List.length_nil]; omega, ?_⟩ goes
        rw [if_neg (by simp)] at hw
        exact hw
      | false =>
        repeat first | refine o_copy ?_ | refine nl ?_ | refine ct_seq ?_ | refine rg ?_ | refine ct_block ?_ | refine bq ?_ | refine o_iaddrG ?_ | refine o_loads ?_ | refine o_loadp ?_ | refine o_iaddr ?_ | refine o_iaddrO ?_ | refine o_iaddrR ?_ | refine o_add ?_ | refine o_cat ?_ | refine o_bin ?_ | refine o_lenq ?_ | refine o_len ?_ | refine o_bslice ?_ | refine o_not ?_ | refine o_pickt ?_ | refine o_pickf ?_ | refine skF ?_ | refine skU ?_
        refine cnd (fun h3 => ?_) (fun h3 => ct_skip ?_)
        · repeat first | refine o_copy ?_ | refine nl ?_ | refine ct_seq ?_ | refine rg ?_ | refine ct_block ?_ | refine bq ?_ | refine o_iaddrG ?_ | refine o_loads ?_ | refine o_loadp ?_ | refine o_iaddr ?_ | refine o_iaddrO ?_ | refine o_iaddrR ?_ | refine o_add ?_ | refine o_cat ?_ | refine o_bin ?_ | refine o_lenq ?_ | refine o_len ?_ | refine o_bslice ?_ | refine o_not ?_ | refine o_pickt ?_ | refine o_pickf ?_ | refine skF ?_ | refine skU ?_
          refine cnd (fun h4 => ?_) (fun h4 => ct_skip ?_)
          · repeat first | refine o_copy ?_ | refine nl ?_ | refine ct_seq ?_ | refine rg ?_ | refine ct_block ?_ | refine bq ?_ | refine o_iaddrG ?_ | refine o_v (vap encT x) ?_ | refine o_v (vap encT y) ?_ | refine o_loads ?_ | refine o_loadp ?_ | refine o_iaddr ?_ | refine o_iaddrO ?_ | refine o_iaddrR ?_ | refine o_add ?_ | refine o_cat ?_ | refine o_bin ?_ | refine o_lenq ?_ | refine o_len ?_ | refine o_bslice ?_ | refine o_not ?_ | refine o_pickt ?_ | refine o_pickf ?_ | refine skF ?_ | refine skU ?_
            refine agn (k + 1, nx ++ [x] ++ [y], true) ⟨by simp only; omega, by simp only [List.length_append, List.length_cons, List.length_nil]; omega, ?_⟩ goes
            rw [if_pos ⟨rfl, h3⟩, if_pos h4] at hw
            exact hw
          · repeat first | refine o_copy ?_ | refine nl ?_ | refine ct_seq ?_ | refine rg ?_ | refine ct_block ?_ | refine bq ?_ | refine o_iaddrG ?_ | refine o_v (vap encT y) ?_ | refine o_loads ?_ | refine o_loadp ?_ | refine o_iaddr ?_ | refine o_iaddrO ?_ | refine o_iaddrR ?_ | refine o_add ?_ | refine o_cat ?_ | refine o_bin ?_ | refine o_lenq ?_ | refine o_len ?_ | refine o_bslice ?_ | refine o_not ?_ | refine o_pickt ?_ | refine o_pickf ?_ | refine skF ?_ | refine skU ?_
            refine agn (k + 1, nx ++ [y], true) ⟨by simp only; omega, by simp only [List.length_append, List.length_cons, List.length_nil]; omega, ?_⟩ goes
            rw [if_pos ⟨rfl, h3⟩, if_neg (by simp [h4])] at hw
            exact hw
        · repeat first | refine o_copy ?_ | refine nl ?_ | refine ct_seq ?_ | refine rg ?_ | refine ct_block ?_ | refine bq ?_ | refine o_iaddrG ?_ | refine o_v (vap encT y) ?_ | refine o_loads ?_ | refine o_loadp ?_ | refine o_iaddr ?_ | refine o_iaddrO ?_ | refine o_iaddrR ?_ | refine o_add ?_ | refine o_cat ?_ | refine o_bin ?_ | refine o_lenq ?_ | refine o_len ?_ | refine o_bslice ?_ | refine o_not ?_ | refine o_pickt ?_ | refine o_pickf ?_ | refine skF ?_ | refine skU ?_
          refine agn (k + 1, nx ++ [y], false) ⟨by simp only; omega, by simp only [List.length_append, List.length_cons, List.length_nil]; omega, ?_⟩ goes
          rw [if_neg (by simp [h3])] at hw
          exact hw
    · have hge : k = out.length := by have h' := of_decide_eq_false h2; simp only [List.length_map] at h'; omega
      subst hge
      rw [List.drop_length, pivInner] at hw
      repeat first | refine o_copy ?_ | refine nl ?_ | refine ct_seq ?_ | refine rg ?_ | refine ct_block ?_ | refine bq ?_ | refine o_loads ?_ | refine o_loadp ?_ | refine o_iaddr ?_ | refine o_iaddrO ?_ | refine o_iaddrR ?_ | refine o_add ?_ | refine o_cat ?_ | refine o_bin ?_ | refine o_lenq ?_ | refine o_len ?_ | refine o_bslice ?_ | refine o_not ?_ | refine o_pickt ?_ | refine o_pickf ?_ | refine skF ?_ | refine skU ?_
      refine cnd (fun h3 => ?_) (fun h3 => ct_skip ?_)
      · have hd : d = false := by simpa using h3
        subst hd
        have hstep : pivStep out x = nx ++ [x] := by unfold pivStep; simp only [← hw, if_true]
        rw [hstep] at hv hps
        repeat first | refine o_copy ?_ | refine nl ?_ | refine ct_seq ?_ | refine rg ?_ | refine ct_block ?_ | refine bq ?_ | refine o_v (vap encT x) ?_ | refine o_loads ?_ | refine o_loadp ?_ | refine o_iaddr ?_ | refine o_iaddrO ?_ | refine o_iaddrR ?_ | refine o_add ?_ | refine o_cat ?_ | refine o_bin ?_ | refine o_lenq ?_ | refine o_len ?_ | refine o_bslice ?_ | refine o_not ?_ | refine o_pickt ?_ | refine o_pickf ?_ | refine skF ?_ | refine skU ?_
        exact agn (i + 1, nx ++ [x]) ⟨by simp only; omega, by simp only; omega, hv⟩ (goesR ⟨1, 40960⟩ ⟨1, 8192⟩)
      · have hd : d = true := by simpa using h3
        subst hd
        have hstep : pivStep out x = nx := by unfold pivStep; simp only [← hw]; rfl
        rw [hstep] at hv hps
        repeat first | refine o_copy ?_ | refine nl ?_ | refine ct_seq ?_ | refine rg ?_ | refine ct_block ?_ | refine bq ?_ | refine o_loads ?_ | refine o_loadp ?_ | refine o_iaddr ?_ | refine o_iaddrO ?_ | refine o_iaddrR ?_ | refine o_add ?_ | refine o_cat ?_ | refine o_bin ?_ | refine o_lenq ?_ | refine o_len ?_ | refine o_bslice ?_ | refine o_not ?_ | refine o_pickt ?_ | refine o_pickf ?_ | refine skF ?_ | refine skU ?_
        exact agn (i + 1, nx) ⟨by simp only; omega, by simp only; omega, hv⟩ (goesR ⟨1, 40960⟩ ⟨1, 8192⟩)
  · have hge : i = l.length := by have h' := of_decide_eq_false h; simp only [List.length_map] at h'; omega
    subst hge
    rw [List.drop_length] at hv
    repeat first | refine o_copy ?_ | refine nl ?_ | refine ct_seq ?_ | refine rg ?_ | refine ct_block ?_ | refine bq ?_ | refine o_loads ?_ | refine o_loadp ?_ | refine o_iaddr ?_ | refine o_iaddrO ?_ | refine o_iaddrR ?_ | refine o_add ?_ | refine o_cat ?_ | refine o_bin ?_ | refine o_lenq ?_ | refine o_len ?_ | refine o_bslice ?_ | refine o_not ?_ | refine o_pickt ?_ | refine o_pickf ?_ | refine skF ?_ | refine skU ?_
    exact ct_ret ⟨.inr rfl, oOwn (congrArg (List.map encT) hv)⟩
end Go.Proofs
open Go.V Go.Pu
set_option linter.unusedVariables false
set_option linter.unusedSimpArgs false
set_option maxRecDepth 20000
namespace Go.Proofs
/-- downspout/downspoutref02.insert -/
def vc49 : VCode :=
 (.seq
 (.region 0 false [
 ⟨(some 3), .box (.t 1), none, 0, []⟩,
 ⟨(some 4), .copy (.c .nils), none, 8, []⟩])
 (.seq
 (.region 1 false [
 ⟨(some 8), .bslice 2 [(.str []), (.str [])] 0 [], none, 8192, []⟩,
 ⟨(some 9), .load true 2 (.t 3), none, 8200, []⟩,
 ⟨(some 10), .call (.c (.fn 24 [])) [(.t 9)], none, 8208, [1]⟩,
 ⟨(some 5), .copy (.t 8), none, 8216, [0, 2, 1]⟩,
 ⟨(some 6), .copy (.t 10), none, 8224, [2, 1, 3, 0]⟩])
 (.seq
 (.seq
 (.region 2 false [
 ⟨(some 7), .copy (.c (.int .i64 0)), none, 16384, []⟩])
 (.block 0
 (.loop
 (.seq
 (.seq
 (.region 3 false [
 ⟨(some 11), .copy (.t 7), none, 24576, []⟩,
 ⟨(some 12), .copy (.t 0), none, 24584, []⟩,
 ⟨(some 13), .len (.t 12), none, 24592, [1]⟩,
 ⟨(some 14), .bin .lss (.t 11) (.t 13), none, 24600, [0, 2, 1]⟩])
 (.cond (.t 14)
 .skip
 (.exit 0)))
 (.seq
 (.block 1
 (.seq
 (.seq
 (.region 5 true [
 ⟨(some 17), .copy (.t 6), none, 40960, []⟩,
 ⟨(some 18), .not (.t 17), none, 40968, [0]⟩,
 ⟨(some 19), .copy (.t 18), none, 40976, [1, 0]⟩,
 ⟨(some 20), .faddr 0 (.t 3), (some (2, 19, true)), 40984, [2, 1, 0]⟩,
 ⟨(some 21), .load false 1 (.t 20), (some (2, 19, true)), 40992, [3, 2, 1, 0]⟩,
 ⟨(some 22), .copy (.t 0), (some (2, 19, true)), 41000, [2, 1, 0]⟩,
 ⟨(some 23), .copy (.t 7), (some (2, 19, true)), 41008, [2, 1, 0]⟩,
 ⟨(some 24), .iaddr 2 (.t 22) (.t 23), (some (2, 19, true)), 41016, [5, 2, 1, 0, 6]⟩,
 ⟨(some 25), .faddr 0 (.t 24), (some (2, 19, true)), 41024, [7, 5, 2, 1, 0, 6]⟩,
 ⟨(some 26), .load false 1 (.t 25), (some (2, 19, true)), 41032, [8, 7, 5, 2, 1, 0, 6]⟩,
 ⟨(some 27), .bin .lss (.t 21) (.t 26), (some (2, 19, true)), 41040, [4, 3, 2, 1, 0, 9, 8, 7, 5, 6]⟩,
 ⟨(some 28), .pick (.t 19) (.t 27) (.c (.bool false)), none, 41048, [2, 1, 0, 10, 4, 3, 9, 8, 7, 5, 6]⟩])
 (.cond (.t 28)
 (.region 6 false [
 ⟨(some 29), .copy (.t 5), none, 49152, []⟩,
 ⟨(some 30), .load true 2 (.t 3), none, 49160, []⟩,
 ⟨(some 31), .bslice 2 [(.str []), (.str [])] 1 [(0, (.t 30))], none, 49168, [1]⟩,
 ⟨(some 32), .append 2 32 [(.str []), (.str [])] (.t 29) (.t 31), none, 49176, [0, 2, 1]⟩,
 ⟨(some 5), .copy (.t 32), none, 49184, [3, 0, 2, 1]⟩,
 ⟨(some 6), .copy (.c (.bool true)), none, 49192, [4, 3, 0, 2, 1]⟩])
 .skip))
 (.region 7 false [
 ⟨(some 33), .copy (.t 5), none, 57344, []⟩,
 ⟨(some 34), .copy (.t 0), none, 57352, []⟩,
 ⟨(some 35), .copy (.t 7), none, 57360, []⟩,
 ⟨(some 36), .iaddr 2 (.t 34) (.t 35), none, 57368, [1, 2]⟩,
 ⟨(some 37), .load true 2 (.t 36), none, 57376, [3, 1, 2]⟩,
 ⟨(some 38), .bslice 2 [(.str []), (.str [])] 1 [(0, (.t 37))], none, 57384, [4, 3, 1, 2]⟩,
 ⟨(some 39), .append 2 32 [(.str []), (.str [])] (.t 33) (.t 38), none, 57392, [0, 5, 4, 3, 1, 2]⟩,
 ⟨(some 5), .copy (.t 39), none, 57400, [6, 0, 5, 4, 3, 1, 2]⟩])))
 (.region 4 false [
 ⟨(some 15), .copy (.t 7), none, 32768, []⟩,
 ⟨(some 16), .bin .add (.t 15) (.c (.int .i64 1)), none, 32776, [0]⟩,
 ⟨(some 7), .copy (.t 16), none, 32784, [1, 0]⟩]))))))
 (.seq
 (.seq
 (.region 8 false [
 ⟨(some 40), .copy (.t 6), none, 65536, []⟩,
 ⟨(some 41), .not (.t 40), none, 65544, [0]⟩])
 (.cond (.t 41)
 (.region 9 false [
 ⟨(some 42), .copy (.t 5), none, 73728, []⟩,
 ⟨(some 43), .load true 2 (.t 3), none, 73736, []⟩,
 ⟨(some 44), .bslice 2 [(.str []), (.str [])] 1 [(0, (.t 43))], none, 73744, [1]⟩,
 ⟨(some 45), .append 2 32 [(.str []), (.str [])] (.t 42) (.t 44), none, 73752, [0, 2, 1]⟩,
 ⟨(some 5), .copy (.t 45), none, 73760, [3, 0, 2, 1]⟩])
 .skip))
 (.seq
 (.region 10 false [
 ⟨(some 46), .copy (.t 5), none, 81920, []⟩,
 ⟨(some 4), .copy (.t 46), none, 81928, [0]⟩])
 .ret)))))
theorem vf49 : VF Try.prog 49 = some (47, vc49, [.tmp 4]) := by kernel_rfl
/-- downspout/downspoutref02.Norm -/
def vc33 : VCode :=
 (.seq
 (.region 0 false [
 ⟨(some 2), .copy (.c .nils), none, 0, []⟩])
 (.seq
 (.region 1 false [
 ⟨(some 8), .bslice 2 [(.str []), (.str [])] 0 [], none, 8192, []⟩,
 ⟨(some 9), .bslice 2 [(.str []), (.str [])] 0 [], none, 8200, []⟩,
 ⟨(some 3), .copy (.t 8), none, 8208, [0]⟩,
 ⟨(some 4), .copy (.t 9), none, 8216, [1, 2, 0]⟩])
 (.seq
 (.seq
 (.region 2 false [
 ⟨(some 5), .copy (.c (.int .i64 0)), none, 16384, []⟩])
 (.block 0
 (.loop
 (.seq
 (.seq
 (.region 3 false [
 ⟨(some 10), .copy (.t 5), none, 24576, []⟩,
 ⟨(some 11), .copy (.t 0), none, 24584, []⟩,
 ⟨(some 12), .len (.t 11), none, 24592, [1]⟩,
 ⟨(some 13), .bin .lss (.t 10) (.t 12), none, 24600, [0, 2, 1]⟩])
 (.cond (.t 13)
 .skip
 (.exit 0)))
 (.seq
 (.block 1
 (.region 5 false [
 ⟨(some 16), .copy (.t 3), none, 40960, []⟩,
 ⟨(some 17), .copy (.t 0), none, 40968, []⟩,
 ⟨(some 18), .copy (.t 5), none, 40976, []⟩,
 ⟨(some 19), .iaddr 2 (.t 17) (.t 18), none, 40984, [1, 2]⟩,
 ⟨(some 20), .load true 2 (.t 19), none, 40992, [3, 1, 2]⟩,
 ⟨(some 21), .call (.c (.fn 49 [])) [(.t 16), (.t 20)], none, 41000, [0, 4, 3, 1, 2]⟩,
 ⟨(some 3), .copy (.t 21), none, 41008, [5, 0, 4, 3, 1, 2]⟩]))
 (.region 4 false [
 ⟨(some 14), .copy (.t 5), none, 32768, []⟩,
 ⟨(some 15), .bin .add (.t 14) (.c (.int .i64 1)), none, 32776, [0]⟩,
 ⟨(some 5), .copy (.t 15), none, 32784, [1, 0]⟩]))))))
 (.seq
 (.seq
 (.region 6 false [
 ⟨(some 6), .copy (.c (.int .i64 0)), none, 49152, []⟩])
 (.block 2
 (.loop
 (.seq
 (.seq
 (.region 7 false [
 ⟨(some 22), .copy (.t 6), none, 57344, []⟩,
 ⟨(some 23), .copy (.t 3), none, 57352, []⟩,
 ⟨(some 24), .len (.t 23), none, 57360, [1]⟩,
 ⟨(some 25), .bin .lss (.t 22) (.t 24), none, 57368, [0, 2, 1]⟩])
 (.cond (.t 25)
 .skip
 (.exit 2)))
 (.seq
 (.block 3
 (.seq
 (.region 9 false [
 ⟨(some 28), .copy (.t 4), none, 73728, []⟩,
 ⟨(some 29), .len (.t 28), none, 73736, [0]⟩,
 ⟨(some 30), .bin .sub (.t 29) (.c (.int .i64 1)), none, 73744, [1, 0]⟩,
 ⟨(some 7), .copy (.t 30), none, 73752, [2, 1, 0]⟩])
 (.seq
 (.region 10 true [
 ⟨(some 31), .copy (.t 7), none, 81920, []⟩,
 ⟨(some 32), .bin .lss (.t 31) (.c (.int .i64 0)), none, 81928, [0]⟩,
 ⟨(some 33), .copy (.t 32), none, 81936, [1, 0]⟩,
 ⟨(some 34), .copy (.t 4), (some (2, 33, false)), 81944, [2, 1, 0]⟩,
 ⟨(some 35), .copy (.t 7), (some (2, 33, false)), 81952, [2, 1, 0]⟩,
 ⟨(some 36), .iaddr 2 (.t 34) (.t 35), (some (2, 33, false)), 81960, [3, 2, 1, 0, 4]⟩,
 ⟨(some 37), .faddr 1 (.t 36), (some (2, 33, false)), 81968, [5, 3, 2, 1, 0, 4]⟩,
 ⟨(some 38), .load false 1 (.t 37), (some (2, 33, false)), 81976, [6, 5, 3, 2, 1, 0, 4]⟩,
 ⟨(some 39), .bin .neq (.t 38) (.c (.str [])), (some (2, 33, false)), 81984, [7, 6, 5, 3, 2, 1, 0, 4]⟩,
 ⟨(some 40), .copy (.t 39), (some (2, 33, false)), 81992, [8, 7, 6, 5, 3, 2, 1, 0, 4]⟩,
 ⟨(some 41), .copy (.t 4), (some (9, 40, true)), 82000, [9, 8, 7, 6, 5, 3, 2, 1, 0, 4]⟩,
 ⟨(some 42), .copy (.t 7), (some (9, 40, true)), 82008, [9, 8, 7, 6, 5, 3, 2, 1, 0, 4]⟩,
 ⟨(some 43), .iaddr 2 (.t 41) (.t 42), (some (9, 40, true)), 82016, [10, 9, 8, 7, 6, 5, 3, 2, 1, 0, 4, 11]⟩,
 ⟨(some 44), .faddr 1 (.t 43), (some (9, 40, true)), 82024, [12, 10, 9, 8, 7, 6, 5, 3, 2, 1, 0, 4, 11]⟩,
 ⟨(some 45), .load false 1 (.t 44), (some (9, 40, true)), 82032, [13, 12, 10, 9, 8, 7, 6, 5, 3, 2, 1, 0, 4, 11]⟩,
 ⟨(some 46), .copy (.t 3), (some (9, 40, true)), 82040, [9, 8, 7, 6, 5, 3, 2, 1, 0, 4]⟩,
 ⟨(some 47), .copy (.t 6), (some (9, 40, true)), 82048, [9, 8, 7, 6, 5, 3, 2, 1, 0, 4]⟩,
 ⟨(some 48), .iaddr 2 (.t 46) (.t 47), (some (9, 40, true)), 82056, [15, 9, 8, 7, 6, 5, 3, 2, 1, 0, 4, 16]⟩,
 ⟨(some 49), .faddr 0 (.t 48), (some (9, 40, true)), 82064, [17, 15, 9, 8, 7, 6, 5, 3, 2, 1, 0, 4, 16]⟩,
 ⟨(some 50), .load false 1 (.t 49), (some (9, 40, true)), 82072, [18, 17, 15, 9, 8, 7, 6, 5, 3, 2, 1, 0, 4, 16]⟩,
 ⟨(some 51), .bin .lss (.t 45) (.t 50), (some (9, 40, true)), 82080, [14, 13, 12, 10, 9, 8, 7, 6, 5, 3, 2, 1, 0, 4, 11, 19, 18, 17, 15, 16]⟩,
 ⟨(some 52), .pick (.t 40) (.t 51) (.c (.bool false)), (some (2, 33, false)), 82088, [9, 8, 7, 6, 5, 3, 2, 1, 0, 4, 20, 14, 13, 12, 10, 11, 19, 18, 17, 15, 16]⟩,
 ⟨(some 53), .pick (.t 33) (.c (.bool true)) (.t 52), none, 82096, [2, 1, 0, 21, 9, 8, 7, 6, 5, 3, 4, 20, 14, 13, 12, 10, 11, 19, 18, 17, 15, 16]⟩])
 (.cond (.t 53)
 (.region 11 false [
 ⟨(some 54), .copy (.t 4), none, 90112, []⟩,
 ⟨(some 55), .copy (.t 3), none, 90120, []⟩,
 ⟨(some 56), .copy (.t 6), none, 90128, []⟩,
 ⟨(some 57), .iaddr 2 (.t 55) (.t 56), none, 90136, [1, 2]⟩,
 ⟨(some 58), .load true 2 (.t 57), none, 90144, [3, 1, 2]⟩,
 ⟨(some 59), .bslice 2 [(.str []), (.str [])] 1 [(0, (.t 58))], none, 90152, [4, 3, 1, 2]⟩,
 ⟨(some 60), .append 2 32 [(.str []), (.str [])] (.t 54) (.t 59), none, 90160, [0, 5, 4, 3, 1, 2]⟩,
 ⟨(some 4), .copy (.t 60), none, 90168, [6, 0, 5, 4, 3, 1, 2]⟩])
 (.seq
 (.region 12 true [
 ⟨(some 61), .copy (.t 4), none, 98304, []⟩,
 ⟨(some 62), .copy (.t 7), none, 98312, []⟩,
 ⟨(some 63), .iaddr 2 (.t 61) (.t 62), none, 98320, [0, 1]⟩,
 ⟨(some 64), .faddr 1 (.t 63), none, 98328, [2, 0, 1]⟩,
 ⟨(some 65), .load false 1 (.t 64), none, 98336, [3, 2, 0, 1]⟩,
 ⟨(some 66), .copy (.t 3), none, 98344, []⟩,
 ⟨(some 67), .copy (.t 6), none, 98352, []⟩,
 ⟨(some 68), .iaddr 2 (.t 66) (.t 67), none, 98360, [5, 6]⟩,
 ⟨(some 69), .faddr 1 (.t 68), none, 98368, [7, 5, 6]⟩,
 ⟨(some 70), .load false 1 (.t 69), none, 98376, [8, 7, 5, 6]⟩,
 ⟨(some 71), .call (.c (.fn 41 [])) [(.t 65), (.t 70)], none, 98384, [4, 3, 2, 0, 1, 9, 8, 7, 5, 6]⟩])
 (.cond (.t 71)
 (.region 13 false [
 ⟨(some 72), .copy (.t 4), none, 106496, []⟩,
 ⟨(some 73), .copy (.t 7), none, 106504, []⟩,
 ⟨(some 74), .copy (.t 3), none, 106512, []⟩,
 ⟨(some 75), .copy (.t 6), none, 106520, []⟩,
 ⟨(some 76), .iaddr 2 (.t 74) (.t 75), none, 106528, [2, 3]⟩,
 ⟨(some 77), .faddr 1 (.t 76), none, 106536, [4, 2, 3]⟩,
 ⟨(some 78), .load false 1 (.t 77), none, 106544, [5, 4, 2, 3]⟩,
 ⟨(some 79), .iaddr 2 (.t 72) (.t 73), none, 106552, [0, 1, 2, 3, 4, 5, 6]⟩,
 ⟨(some 80), .faddr 1 (.t 79), none, 106560, [7, 0, 1, 2, 3, 4, 5, 6]⟩,
 ⟨none, .store 1 (.t 80) (.t 78), none, 106568, [8, 7, 0, 1, 2, 3, 4, 5, 6]⟩])
 .skip))))))
 (.region 8 false [
 ⟨(some 26), .copy (.t 6), none, 65536, []⟩,
 ⟨(some 27), .bin .add (.t 26) (.c (.int .i64 1)), none, 65544, [0]⟩,
 ⟨(some 6), .copy (.t 27), none, 65552, [1, 0]⟩]))))))
 (.seq
 (.region 14 false [
 ⟨(some 81), .copy (.t 4), none, 114688, []⟩,
 ⟨(some 2), .copy (.t 81), none, 114696, [0]⟩])
 .ret)))))
theorem vf33 : VF Try.prog 33 = some (82, vc33, [.tmp 2]) := by kernel_rfl
/-! Norm of the reference -/
theorem insert_vc {q : PV} {l : List SpanL} (s : SpanL) (hq : Sl q (l.map encS)) (hl : l.length ≤ 1000000) : VC Try.prog 49 [q, .agg (encS s)] [] (ownV ⟨0, 0⟩ ((insS l s).map encS)) [blkV 2 ((insS l s).map encS)] := by
  refine vc_of vf49 ?_ (Nat.le_of_ble_eq_true rfl) (by intro vs h; cases h)
  have hlen := insS_len l s
  repeat first | refine o_copy ?_ | refine nl ?_ | refine ct_seq ?_ | refine rg ?_ | refine ct_block ?_ | refine bq ?_ | refine cv0 (rempty_vc s) ?_ | refine o_loads ?_ | refine o_loadp ?_ | refine o_faddr ?_ | refine o_iaddr ?_ | refine o_iaddrO ?_ | refine o_iaddrR ?_ | refine o_add ?_ | refine o_cat ?_ | refine o_bin ?_ | refine o_lenq ?_ | refine o_len ?_ | refine o_loadsA ?_ | refine o_loadpA ?_ | refine o_box ?_ | refine o_bslice ?_ | refine o_not ?_ | refine o_pickt ?_ | refine o_pickf ?_ | refine skF ?_ | refine skU ?_
  refine ct_loopG (fun (g : Nat × List SpanL × Bool) => [(0, q), (3, .ptr ⟨1, 0⟩ 1 0 0), (5, ownV ⟨1, 8192⟩ (g.2.1.map encS)), (6, .bool g.2.2), (7, .int .i64 g.1)])
    (fun g => [(⟨1, 0⟩, ⟨true, false, 2, [encS s]⟩), (⟨1, 8192⟩, blkV 2 (g.2.1.map encS))]) (fun g => l.length - g.1)
    (fun g => g.1 ≤ l.length ∧ g.2.1.length ≤ 2 * g.1 ∧ insI s (l.drop g.1) g.2.1 g.2.2 = insI s l [] (emptyL s)) (0, [], emptyL s) goes ⟨Nat.zero_le _, Nat.le_refl _, rfl⟩ ?_
  rintro ⟨i, o, d⟩ ⟨hi, ho, hv⟩
  dsimp only at hi ho hv ⊢
  repeat first | refine o_copy ?_ | refine nl ?_ | refine ct_seq ?_ | refine rg ?_ | refine ct_block ?_ | refine bq ?_ | refine o_loads ?_ | refine o_loadp ?_ | refine o_faddr ?_ | refine o_iaddr ?_ | refine o_iaddrO ?_ | refine o_iaddrR ?_ | refine o_add ?_ | refine o_cat ?_ | refine o_bin ?_ | refine o_lenq ?_ | refine o_len ?_ | refine o_loadsA ?_ | refine o_loadpA ?_ | refine o_box ?_ | refine o_bslice ?_ | refine o_not ?_ | refine o_pickt ?_ | refine o_pickf ?_ | refine skF ?_ | refine skU ?_
  refine cnd (fun h => ct_skip ?_) (fun h => ct_exit ?_)
  · have hlt : i < l.length := by have h' := of_decide_eq_true h; simp only [List.length_map] at h'; omega
    obtain ⟨y, hy⟩ : ∃ x, l[i]? = some x := ⟨_, List.getElem?_eq_getElem hlt⟩
    have hye := gm (enc := encS) (n := (i : Int)) hy (by omega)
    rw [drop_get hy, insI] at hv
    cases d with
    | true =>
      repeat first | refine o_copy ?_ | refine nl ?_ | refine ct_seq ?_ | refine rg ?_ | refine ct_block ?_ | refine bq ?_ | refine o_loads ?_ | refine o_loadp ?_ | refine o_faddr ?_ | refine o_iaddr ?_ | refine o_iaddrO ?_ | refine o_iaddrR ?_ | refine o_add ?_ | refine o_cat ?_ | refine o_bin ?_ | refine o_lenq ?_ | refine o_len ?_ | refine o_loadsA ?_ | refine o_loadpA ?_ | refine o_box ?_ | refine o_bslice ?_ | refine o_not ?_ | refine o_pickt ?_ | refine o_pickf ?_ | refine skF ?_ | refine skU ?_
      refine cndf (ct_skip ?_)
      repeat first | refine o_copy ?_ | refine nl ?_ | refine ct_seq ?_ | refine rg ?_ | refine ct_block ?_ | refine bq ?_ | refine o_v (vap encS y) ?_ | refine o_loads ?_ | refine o_loadp ?_ | refine o_faddr ?_ | refine o_iaddr ?_ | refine o_iaddrO ?_ | refine o_iaddrR ?_ | refine o_add ?_ | refine o_cat ?_ | refine o_bin ?_ | refine o_lenq ?_ | refine o_len ?_ | refine o_loadsA ?_ | refine o_loadpA ?_ | refine o_box ?_ | refine o_bslice ?_ | refine o_not ?_ | refine o_pickt ?_ | refine o_pickf ?_ | refine skF ?_ | refine skU ?_
      refine agn (i + 1, o ++ [y], true) ⟨by simp only; omega, by simp only [List.length_append, List.length_cons, List.length_nil]; omega, ?_⟩ goes
      rw [if_neg (by simp)] at hv
      exact hv
    | false =>
      repeat first | refine o_copy ?_ | refine nl ?_ | refine ct_seq ?_ | refine rg ?_ | refine ct_block ?_ | refine bq ?_ | refine o_loads ?_ | refine o_loadp ?_ | refine o_faddr ?_ | refine o_iaddr ?_ | refine o_iaddrO ?_ | refine o_iaddrR ?_ | refine o_add ?_ | refine o_cat ?_ | refine o_bin ?_ | refine o_lenq ?_ | refine o_len ?_ | refine o_loadsA ?_ | refine o_loadpA ?_ | refine o_box ?_ | refine o_bslice ?_ | refine o_not ?_ | refine o_pickt ?_ | refine o_pickf ?_ | refine skF ?_ | refine skU ?_
      refine cnd (fun h3 => ?_) (fun h3 => ct_skip ?_)
      · repeat first | refine o_copy ?_ | refine nl ?_ | refine ct_seq ?_ | refine rg ?_ | refine ct_block ?_ | refine bq ?_ | refine o_v (vap encS s) ?_ | refine o_v (vap encS y) ?_ | refine o_loads ?_ | refine o_loadp ?_ | refine o_faddr ?_ | refine o_iaddr ?_ | refine o_iaddrO ?_ | refine o_iaddrR ?_ | refine o_add ?_ | refine o_cat ?_ | refine o_bin ?_ | refine o_lenq ?_ | refine o_len ?_ | refine o_loadsA ?_ | refine o_loadpA ?_ | refine o_box ?_ | refine o_bslice ?_ | refine o_not ?_ | refine o_pickt ?_ | refine o_pickf ?_ | refine skF ?_ | refine skU ?_
        refine agn (i + 1, o ++ [s] ++ [y], true) ⟨by simp only; omega, by simp only [List.length_append, List.length_cons, List.length_nil]; omega, ?_⟩ goes
        rw [if_pos ⟨rfl, h3⟩] at hv
        exact hv
      · repeat first | refine o_copy ?_ | refine nl ?_ | refine ct_seq ?_ | refine rg ?_ | refine ct_block ?_ | refine bq ?_ | refine o_v (vap encS y) ?_ | refine o_loads ?_ | refine o_loadp ?_ | refine o_faddr ?_ | refine o_iaddr ?_ | refine o_iaddrO ?_ | refine o_iaddrR ?_ | refine o_add ?_ | refine o_cat ?_ | refine o_bin ?_ | refine o_lenq ?_ | refine o_len ?_ | refine o_loadsA ?_ | refine o_loadpA ?_ | refine o_box ?_ | refine o_bslice ?_ | refine o_not ?_ | refine o_pickt ?_ | refine o_pickf ?_ | refine skF ?_ | refine skU ?_
        refine agn (i + 1, o ++ [y], false) ⟨by simp only; omega, by simp only [List.length_append, List.length_cons, List.length_nil]; omega, ?_⟩ goes
        rw [if_neg (by simp [h3])] at hv
        exact hv
  · have hge : i = l.length := by have h' := of_decide_eq_false h; simp only [List.length_map] at h'; omega
    subst hge
    rw [List.drop_length, insI] at hv
    repeat first | refine o_copy ?_ | refine nl ?_ | refine ct_seq ?_ | refine rg ?_ | refine ct_block ?_ | refine bq ?_ | refine o_loads ?_ | refine o_loadp ?_ | refine o_faddr ?_ | refine o_iaddr ?_ | refine o_iaddrO ?_ | refine o_iaddrR ?_ | refine o_add ?_ | refine o_cat ?_ | refine o_bin ?_ | refine o_lenq ?_ | refine o_len ?_ | refine o_loadsA ?_ | refine o_loadpA ?_ | refine o_box ?_ | refine o_bslice ?_ | refine o_not ?_ | refine o_pickt ?_ | refine o_pickf ?_ | refine skF ?_ | refine skU ?_
    refine cnd (fun h3 => ?_) (fun h3 => ct_skip ?_)
    · have hd : d = false := by simpa using h3
      subst hd
      have hstep : insS l s = o ++ [s] := by unfold insS; rw [← hv]; rfl
      rw [hstep] at hlen ⊢
      repeat first | refine o_copy ?_ | refine nl ?_ | refine ct_seq ?_ | refine rg ?_ | refine ct_block ?_ | refine bq ?_ | refine o_v (vap encS s) ?_ | refine o_loads ?_ | refine o_loadp ?_ | refine o_faddr ?_ | refine o_iaddr ?_ | refine o_iaddrO ?_ | refine o_iaddrR ?_ | refine o_add ?_ | refine o_cat ?_ | refine o_bin ?_ | refine o_lenq ?_ | refine o_len ?_ | refine o_loadsA ?_ | refine o_loadpA ?_ | refine o_box ?_ | refine o_bslice ?_ | refine o_not ?_ | refine o_pickt ?_ | refine o_pickf ?_ | refine skF ?_ | refine skU ?_
      exact ct_ret ⟨.inr rfl, oOwn rfl⟩
    · have hd : d = true := by simpa using h3
      subst hd
      have hstep : insS l s = o := by unfold insS; rw [← hv]; rfl
      rw [hstep] at hlen ⊢
      repeat first | refine o_copy ?_ | refine nl ?_ | refine ct_seq ?_ | refine rg ?_ | refine ct_block ?_ | refine bq ?_ | refine o_loads ?_ | refine o_loadp ?_ | refine o_faddr ?_ | refine o_iaddr ?_ | refine o_iaddrO ?_ | refine o_iaddrR ?_ | refine o_add ?_ | refine o_cat ?_ | refine o_bin ?_ | refine o_lenq ?_ | refine o_len ?_ | refine o_loadsA ?_ | refine o_loadpA ?_ | refine o_box ?_ | refine o_bslice ?_ | refine o_not ?_ | refine o_pickt ?_ | refine o_pickf ?_ | refine skF ?_ | refine skU ?_
      exact ct_ret ⟨.inr rfl, oOwn rfl⟩
set_option maxHeartbeats 1000000 in
theorem rnorm_vc {q : PV} {l : List SpanL} (hq : Sl q (l.map encS)) (hl : l.length ≤ 100000) : VC Try.prog 33 [q] [] (ownV ⟨0, 0⟩ ((rnormL l).map encS)) [blkV 2 ((rnormL l).map encS)] := by
  refine vc_of vf33 ?_ (Nat.le_of_ble_eq_true rfl) (by intro vs h; cases h)
  repeat first | refine o_copy ?_ | refine nl ?_ | refine ct_seq ?_ | refine rg ?_ | refine ct_block ?_ | refine bq ?_ | refine o_loads ?_ | refine o_loadp ?_ | refine o_faddr ?_ | refine o_iaddr ?_ | refine o_iaddrO ?_ | refine o_iaddrR ?_ | refine o_add ?_ | refine o_sub ?_ | refine o_cat ?_ | refine o_bin ?_ | refine o_lenq ?_ | refine o_len ?_ | refine o_loadsA ?_ | refine o_loadpA ?_ | refine o_bslice ?_ | refine o_store ?_ | refine o_pickt ?_ | refine o_pickf ?_ | refine skF ?_ | refine skU ?_
  refine ct_loopG (fun (g : Nat × List SpanL) => [(0, q), (3, ownV ⟨1, 8192⟩ (g.2.map encS)), (4, .own ⟨1, 8200⟩ 0 0 0), (5, .int .i64 g.1)])
    (fun g => [(⟨1, 8192⟩, blkV 2 (g.2.map encS)), (⟨1, 8200⟩, blkV 2 [])]) (fun g => l.length - g.1)
    (fun g => g.1 ≤ l.length ∧ g.2.length ≤ g.1 ∧ (l.drop g.1).foldl insS g.2 = sortR l) (0, []) goes ⟨Nat.zero_le _, Nat.le_refl _, rfl⟩ ?_
  rintro ⟨i, o⟩ ⟨hi, ho, hv⟩
  dsimp only at hi ho hv ⊢
  repeat first | refine o_copy ?_ | refine nl ?_ | refine ct_seq ?_ | refine rg ?_ | refine ct_block ?_ | refine bq ?_ | refine o_loads ?_ | refine o_loadp ?_ | refine o_faddr ?_ | refine o_iaddr ?_ | refine o_iaddrO ?_ | refine o_iaddrR ?_ | refine o_add ?_ | refine o_sub ?_ | refine o_cat ?_ | refine o_bin ?_ | refine o_lenq ?_ | refine o_len ?_ | refine o_loadsA ?_ | refine o_loadpA ?_ | refine o_bslice ?_ | refine o_store ?_ | refine o_pickt ?_ | refine o_pickf ?_ | refine skF ?_ | refine skU ?_
  refine cnd (fun h => ct_skip ?_) (fun h => ct_exit ?_)
  · have hlt : i < l.length := by have h' := of_decide_eq_true h; simp only [List.length_map] at h'; omega
    obtain ⟨y, hy⟩ : ∃ x, l[i]? = some x := ⟨_, List.getElem?_eq_getElem hlt⟩
    have hye := gm (enc := encS) (n := (i : Int)) hy (by omega)
    rw [drop_get hy, List.foldl_cons] at hv
    have hlen := insS_len o y
    repeat first | refine o_copy ?_ | refine nl ?_ | refine ct_seq ?_ | refine rg ?_ | refine ct_block ?_ | refine bq ?_ | refine cv (insert_vc y (q := .sh false (o.map encS)) (l := o) Sl.sh (by omega)) ?_ | refine o_loads ?_ | refine o_loadp ?_ | refine o_faddr ?_ | refine o_iaddr ?_ | refine o_iaddrO ?_ | refine o_iaddrR ?_ | refine o_add ?_ | refine o_sub ?_ | refine o_cat ?_ | refine o_bin ?_ | refine o_lenq ?_ | refine o_len ?_ | refine o_loadsA ?_ | refine o_loadpA ?_ | refine o_bslice ?_ | refine o_store ?_ | refine o_pickt ?_ | refine o_pickf ?_ | refine skF ?_ | refine skU ?_
    exact agn (i + 1, insS o y) ⟨by simp only; omega, by simp only; omega, hv⟩ (goesR ⟨1, 41000⟩ ⟨1, 8192⟩)
  · have hge : i = l.length := by have h' := of_decide_eq_false h; simp only [List.length_map] at h'; omega
    subst hge
    rw [List.drop_length, List.foldl_nil] at hv
    subst hv
    have hsl := ho
    generalize hsr : sortR l = sl at hsl
    have hrn : rnormL l = sl.foldl stepL [] := by unfold rnormL normW; rw [hsr]
    rw [hrn]
    repeat first | refine o_copy ?_ | refine nl ?_ | refine ct_seq ?_ | refine rg ?_ | refine ct_block ?_ | refine bq ?_ | refine o_loads ?_ | refine o_loadp ?_ | refine o_faddr ?_ | refine o_iaddr ?_ | refine o_iaddrO ?_ | refine o_iaddrR ?_ | refine o_add ?_ | refine o_sub ?_ | refine o_cat ?_ | refine o_bin ?_ | refine o_lenq ?_ | refine o_len ?_ | refine o_loadsA ?_ | refine o_loadpA ?_ | refine o_bslice ?_ | refine o_store ?_ | refine o_pickt ?_ | refine o_pickf ?_ | refine skF ?_ | refine skU ?_
    refine ct_loopG (fun (g : Nat × List SpanL) => [(3, ownV ⟨1, 8192⟩ (sl.map encS)), (4, ownV ⟨1, 8200⟩ (g.2.map encS)), (6, .int .i64 g.1)])
      (fun g => [(⟨1, 8192⟩, blkV 2 (sl.map encS)), (⟨1, 8200⟩, blkV 2 (g.2.map encS))]) (fun g => sl.length - g.1)
      (fun g => g.1 ≤ sl.length ∧ g.2.length ≤ g.1 ∧ (sl.drop g.1).foldl stepL g.2 = sl.foldl stepL []) (0, []) goes ⟨Nat.zero_le _, Nat.le_refl _, rfl⟩ ?_
    rintro ⟨k, o⟩ ⟨hk, ho, hw⟩
    dsimp only at hk ho hw ⊢
    repeat first | refine o_copy ?_ | refine nl ?_ | refine ct_seq ?_ | refine rg ?_ | refine ct_block ?_ | refine bq ?_ | refine o_loads ?_ | refine o_loadp ?_ | refine o_faddr ?_ | refine o_iaddr ?_ | refine o_iaddrO ?_ | refine o_iaddrR ?_ | refine o_add ?_ | refine o_sub ?_ | refine o_cat ?_ | refine o_bin ?_ | refine o_lenq ?_ | refine o_len ?_ | refine o_loadsA ?_ | refine o_loadpA ?_ | refine o_bslice ?_ | refine o_store ?_ | refine o_pickt ?_ | refine o_pickf ?_ | refine skF ?_ | refine skU ?_
    refine cnd (fun h => ct_skip ?_) (fun h => ct_exit ?_)
    · have hlt : k < sl.length := by have h' := of_decide_eq_true h; simp only [List.length_map] at h'; omega
      obtain ⟨y, hy⟩ : ∃ x, sl[k]? = some x := ⟨_, List.getElem?_eq_getElem hlt⟩
      have hye := gm (enc := encS) (n := (k : Int)) hy (by omega)
      have hye2 : (blkV 2 (sl.map encS)).els[0 + (k : Int).toNat]? = some (encS y) := by rw [Nat.zero_add]; exact hye
      rw [drop_get hy, List.foldl_cons] at hw
      have hlen := stepL_len o y
      rcases Nat.eq_zero_or_pos o.length with h0 | hpos
      · have ho0 : o = [] := List.length_eq_zero_iff.1 h0
        subst ho0
        repeat first | refine o_copy ?_ | refine nl ?_ | refine ct_seq ?_ | refine rg ?_ | refine ct_block ?_ | refine bq ?_ | refine o_loads ?_ | refine o_loadp ?_ | refine o_faddr ?_ | refine o_iaddr ?_ | refine o_iaddrO ?_ | refine o_iaddrR ?_ | refine o_add ?_ | refine o_sub ?_ | refine o_cat ?_ | refine o_bin ?_ | refine o_lenq ?_ | refine o_len ?_ | refine o_loadsA ?_ | refine o_loadpA ?_ | refine o_bslice ?_ | refine o_store ?_ | refine o_pickt ?_ | refine o_pickf ?_ | refine skF ?_ | refine skU ?_
        refine cndt ?_
        repeat first | refine o_copy ?_ | refine nl ?_ | refine ct_seq ?_ | refine rg ?_ | refine ct_block ?_ | refine bq ?_ | refine o_iaddrG ?_ | refine o_v (vap encS y) ?_ | refine o_loads ?_ | refine o_loadp ?_ | refine o_faddr ?_ | refine o_iaddr ?_ | refine o_iaddrO ?_ | refine o_iaddrR ?_ | refine o_add ?_ | refine o_sub ?_ | refine o_cat ?_ | refine o_bin ?_ | refine o_lenq ?_ | refine o_len ?_ | refine o_loadsA ?_ | refine o_loadpA ?_ | refine o_bslice ?_ | refine o_store ?_ | refine o_pickt ?_ | refine o_pickf ?_ | refine skF ?_ | refine skU ?_
        exact agn (k + 1, [] ++ [y]) ⟨by simp only; omega, by simp, hw⟩ goes
      · obtain ⟨x, hx⟩ : ∃ x, o[o.length - 1]? = some x := ⟨_, List.getElem?_eq_getElem (by omega)⟩
        have hidx : 0 + (((o.map encS).length : Int) - 1).toNat = o.length - 1 := by simp only [List.length_map]; omega
        have hx' : o[0 + (((o.map encS).length : Int) - 1).toNat]? = some x := by rw [hidx]; exact hx
        have hxe : (blkV 2 (o.map encS)).els[0 + (((o.map encS).length : Int) - 1).toNat]? = some (encS x) := by
          show (o.map encS)[_]? = _
          rw [List.getElem?_map, hx']; rfl
        have hng : decide (((o.map encS).length : Int) - 1 < 0) = false := decide_eq_false (by simp only [List.length_map]; omega)
        have hst : stepL o y = if x.hi ≠ [] ∧ Op.bytesLess x.hi y.lo = true then o ++ [y] else if lessL x.hi y.hi = true then o.set (o.length - 1) ⟨x.lo, y.hi⟩ else o := by unfold stepL; rw [hx]
        have hmp : 0 < (o.map encS).length := by simp only [List.length_map]; omega
        have hml : (o.map encS).length = o.length := List.length_map ..
        repeat first | refine o_copy ?_ | refine nl ?_ | refine ct_seq ?_ | refine rg ?_ | refine ct_block ?_ | refine bq ?_ | refine o_iaddrG ?_ | refine o_loads ?_ | refine o_loadp ?_ | refine o_faddr ?_ | refine o_iaddr ?_ | refine o_iaddrO ?_ | refine o_iaddrR ?_ | refine o_add ?_ | refine o_sub ?_ | refine o_cat ?_ | refine o_bin ?_ | refine o_lenq ?_ | refine o_len ?_ | refine o_loadsA ?_ | refine o_loadpA ?_ | refine o_bslice ?_ | refine o_store ?_ | refine o_pickt ?_ | refine o_pickf ?_ | refine skF ?_ | refine skU ?_
        refine glook (fun hg => ?_) (fun hg => ?_)
        · have hxh : x.hi ≠ [] := by simpa using hg
          repeat first | refine o_copy ?_ | refine nl ?_ | refine ct_seq ?_ | refine rg ?_ | refine ct_block ?_ | refine bq ?_ | refine o_iaddrG ?_ | refine o_loads ?_ | refine o_loadp ?_ | refine o_faddr ?_ | refine o_iaddr ?_ | refine o_iaddrO ?_ | refine o_iaddrR ?_ | refine o_add ?_ | refine o_sub ?_ | refine o_cat ?_ | refine o_bin ?_ | refine o_lenq ?_ | refine o_len ?_ | refine o_loadsA ?_ | refine o_loadpA ?_ | refine o_bslice ?_ | refine o_store ?_ | refine o_pickt ?_ | refine o_pickf ?_ | refine skF ?_ | refine skU ?_
          refine cnd (fun h2 => ?_) (fun h2 => ?_)
          · rw [if_pos ⟨hxh, h2⟩] at hst
            rw [hst] at hw hlen
            repeat first | refine o_copy ?_ | refine nl ?_ | refine ct_seq ?_ | refine rg ?_ | refine ct_block ?_ | refine bq ?_ | refine o_iaddrG ?_ | refine o_v (vap encS y) ?_ | refine o_loads ?_ | refine o_loadp ?_ | refine o_faddr ?_ | refine o_iaddr ?_ | refine o_iaddrO ?_ | refine o_iaddrR ?_ | refine o_add ?_ | refine o_sub ?_ | refine o_cat ?_ | refine o_bin ?_ | refine o_lenq ?_ | refine o_len ?_ | refine o_loadsA ?_ | refine o_loadpA ?_ | refine o_bslice ?_ | refine o_store ?_ | refine o_pickt ?_ | refine o_pickf ?_ | refine skF ?_ | refine skU ?_
            exact agn (k + 1, o ++ [y]) ⟨by simp only; omega, by simp only; omega, hw⟩ goes
          · rw [if_neg (by simp [h2])] at hst
            repeat first | refine o_copy ?_ | refine nl ?_ | refine ct_seq ?_ | refine rg ?_ | refine ct_block ?_ | refine bq ?_ | refine o_iaddrG ?_ | refine cv0 (less_vc x.hi y.hi) ?_ | refine o_loads ?_ | refine o_loadp ?_ | refine o_faddr ?_ | refine o_iaddr ?_ | refine o_iaddrO ?_ | refine o_iaddrR ?_ | refine o_add ?_ | refine o_sub ?_ | refine o_cat ?_ | refine o_bin ?_ | refine o_lenq ?_ | refine o_len ?_ | refine o_loadsA ?_ | refine o_loadpA ?_ | refine o_bslice ?_ | refine o_store ?_ | refine o_pickt ?_ | refine o_pickf ?_ | refine skF ?_ | refine skU ?_
            refine cnd (fun h3 => ?_) (fun h3 => ct_skip ?_)
            · rw [if_pos h3, ← hidx] at hst
              rw [hst] at hw hlen
              repeat first | refine o_copy ?_ | refine nl ?_ | refine ct_seq ?_ | refine rg ?_ | refine ct_block ?_ | refine bq ?_ | refine o_iaddrG ?_ | refine o_v (vstf encS (⟨x.lo, y.hi⟩ : SpanL) hx') ?_ | refine o_loads ?_ | refine o_loadp ?_ | refine o_faddr ?_ | refine o_iaddr ?_ | refine o_iaddrO ?_ | refine o_iaddrR ?_ | refine o_add ?_ | refine o_sub ?_ | refine o_cat ?_ | refine o_bin ?_ | refine o_lenq ?_ | refine o_len ?_ | refine o_loadsA ?_ | refine o_loadpA ?_ | refine o_bslice ?_ | refine o_store ?_ | refine o_pickt ?_ | refine o_pickf ?_ | refine skF ?_ | refine skU ?_
              exact agn (k + 1, _) ⟨by simp only; omega, by simp only; omega, hw⟩ (goes (h1 := by
                refine ⟨rfl, ?_, rfl, trivial⟩
                exact congrArg (fun n => some (PV.own ⟨1, 8200⟩ n 0 n)) (by simp : (o.map encS).length = _)))
            · rw [if_neg (by simp [h3])] at hst
              rw [hst] at hw hlen
              repeat first | refine o_copy ?_ | refine nl ?_ | refine ct_seq ?_ | refine rg ?_ | refine ct_block ?_ | refine bq ?_ | refine o_loads ?_ | refine o_loadp ?_ | refine o_faddr ?_ | refine o_iaddr ?_ | refine o_iaddrO ?_ | refine o_iaddrR ?_ | refine o_add ?_ | refine o_sub ?_ | refine o_cat ?_ | refine o_bin ?_ | refine o_lenq ?_ | refine o_len ?_ | refine o_loadsA ?_ | refine o_loadpA ?_ | refine o_bslice ?_ | refine o_store ?_ | refine o_pickt ?_ | refine o_pickf ?_ | refine skF ?_ | refine skU ?_
              exact agn (k + 1, o) ⟨by simp only; omega, by simp only; omega, hw⟩ goes
        · have hxh : x.hi = [] := by simpa using hg
          rw [if_neg (by simp [hxh])] at hst
          have hl0 : lessL x.hi y.hi = false := by simp [lessL, hxh]
          rw [if_neg (by simp [hl0])] at hst
          rw [hst] at hw hlen
          repeat first | refine o_copy ?_ | refine nl ?_ | refine ct_seq ?_ | refine rg ?_ | refine ct_block ?_ | refine bq ?_ | refine o_iaddrG ?_ | refine o_loads ?_ | refine o_loadp ?_ | refine o_faddr ?_ | refine o_iaddr ?_ | refine o_iaddrO ?_ | refine o_iaddrR ?_ | refine o_add ?_ | refine o_sub ?_ | refine o_cat ?_ | refine o_bin ?_ | refine o_lenq ?_ | refine o_len ?_ | refine o_loadsA ?_ | refine o_loadpA ?_ | refine o_bslice ?_ | refine o_store ?_ | refine o_pickt ?_ | refine o_pickf ?_ | refine skF ?_ | refine skU ?_
          refine cndf ?_
          repeat first | refine o_copy ?_ | refine nl ?_ | refine ct_seq ?_ | refine rg ?_ | refine ct_block ?_ | refine bq ?_ | refine o_iaddrG ?_ | refine cv0 (less_vc x.hi y.hi) ?_ | refine o_loads ?_ | refine o_loadp ?_ | refine o_faddr ?_ | refine o_iaddr ?_ | refine o_iaddrO ?_ | refine o_iaddrR ?_ | refine o_add ?_ | refine o_sub ?_ | refine o_cat ?_ | refine o_bin ?_ | refine o_lenq ?_ | refine o_len ?_ | refine o_loadsA ?_ | refine o_loadpA ?_ | refine o_bslice ?_ | refine o_store ?_ | refine o_pickt ?_ | refine o_pickf ?_ | refine skF ?_ | refine skU ?_
          refine cndf (ct_skip ?_)
          repeat first | refine o_copy ?_ | refine nl ?_ | refine ct_seq ?_ | refine rg ?_ | refine ct_block ?_ | refine bq ?_ | refine o_loads ?_ | refine o_loadp ?_ | refine o_faddr ?_ | refine o_iaddr ?_ | refine o_iaddrO ?_ | refine o_iaddrR ?_ | refine o_add ?_ | refine o_sub ?_ | refine o_cat ?_ | refine o_bin ?_ | refine o_lenq ?_ | refine o_len ?_ | refine o_loadsA ?_ | refine o_loadpA ?_ | refine o_bslice ?_ | refine o_store ?_ | refine o_pickt ?_ | refine o_pickf ?_ | refine skF ?_ | refine skU ?_
          exact agn (k + 1, o) ⟨by simp only; omega, by simp only; omega, hw⟩ goes
    · have hge : k = sl.length := by have h' := of_decide_eq_false h; simp only [List.length_map] at h'; omega
      subst hge
      rw [List.drop_length, List.foldl_nil] at hw
      repeat first | refine o_copy ?_ | refine nl ?_ | refine ct_seq ?_ | refine rg ?_ | refine ct_block ?_ | refine bq ?_ | refine o_loads ?_ | refine o_loadp ?_ | refine o_faddr ?_ | refine o_iaddr ?_ | refine o_iaddrO ?_ | refine o_iaddrR ?_ | refine o_add ?_ | refine o_sub ?_ | refine o_cat ?_ | refine o_bin ?_ | refine o_lenq ?_ | refine o_len ?_ | refine o_loadsA ?_ | refine o_loadpA ?_ | refine o_bslice ?_ | refine o_store ?_ | refine o_pickt ?_ | refine o_pickf ?_ | refine skF ?_ | refine skU ?_
      exact ct_ret ⟨.inr rfl, oOwn (congrArg (List.map encS) hw)⟩
end Go.Proofs
