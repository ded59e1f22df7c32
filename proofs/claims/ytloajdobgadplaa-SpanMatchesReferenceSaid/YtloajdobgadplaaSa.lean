/- Sa -/
import Derived.Test.YtloajdobgadplaaProg
import Derived.Test.YtloajdobgadplaaVD
import Derived.Test.YtloajdobgadplaaPu
open Go.V
namespace Go.Proofs
theorem sanity_vc : VC Try.prog 11 [] [] (.bool true) [] := run_ok noCall_good noX_good 30 _ _ _ _ _ (by kernel_rfl : run Try.prog noCall noX 300 30 11 [] [] = some (.bool true, []))
end Go.Proofs
open Go.V Go.Pu
set_option linter.unusedVariables false
set_option linter.unusedSimpArgs false
set_option maxRecDepth 20000
namespace Go.Proofs
/-- downspout/span.Has -/
def vc21 : VCode :=
 (.seq
 (.region 0 false [
 ⟨(some 2), .box (.t 0), none, 0, []⟩,
 ⟨(some 4), .copy (.c (.bool false)), none, 8, []⟩])
 (.seq
 (.region 1 false [
 ⟨(some 5), .copy (.t 1), none, 8192, []⟩,
 ⟨(some 6), .faddr 0 (.t 2), none, 8200, []⟩,
 ⟨(some 7), .load false 1 (.t 6), none, 8208, [1]⟩,
 ⟨(some 8), .bin .geq (.t 5) (.t 7), none, 8216, [0, 2, 1]⟩,
 ⟨(some 9), .copy (.t 8), none, 8224, [3, 0, 2, 1]⟩,
 ⟨(some 10), .faddr 1 (.t 2), (some (4, 9, true)), 8232, [4, 3, 0, 2, 1]⟩,
 ⟨(some 11), .load false 1 (.t 10), (some (4, 9, true)), 8240, [5, 4, 3, 0, 2, 1]⟩,
 ⟨(some 12), .bin .eql (.t 11) (.c (.str [])), (some (4, 9, true)), 8248, [6, 5, 4, 3, 0, 2, 1]⟩,
 ⟨(some 13), .copy (.t 12), (some (4, 9, true)), 8256, [7, 6, 5, 4, 3, 0, 2, 1]⟩,
 ⟨(some 14), .copy (.t 1), (some (8, 13, false)), 8264, [8, 7, 6, 5, 4, 3, 0, 2, 1]⟩,
 ⟨(some 15), .faddr 1 (.t 2), (some (8, 13, false)), 8272, [8, 7, 6, 5, 4, 3, 0, 2, 1]⟩,
 ⟨(some 16), .load false 1 (.t 15), (some (8, 13, false)), 8280, [10, 8, 7, 6, 5, 4, 3, 0, 2, 1]⟩,
 ⟨(some 17), .bin .lss (.t 14) (.t 16), (some (8, 13, false)), 8288, [9, 8, 7, 6, 5, 4, 3, 0, 2, 1, 11, 10]⟩,
 ⟨(some 18), .pick (.t 13) (.c (.bool true)) (.t 17), (some (4, 9, true)), 8296, [8, 7, 6, 5, 4, 3, 0, 2, 1, 12, 9, 11, 10]⟩,
 ⟨(some 19), .pick (.t 9) (.t 18) (.c (.bool false)), none, 8304, [4, 3, 0, 2, 1, 13, 8, 7, 6, 5, 12, 9, 11, 10]⟩,
 ⟨(some 4), .copy (.t 19), none, 8312, [14, 4, 3, 0, 2, 1, 13, 8, 7, 6, 5, 12, 9, 11, 10]⟩])
 .ret))
theorem vf21 : VF Try.prog 21 = some (20, vc21, [.tmp 4]) := by kernel_rfl
/-- downspout/downspoutref02.Has -/
def vc22 : VCode :=
 (.seq
 (.region 0 false [
 ⟨(some 2), .box (.t 0), none, 0, []⟩,
 ⟨(some 4), .copy (.c (.bool false)), none, 8, []⟩])
 (.seq
 (.region 1 false [
 ⟨(some 5), .copy (.t 1), none, 8192, []⟩,
 ⟨(some 6), .faddr 0 (.t 2), none, 8200, []⟩,
 ⟨(some 7), .load false 1 (.t 6), none, 8208, [1]⟩,
 ⟨(some 8), .bin .geq (.t 5) (.t 7), none, 8216, [0, 2, 1]⟩,
 ⟨(some 9), .copy (.t 8), none, 8224, [3, 0, 2, 1]⟩,
 ⟨(some 10), .faddr 1 (.t 2), (some (4, 9, true)), 8232, [4, 3, 0, 2, 1]⟩,
 ⟨(some 11), .load false 1 (.t 10), (some (4, 9, true)), 8240, [5, 4, 3, 0, 2, 1]⟩,
 ⟨(some 12), .bin .eql (.t 11) (.c (.str [])), (some (4, 9, true)), 8248, [6, 5, 4, 3, 0, 2, 1]⟩,
 ⟨(some 13), .copy (.t 12), (some (4, 9, true)), 8256, [7, 6, 5, 4, 3, 0, 2, 1]⟩,
 ⟨(some 14), .copy (.t 1), (some (8, 13, false)), 8264, [8, 7, 6, 5, 4, 3, 0, 2, 1]⟩,
 ⟨(some 15), .faddr 1 (.t 2), (some (8, 13, false)), 8272, [8, 7, 6, 5, 4, 3, 0, 2, 1]⟩,
 ⟨(some 16), .load false 1 (.t 15), (some (8, 13, false)), 8280, [10, 8, 7, 6, 5, 4, 3, 0, 2, 1]⟩,
 ⟨(some 17), .bin .lss (.t 14) (.t 16), (some (8, 13, false)), 8288, [9, 8, 7, 6, 5, 4, 3, 0, 2, 1, 11, 10]⟩,
 ⟨(some 18), .pick (.t 13) (.c (.bool true)) (.t 17), (some (4, 9, true)), 8296, [8, 7, 6, 5, 4, 3, 0, 2, 1, 12, 9, 11, 10]⟩,
 ⟨(some 19), .pick (.t 9) (.t 18) (.c (.bool false)), none, 8304, [4, 3, 0, 2, 1, 13, 8, 7, 6, 5, 12, 9, 11, 10]⟩,
 ⟨(some 4), .copy (.t 19), none, 8312, [14, 4, 3, 0, 2, 1, 13, 8, 7, 6, 5, 12, 9, 11, 10]⟩])
 .ret))
theorem vf22 : VF Try.prog 22 = some (20, vc22, [.tmp 4]) := by kernel_rfl
/-- downspout/span.Empty -/
def vc23 : VCode :=
 (.seq
 (.region 0 false [
 ⟨(some 1), .box (.t 0), none, 0, []⟩,
 ⟨(some 2), .copy (.c (.bool false)), none, 8, []⟩])
 (.seq
 (.region 1 false [
 ⟨(some 3), .faddr 1 (.t 1), none, 8192, []⟩,
 ⟨(some 4), .load false 1 (.t 3), none, 8200, [0]⟩,
 ⟨(some 5), .bin .neq (.t 4) (.c (.str [])), none, 8208, [1, 0]⟩,
 ⟨(some 6), .copy (.t 5), none, 8216, [2, 1, 0]⟩,
 ⟨(some 7), .faddr 1 (.t 1), (some (3, 6, true)), 8224, [3, 2, 1, 0]⟩,
 ⟨(some 8), .load false 1 (.t 7), (some (3, 6, true)), 8232, [4, 3, 2, 1, 0]⟩,
 ⟨(some 9), .faddr 0 (.t 1), (some (3, 6, true)), 8240, [3, 2, 1, 0]⟩,
 ⟨(some 10), .load false 1 (.t 9), (some (3, 6, true)), 8248, [6, 3, 2, 1, 0]⟩,
 ⟨(some 11), .bin .leq (.t 8) (.t 10), (some (3, 6, true)), 8256, [5, 4, 3, 2, 1, 0, 7, 6]⟩,
 ⟨(some 12), .pick (.t 6) (.t 11) (.c (.bool false)), none, 8264, [3, 2, 1, 0, 8, 5, 4, 7, 6]⟩,
 ⟨(some 2), .copy (.t 12), none, 8272, [9, 3, 2, 1, 0, 8, 5, 4, 7, 6]⟩])
 .ret))
theorem vf23 : VF Try.prog 23 = some (13, vc23, [.tmp 2]) := by kernel_rfl
/-- downspout/downspoutref02.Empty -/
def vc24 : VCode :=
 (.seq
 (.region 0 false [
 ⟨(some 1), .box (.t 0), none, 0, []⟩,
 ⟨(some 2), .copy (.c (.bool false)), none, 8, []⟩])
 (.seq
 (.region 1 false [
 ⟨(some 3), .faddr 1 (.t 1), none, 8192, []⟩,
 ⟨(some 4), .load false 1 (.t 3), none, 8200, [0]⟩,
 ⟨(some 5), .bin .neq (.t 4) (.c (.str [])), none, 8208, [1, 0]⟩,
 ⟨(some 6), .copy (.t 5), none, 8216, [2, 1, 0]⟩,
 ⟨(some 7), .faddr 1 (.t 1), (some (3, 6, true)), 8224, [3, 2, 1, 0]⟩,
 ⟨(some 8), .load false 1 (.t 7), (some (3, 6, true)), 8232, [4, 3, 2, 1, 0]⟩,
 ⟨(some 9), .faddr 0 (.t 1), (some (3, 6, true)), 8240, [3, 2, 1, 0]⟩,
 ⟨(some 10), .load false 1 (.t 9), (some (3, 6, true)), 8248, [6, 3, 2, 1, 0]⟩,
 ⟨(some 11), .bin .leq (.t 8) (.t 10), (some (3, 6, true)), 8256, [5, 4, 3, 2, 1, 0, 7, 6]⟩,
 ⟨(some 12), .pick (.t 6) (.t 11) (.c (.bool false)), none, 8264, [3, 2, 1, 0, 8, 5, 4, 7, 6]⟩,
 ⟨(some 2), .copy (.t 12), none, 8272, [9, 3, 2, 1, 0, 8, 5, 4, 7, 6]⟩])
 .ret))
theorem vf24 : VF Try.prog 24 = some (13, vc24, [.tmp 2]) := by kernel_rfl
/-- downspout/span.One -/
def vc17 : VCode :=
 (.seq
 (.region 0 false [
 ⟨(some 2), .alloc [(.str []), (.str [])], none, 0, []⟩])
 (.seq
 (.region 1 false [
 ⟨(some 3), .copy (.t 0), none, 8192, []⟩,
 ⟨(some 4), .copy (.t 0), none, 8200, []⟩,
 ⟨(some 5), .bin .add (.t 4) (.c (.str [0])), none, 8208, [1]⟩,
 ⟨(some 6), .build [(.str []), (.str [])] [(0, 1, (.t 3)), (1, 1, (.t 5))], none, 8216, [0, 2, 1]⟩,
 ⟨none, .store 2 (.t 2) (.t 6), none, 8224, [3, 0, 2, 1]⟩])
 .ret))
theorem vf17 : VF Try.prog 17 = some (7, vc17, [.cell true 2 2]) := by kernel_rfl
/-- downspout/downspoutref02.One -/
def vc18 : VCode :=
 (.seq
 (.region 0 false [
 ⟨(some 2), .alloc [(.str []), (.str [])], none, 0, []⟩])
 (.seq
 (.region 1 false [
 ⟨(some 3), .copy (.t 0), none, 8192, []⟩,
 ⟨(some 4), .copy (.t 0), none, 8200, []⟩,
 ⟨(some 5), .bin .add (.t 4) (.c (.str [0])), none, 8208, [1]⟩,
 ⟨(some 6), .build [(.str []), (.str [])] [(0, 1, (.t 3)), (1, 1, (.t 5))], none, 8216, [0, 2, 1]⟩,
 ⟨none, .store 2 (.t 2) (.t 6), none, 8224, [3, 0, 2, 1]⟩])
 .ret))
theorem vf18 : VF Try.prog 18 = some (7, vc18, [.cell true 2 2]) := by kernel_rfl
/-- downspout/downspoutlaw02.sp -/
def vc19 : VCode :=
 (.seq
 (.region 0 false [
 ⟨(some 4), .alloc [(.str []), (.str [])], none, 0, []⟩])
 (.seq
 (.region 1 false [
 ⟨(some 5), .copy (.t 0), none, 8192, []⟩,
 ⟨(some 6), .copy (.t 1), none, 8200, []⟩,
 ⟨(some 7), .build [(.str []), (.str [])] [(0, 1, (.t 5)), (1, 1, (.t 6))], none, 8208, [0, 1]⟩,
 ⟨none, .store 2 (.t 4) (.t 7), none, 8216, [2, 0, 1]⟩])
 .ret))
theorem vf19 : VF Try.prog 19 = some (8, vc19, [.cell true 2 4]) := by kernel_rfl
/-- downspout/downspoutref02.None -/
def vc42 : VCode :=
 (.seq
 (.region 0 false [
 ⟨(some 0), .alloc [(.str []), (.str [])], none, 0, []⟩])
 (.seq
 (.region 1 false [
 ⟨(some 1), .build [(.str []), (.str [])] [(0, 1, (.c (.str [97]))), (1, 1, (.c (.str [97])))], none, 8192, []⟩,
 ⟨none, .store 2 (.t 0) (.t 1), none, 8200, [0]⟩])
 .ret))
theorem vf42 : VF Try.prog 42 = some (2, vc42, [.cell true 2 0]) := by kernel_rfl
/-- (downspout/span.end).compare -/
def vc43 : VCode :=
 (.seq
 (.region 0 false [
 ⟨(some 4), .copy (.c (.int .i64 0)), none, 0, []⟩])
 (.seq
 (.block 0
 (.seq
 (.region 1 false [
 ⟨(some 6), .copy (.t 0), none, 8192, []⟩,
 ⟨(some 7), .copy (.t 1), none, 8200, []⟩,
 ⟨(some 8), .bin .eql (.t 6) (.t 7), none, 8208, [0, 1]⟩,
 ⟨(some 5), .copy (.t 8), none, 8216, [2, 0, 1]⟩])
 (.cond (.t 5)
 (.seq
 (.region 2 false [
 ⟨(some 4), .copy (.c (.int .i64 0)), none, 16384, []⟩])
 .ret)
 (.seq
 (.region 3 false [
 ⟨(some 10), .copy (.t 0), none, 24576, []⟩,
 ⟨(some 11), .bin .eql (.t 10) (.c (.str [])), none, 24584, [0]⟩,
 ⟨(some 9), .copy (.t 11), none, 24592, [1, 0]⟩])
 (.cond (.t 9)
 (.seq
 (.region 4 false [
 ⟨(some 4), .copy (.c (.int .i64 1)), none, 32768, []⟩])
 .ret)
 (.seq
 (.region 5 false [
 ⟨(some 13), .copy (.t 1), none, 40960, []⟩,
 ⟨(some 14), .bin .eql (.t 13) (.c (.str [])), none, 40968, [0]⟩,
 ⟨(some 12), .copy (.t 14), none, 40976, [1, 0]⟩])
 (.cond (.t 12)
 (.seq
 (.region 6 false [
 ⟨(some 4), .copy (.c (.int .i64 (-1))), none, 49152, []⟩])
 .ret)
 .skip)))))))
 (.seq
 (.region 7 false [
 ⟨(some 15), .copy (.t 0), none, 57344, []⟩,
 ⟨(some 16), .copy (.t 1), none, 57352, []⟩,
 ⟨(some 17), .call (.c (.fn 53 [])) [(.t 15), (.t 16)], none, 57360, [0, 1]⟩,
 ⟨(some 4), .copy (.t 17), none, 57368, [2, 0, 1]⟩])
 .ret)))
theorem vf43 : VF Try.prog 43 = some (18, vc43, [.tmp 4]) := by kernel_rfl
/-- cmp.Compare[downspout/span.end] -/
def vc53 : VCode :=
 (.seq
 (.region 0 false [
 ⟨(some 4), .copy (.c (.int .i64 0)), none, 0, []⟩])
 (.seq
 (.region 1 false [
 ⟨(some 7), .copy (.t 0), none, 8192, []⟩,
 ⟨(some 8), .call (.c (.fn 59 [])) [(.t 7)], none, 8200, [0]⟩,
 ⟨(some 5), .copy (.t 8), none, 8208, [1, 0]⟩])
 (.seq
 (.region 2 false [
 ⟨(some 9), .copy (.t 1), none, 16384, []⟩,
 ⟨(some 10), .call (.c (.fn 59 [])) [(.t 9)], none, 16392, [0]⟩,
 ⟨(some 6), .copy (.t 10), none, 16400, [1, 0]⟩])
 (.seq
 (.seq
 (.region 3 false [
 ⟨(some 11), .copy (.t 5), none, 24576, []⟩])
 (.cond (.t 11)
 (.seq
 (.seq
 (.region 4 false [
 ⟨(some 12), .copy (.t 6), none, 32768, []⟩])
 (.cond (.t 12)
 (.seq
 (.region 5 false [
 ⟨(some 4), .copy (.c (.int .i64 0)), none, 40960, []⟩])
 .ret)
 .skip))
 (.seq
 (.region 6 false [
 ⟨(some 4), .copy (.c (.int .i64 (-1))), none, 49152, []⟩])
 .ret))
 .skip))
 (.seq
 (.seq
 (.region 7 false [
 ⟨(some 13), .copy (.t 6), none, 57344, []⟩])
 (.cond (.t 13)
 (.seq
 (.region 8 false [
 ⟨(some 4), .copy (.c (.int .i64 1)), none, 65536, []⟩])
 .ret)
 .skip))
 (.seq
 (.seq
 (.region 9 false [
 ⟨(some 14), .copy (.t 0), none, 73728, []⟩,
 ⟨(some 15), .copy (.t 1), none, 73736, []⟩,
 ⟨(some 16), .bin .lss (.t 14) (.t 15), none, 73744, [0, 1]⟩])
 (.cond (.t 16)
 (.seq
 (.region 10 false [
 ⟨(some 4), .copy (.c (.int .i64 (-1))), none, 81920, []⟩])
 .ret)
 .skip))
 (.seq
 (.seq
 (.region 11 false [
 ⟨(some 17), .copy (.t 0), none, 90112, []⟩,
 ⟨(some 18), .copy (.t 1), none, 90120, []⟩,
 ⟨(some 19), .bin .gtr (.t 17) (.t 18), none, 90128, [0, 1]⟩])
 (.cond (.t 19)
 (.seq
 (.region 12 false [
 ⟨(some 4), .copy (.c (.int .i64 1)), none, 98304, []⟩])
 .ret)
 .skip))
 (.seq
 (.region 13 false [
 ⟨(some 4), .copy (.c (.int .i64 0)), none, 106496, []⟩])
 .ret))))))))
theorem vf53 : VF Try.prog 53 = some (20, vc53, [.tmp 4]) := by kernel_rfl
/-- cmp.isNaN[downspout/span.end] -/
def vc59 : VCode :=
 (.seq
 (.region 0 false [
 ⟨(some 2), .copy (.c (.bool false)), none, 0, []⟩])
 (.seq
 (.region 1 false [
 ⟨(some 3), .copy (.t 0), none, 8192, []⟩,
 ⟨(some 4), .copy (.t 0), none, 8200, []⟩,
 ⟨(some 5), .bin .neq (.t 3) (.t 4), none, 8208, [0, 1]⟩,
 ⟨(some 2), .copy (.t 5), none, 8216, [2, 0, 1]⟩])
 .ret))
theorem vf59 : VF Try.prog 59 = some (6, vc59, [.tmp 2]) := by kernel_rfl
/-- cmp.Compare[string] -/
def vc48 : VCode :=
 (.seq
 (.region 0 false [
 ⟨(some 4), .copy (.c (.int .i64 0)), none, 0, []⟩])
 (.seq
 (.region 1 false [
 ⟨(some 7), .copy (.t 0), none, 8192, []⟩,
 ⟨(some 8), .call (.c (.fn 57 [])) [(.t 7)], none, 8200, [0]⟩,
 ⟨(some 5), .copy (.t 8), none, 8208, [1, 0]⟩])
 (.seq
 (.region 2 false [
 ⟨(some 9), .copy (.t 1), none, 16384, []⟩,
 ⟨(some 10), .call (.c (.fn 57 [])) [(.t 9)], none, 16392, [0]⟩,
 ⟨(some 6), .copy (.t 10), none, 16400, [1, 0]⟩])
 (.seq
 (.seq
 (.region 3 false [
 ⟨(some 11), .copy (.t 5), none, 24576, []⟩])
 (.cond (.t 11)
 (.seq
 (.seq
 (.region 4 false [
 ⟨(some 12), .copy (.t 6), none, 32768, []⟩])
 (.cond (.t 12)
 (.seq
 (.region 5 false [
 ⟨(some 4), .copy (.c (.int .i64 0)), none, 40960, []⟩])
 .ret)
 .skip))
 (.seq
 (.region 6 false [
 ⟨(some 4), .copy (.c (.int .i64 (-1))), none, 49152, []⟩])
 .ret))
 .skip))
 (.seq
 (.seq
 (.region 7 false [
 ⟨(some 13), .copy (.t 6), none, 57344, []⟩])
 (.cond (.t 13)
 (.seq
 (.region 8 false [
 ⟨(some 4), .copy (.c (.int .i64 1)), none, 65536, []⟩])
 .ret)
 .skip))
 (.seq
 (.seq
 (.region 9 false [
 ⟨(some 14), .copy (.t 0), none, 73728, []⟩,
 ⟨(some 15), .copy (.t 1), none, 73736, []⟩,
 ⟨(some 16), .bin .lss (.t 14) (.t 15), none, 73744, [0, 1]⟩])
 (.cond (.t 16)
 (.seq
 (.region 10 false [
 ⟨(some 4), .copy (.c (.int .i64 (-1))), none, 81920, []⟩])
 .ret)
 .skip))
 (.seq
 (.seq
 (.region 11 false [
 ⟨(some 17), .copy (.t 0), none, 90112, []⟩,
 ⟨(some 18), .copy (.t 1), none, 90120, []⟩,
 ⟨(some 19), .bin .gtr (.t 17) (.t 18), none, 90128, [0, 1]⟩])
 (.cond (.t 19)
 (.seq
 (.region 12 false [
 ⟨(some 4), .copy (.c (.int .i64 1)), none, 98304, []⟩])
 .ret)
 .skip))
 (.seq
 (.region 13 false [
 ⟨(some 4), .copy (.c (.int .i64 0)), none, 106496, []⟩])
 .ret))))))))
theorem vf48 : VF Try.prog 48 = some (20, vc48, [.tmp 4]) := by kernel_rfl
/-- cmp.isNaN[string] -/
def vc57 : VCode :=
 (.seq
 (.region 0 false [
 ⟨(some 2), .copy (.c (.bool false)), none, 0, []⟩])
 (.seq
 (.region 1 false [
 ⟨(some 3), .copy (.t 0), none, 8192, []⟩,
 ⟨(some 4), .copy (.t 0), none, 8200, []⟩,
 ⟨(some 5), .bin .neq (.t 3) (.t 4), none, 8208, [0, 1]⟩,
 ⟨(some 2), .copy (.t 5), none, 8216, [2, 0, 1]⟩])
 .ret))
theorem vf57 : VF Try.prog 57 = some (6, vc57, [.tmp 2]) := by kernel_rfl
/-- slices.MinFunc[[]downspout/span.end,downspout/span.end] -/
def vc52 : VCode :=
 (.seq
 (.region 0 false [
 ⟨(some 4), .copy (.c (.str [])), none, 0, []⟩])
 (.seq
 (.seq
 (.region 1 false [
 ⟨(some 7), .copy (.t 0), none, 8192, []⟩,
 ⟨(some 8), .len (.t 7), none, 8200, [0]⟩,
 ⟨(some 9), .bin .lss (.t 8) (.c (.int .i64 1)), none, 8208, [1, 0]⟩])
 (.cond (.t 9)
 (.region 2 false [
 ⟨(some 10), .bad, none, 16384, []⟩,
 ⟨none, .bad, none, 16392, [0]⟩])
 .skip))
 (.seq
 (.region 3 false [
 ⟨(some 11), .copy (.t 0), none, 24576, []⟩,
 ⟨(some 12), .iaddr 1 (.t 11) (.c (.int .i64 0)), none, 24584, [0]⟩,
 ⟨(some 13), .load false 1 (.t 12), none, 24592, [1, 0]⟩,
 ⟨(some 5), .copy (.t 13), none, 24600, [2, 1, 0]⟩])
 (.seq
 (.seq
 (.region 4 false [
 ⟨(some 6), .copy (.c (.int .i64 1)), none, 32768, []⟩])
 (.block 0
 (.loop
 (.seq
 (.seq
 (.region 5 false [
 ⟨(some 14), .copy (.t 6), none, 40960, []⟩,
 ⟨(some 15), .copy (.t 0), none, 40968, []⟩,
 ⟨(some 16), .len (.t 15), none, 40976, [1]⟩,
 ⟨(some 17), .bin .lss (.t 14) (.t 16), none, 40984, [0, 2, 1]⟩])
 (.cond (.t 17)
 .skip
 (.exit 0)))
 (.seq
 (.block 1
 (.seq
 (.region 7 false [
 ⟨(some 20), .copy (.t 1), none, 57344, []⟩,
 ⟨(some 21), .copy (.t 0), none, 57352, []⟩,
 ⟨(some 22), .copy (.t 6), none, 57360, []⟩,
 ⟨(some 23), .iaddr 1 (.t 21) (.t 22), none, 57368, [1, 2]⟩,
 ⟨(some 24), .load false 1 (.t 23), none, 57376, [3, 1, 2]⟩,
 ⟨(some 25), .copy (.t 5), none, 57384, []⟩,
 ⟨(some 26), .call (.t 20) [(.t 24), (.t 25)], none, 57392, [0, 4, 3, 1, 2, 5]⟩,
 ⟨(some 27), .bin .lss (.t 26) (.c (.int .i64 0)), none, 57400, [6, 0, 4, 3, 1, 2, 5]⟩])
 (.cond (.t 27)
 (.region 8 false [
 ⟨(some 28), .copy (.t 0), none, 65536, []⟩,
 ⟨(some 29), .copy (.t 6), none, 65544, []⟩,
 ⟨(some 30), .iaddr 1 (.t 28) (.t 29), none, 65552, [0, 1]⟩,
 ⟨(some 31), .load false 1 (.t 30), none, 65560, [2, 0, 1]⟩,
 ⟨(some 5), .copy (.t 31), none, 65568, [3, 2, 0, 1]⟩])
 .skip)))
 (.region 6 false [
 ⟨(some 18), .copy (.t 6), none, 49152, []⟩,
 ⟨(some 19), .bin .add (.t 18) (.c (.int .i64 1)), none, 49160, [0]⟩,
 ⟨(some 6), .copy (.t 19), none, 49168, [1, 0]⟩]))))))
 (.seq
 (.region 9 false [
 ⟨(some 32), .copy (.t 5), none, 73728, []⟩,
 ⟨(some 4), .copy (.t 32), none, 73736, [0]⟩])
 .ret)))))
theorem vf52 : VF Try.prog 52 = some (33, vc52, [.tmp 4]) := by kernel_rfl
/-- downspout/span.least -/
def vc40 : VCode :=
 (.seq
 (.region 0 false [
 ⟨(some 2), .copy (.c (.str [])), none, 0, []⟩])
 (.seq
 (.region 1 false [
 ⟨(some 3), .copy (.t 0), none, 8192, []⟩,
 ⟨(some 4), .call (.c (.fn 52 [])) [(.t 3), (.c (.fn 43 []))], none, 8200, [0]⟩,
 ⟨(some 2), .copy (.t 4), none, 8208, [1, 0]⟩])
 .ret))
theorem vf40 : VF Try.prog 40 = some (5, vc40, [.tmp 2]) := by kernel_rfl
/-- downspout/span.Meet -/
def vc25 : VCode :=
 (.seq
 (.region 0 false [
 ⟨(some 2), .box (.t 0), none, 0, []⟩,
 ⟨(some 3), .box (.t 1), none, 8, []⟩,
 ⟨(some 4), .alloc [(.str []), (.str [])], none, 16, []⟩])
 (.seq
 (.region 1 true [
 ⟨(some 6), .faddr 0 (.t 2), none, 8192, []⟩,
 ⟨(some 7), .load false 1 (.t 6), none, 8200, [0]⟩,
 ⟨(some 8), .faddr 0 (.t 3), none, 8208, []⟩,
 ⟨(some 9), .load false 1 (.t 8), none, 8216, [2]⟩,
 ⟨(some 10), .minmax true (.t 7) (.t 9), none, 8224, [1, 0, 3, 2]⟩,
 ⟨(some 11), .faddr 1 (.t 2), none, 8232, []⟩,
 ⟨(some 12), .load false 1 (.t 11), none, 8240, [5]⟩,
 ⟨(some 13), .faddr 1 (.t 3), none, 8248, []⟩,
 ⟨(some 14), .load false 1 (.t 13), none, 8256, [7]⟩,
 ⟨(some 15), .bslice 1 [(.str [])] 2 [(0, (.t 12)), (1, (.t 14))], none, 8264, [6, 5, 8, 7]⟩,
 ⟨(some 16), .call (.c (.fn 40 [])) [(.t 15)], none, 8272, [9, 6, 5, 8, 7]⟩,
 ⟨(some 17), .build [(.str []), (.str [])] [(0, 1, (.t 10)), (1, 1, (.t 16))], none, 8280, [4, 1, 0, 3, 2, 10, 9, 6, 5, 8, 7]⟩,
 ⟨(some 5), .alloc [(.str []), (.str [])], none, 8288, []⟩,
 ⟨none, .store 2 (.t 5) (.t 17), none, 8296, [12, 11, 4, 1, 0, 3, 2, 10, 9, 6, 5, 8, 7]⟩])
 (.seq
 (.seq
 (.region 2 false [
 ⟨(some 18), .load true 2 (.t 5), none, 16384, []⟩,
 ⟨(some 19), .call (.c (.fn 23 [])) [(.t 18)], none, 16392, [0]⟩])
 (.cond (.t 19)
 (.seq
 (.region 3 false [
 ⟨(some 20), .build [(.str []), (.str [])] [(0, 1, (.c (.str [97]))), (1, 1, (.c (.str [97])))], none, 24576, []⟩,
 ⟨none, .store 2 (.t 4) (.t 20), none, 24584, [0]⟩])
 .ret)
 .skip))
 (.seq
 (.region 4 false [
 ⟨(some 21), .load true 2 (.t 5), none, 32768, []⟩,
 ⟨none, .store 2 (.t 4) (.t 21), none, 32776, [0]⟩])
 .ret))))
theorem vf25 : VF Try.prog 25 = some (22, vc25, [.cell true 2 4]) := by kernel_rfl
/-- downspout/span.Covers -/
def vc27 : VCode :=
 (.seq
 (.region 0 false [
 ⟨(some 2), .box (.t 0), none, 0, []⟩,
 ⟨(some 3), .box (.t 1), none, 8, []⟩,
 ⟨(some 4), .copy (.c (.bool false)), none, 16, []⟩])
 (.seq
 (.region 1 false [
 ⟨(some 5), .load true 2 (.t 3), none, 8192, []⟩,
 ⟨(some 6), .call (.c (.fn 23 [])) [(.t 5)], none, 8200, [0]⟩,
 ⟨(some 7), .copy (.t 6), none, 8208, [1, 0]⟩,
 ⟨(some 8), .load true 2 (.t 2), (some (2, 7, false)), 8216, [2, 1, 0]⟩,
 ⟨(some 9), .faddr 0 (.t 3), (some (2, 7, false)), 8224, [2, 1, 0]⟩,
 ⟨(some 10), .load false 1 (.t 9), (some (2, 7, false)), 8232, [4, 2, 1, 0]⟩,
 ⟨(some 11), .call (.c (.fn 21 [])) [(.t 8), (.t 10)], (some (2, 7, false)), 8240, [3, 2, 1, 0, 5, 4]⟩,
 ⟨(some 12), .copy (.t 11), (some (2, 7, false)), 8248, [6, 3, 2, 1, 0, 5, 4]⟩,
 ⟨(some 13), .faddr 1 (.t 2), (some (7, 12, true)), 8256, [7, 6, 3, 2, 1, 0, 5, 4]⟩,
 ⟨(some 14), .load false 1 (.t 13), (some (7, 12, true)), 8264, [8, 7, 6, 3, 2, 1, 0, 5, 4]⟩,
 ⟨(some 15), .faddr 1 (.t 3), (some (7, 12, true)), 8272, [7, 6, 3, 2, 1, 0, 5, 4]⟩,
 ⟨(some 16), .load false 1 (.t 15), (some (7, 12, true)), 8280, [10, 7, 6, 3, 2, 1, 0, 5, 4]⟩,
 ⟨(some 17), .call (.c (.fn 43 [])) [(.t 14), (.t 16)], (some (7, 12, true)), 8288, [9, 8, 7, 6, 3, 2, 1, 0, 5, 4, 11, 10]⟩,
 ⟨(some 18), .bin .geq (.t 17) (.c (.int .i64 0)), (some (7, 12, true)), 8296, [12, 9, 8, 7, 6, 3, 2, 1, 0, 5, 4, 11, 10]⟩,
 ⟨(some 19), .pick (.t 12) (.t 18) (.c (.bool false)), (some (2, 7, false)), 8304, [7, 6, 3, 2, 1, 0, 5, 4, 13, 12, 9, 8, 11, 10]⟩,
 ⟨(some 20), .pick (.t 7) (.c (.bool true)) (.t 19), none, 8312, [2, 1, 0, 14, 7, 6, 3, 5, 4, 13, 12, 9, 8, 11, 10]⟩,
 ⟨(some 4), .copy (.t 20), none, 8320, [15, 2, 1, 0, 14, 7, 6, 3, 5, 4, 13, 12, 9, 8, 11, 10]⟩])
 .ret))
theorem vf27 : VF Try.prog 27 = some (21, vc27, [.tmp 4]) := by kernel_rfl
/-- downspout/downspoutref02.Less -/
def vc41 : VCode :=
 (.seq
 (.region 0 false [
 ⟨(some 4), .copy (.c (.bool false)), none, 0, []⟩])
 (.seq
 (.region 1 false [
 ⟨(some 5), .copy (.t 0), none, 8192, []⟩,
 ⟨(some 6), .bin .neq (.t 5) (.c (.str [])), none, 8200, [0]⟩,
 ⟨(some 7), .copy (.t 6), none, 8208, [1, 0]⟩,
 ⟨(some 8), .copy (.t 1), (some (2, 7, true)), 8216, [2, 1, 0]⟩,
 ⟨(some 9), .bin .eql (.t 8) (.c (.str [])), (some (2, 7, true)), 8224, [3, 2, 1, 0]⟩,
 ⟨(some 10), .copy (.t 9), (some (2, 7, true)), 8232, [4, 3, 2, 1, 0]⟩,
 ⟨(some 11), .copy (.t 0), (some (5, 10, false)), 8240, [5, 4, 3, 2, 1, 0]⟩,
 ⟨(some 12), .copy (.t 1), (some (5, 10, false)), 8248, [5, 4, 3, 2, 1, 0]⟩,
 ⟨(some 13), .bin .lss (.t 11) (.t 12), (some (5, 10, false)), 8256, [6, 5, 4, 3, 2, 1, 0, 7]⟩,
 ⟨(some 14), .pick (.t 10) (.c (.bool true)) (.t 13), (some (2, 7, true)), 8264, [5, 4, 3, 2, 1, 0, 8, 6, 7]⟩,
 ⟨(some 15), .pick (.t 7) (.t 14) (.c (.bool false)), none, 8272, [2, 1, 0, 9, 5, 4, 3, 8, 6, 7]⟩,
 ⟨(some 4), .copy (.t 15), none, 8280, [10, 2, 1, 0, 9, 5, 4, 3, 8, 6, 7]⟩])
 .ret))
theorem vf41 : VF Try.prog 41 = some (16, vc41, [.tmp 4]) := by kernel_rfl
/-- downspout/downspoutref02.Meet -/
def vc26 : VCode :=
 (.seq
 (.region 0 false [
 ⟨(some 2), .box (.t 0), none, 0, []⟩,
 ⟨(some 3), .box (.t 1), none, 8, []⟩,
 ⟨(some 4), .alloc [(.str []), (.str [])], none, 16, []⟩])
 (.seq
 (.region 1 false [
 ⟨(some 6), .faddr 0 (.t 2), none, 8192, []⟩,
 ⟨(some 7), .load false 1 (.t 6), none, 8200, [0]⟩,
 ⟨(some 8), .faddr 0 (.t 3), none, 8208, []⟩,
 ⟨(some 9), .load false 1 (.t 8), none, 8216, [2]⟩,
 ⟨(some 10), .minmax true (.t 7) (.t 9), none, 8224, [1, 0, 3, 2]⟩,
 ⟨(some 11), .faddr 1 (.t 2), none, 8232, []⟩,
 ⟨(some 12), .load false 1 (.t 11), none, 8240, [5]⟩,
 ⟨(some 13), .build [(.str []), (.str [])] [(0, 1, (.t 10)), (1, 1, (.t 12))], none, 8248, [4, 1, 0, 3, 2, 6, 5]⟩,
 ⟨(some 5), .alloc [(.str []), (.str [])], none, 8256, []⟩,
 ⟨none, .store 2 (.t 5) (.t 13), none, 8264, [8, 7, 4, 1, 0, 3, 2, 6, 5]⟩])
 (.seq
 (.seq
 (.region 2 false [
 ⟨(some 14), .faddr 1 (.t 3), none, 16384, []⟩,
 ⟨(some 15), .load false 1 (.t 14), none, 16392, [0]⟩,
 ⟨(some 16), .faddr 1 (.t 2), none, 16400, []⟩,
 ⟨(some 17), .load false 1 (.t 16), none, 16408, [2]⟩,
 ⟨(some 18), .call (.c (.fn 41 [])) [(.t 15), (.t 17)], none, 16416, [1, 0, 3, 2]⟩])
 (.cond (.t 18)
 (.region 3 false [
 ⟨(some 19), .faddr 1 (.t 3), none, 24576, []⟩,
 ⟨(some 20), .load false 1 (.t 19), none, 24584, [0]⟩,
 ⟨(some 21), .faddr 1 (.t 5), none, 24592, [0, 1]⟩,
 ⟨none, .store 1 (.t 21) (.t 20), none, 24600, [2, 0, 1]⟩])
 .skip))
 (.seq
 (.seq
 (.region 4 false [
 ⟨(some 22), .load true 2 (.t 5), none, 32768, []⟩,
 ⟨(some 23), .call (.c (.fn 24 [])) [(.t 22)], none, 32776, [0]⟩])
 (.cond (.t 23)
 (.seq
 (.region 5 false [
 ⟨(some 24), .call (.c (.fn 42 [])) [], none, 40960, []⟩,
 ⟨none, .store 2 (.t 4) (.t 24), none, 40968, [0]⟩])
 .ret)
 .skip))
 (.seq
 (.region 6 false [
 ⟨(some 25), .load true 2 (.t 5), none, 49152, []⟩,
 ⟨none, .store 2 (.t 4) (.t 25), none, 49160, [0]⟩])
 .ret)))))
theorem vf26 : VF Try.prog 26 = some (26, vc26, [.cell true 2 4]) := by kernel_rfl
/-- downspout/downspoutref02.Covers -/
def vc28 : VCode :=
 (.seq
 (.region 0 false [
 ⟨(some 2), .box (.t 0), none, 0, []⟩,
 ⟨(some 3), .box (.t 1), none, 8, []⟩,
 ⟨(some 4), .copy (.c (.bool false)), none, 16, []⟩])
 (.seq
 (.region 1 false [
 ⟨(some 5), .load true 2 (.t 3), none, 8192, []⟩,
 ⟨(some 6), .call (.c (.fn 24 [])) [(.t 5)], none, 8200, [0]⟩,
 ⟨(some 7), .copy (.t 6), none, 8208, [1, 0]⟩,
 ⟨(some 8), .load true 2 (.t 2), (some (2, 7, false)), 8216, [2, 1, 0]⟩,
 ⟨(some 9), .call (.c (.fn 24 [])) [(.t 8)], (some (2, 7, false)), 8224, [3, 2, 1, 0]⟩,
 ⟨(some 10), .not (.t 9), (some (2, 7, false)), 8232, [4, 3, 2, 1, 0]⟩,
 ⟨(some 11), .copy (.t 10), (some (2, 7, false)), 8240, [5, 4, 3, 2, 1, 0]⟩,
 ⟨(some 12), .faddr 0 (.t 2), (some (6, 11, true)), 8248, [6, 5, 4, 3, 2, 1, 0]⟩,
 ⟨(some 13), .load false 1 (.t 12), (some (6, 11, true)), 8256, [7, 6, 5, 4, 3, 2, 1, 0]⟩,
 ⟨(some 14), .faddr 0 (.t 3), (some (6, 11, true)), 8264, [6, 5, 4, 3, 2, 1, 0]⟩,
 ⟨(some 15), .load false 1 (.t 14), (some (6, 11, true)), 8272, [9, 6, 5, 4, 3, 2, 1, 0]⟩,
 ⟨(some 16), .bin .leq (.t 13) (.t 15), (some (6, 11, true)), 8280, [8, 7, 6, 5, 4, 3, 2, 1, 0, 10, 9]⟩,
 ⟨(some 17), .pick (.t 11) (.t 16) (.c (.bool false)), (some (2, 7, false)), 8288, [6, 5, 4, 3, 2, 1, 0, 11, 8, 7, 10, 9]⟩,
 ⟨(some 18), .copy (.t 17), (some (2, 7, false)), 8296, [12, 6, 5, 4, 3, 2, 1, 0, 11, 8, 7, 10, 9]⟩,
 ⟨(some 19), .faddr 1 (.t 2), (some (13, 18, true)), 8304, [13, 12, 6, 5, 4, 3, 2, 1, 0, 11, 8, 7, 10, 9]⟩,
 ⟨(some 20), .load false 1 (.t 19), (some (13, 18, true)), 8312, [14, 13, 12, 6, 5, 4, 3, 2, 1, 0, 11, 8, 7, 10, 9]⟩,
 ⟨(some 21), .faddr 1 (.t 3), (some (13, 18, true)), 8320, [13, 12, 6, 5, 4, 3, 2, 1, 0, 11, 8, 7, 10, 9]⟩,
 ⟨(some 22), .load false 1 (.t 21), (some (13, 18, true)), 8328, [16, 13, 12, 6, 5, 4, 3, 2, 1, 0, 11, 8, 7, 10, 9]⟩,
 ⟨(some 23), .call (.c (.fn 41 [])) [(.t 20), (.t 22)], (some (13, 18, true)), 8336, [15, 14, 13, 12, 6, 5, 4, 3, 2, 1, 0, 11, 8, 7, 10, 9, 17, 16]⟩,
 ⟨(some 24), .not (.t 23), (some (13, 18, true)), 8344, [18, 15, 14, 13, 12, 6, 5, 4, 3, 2, 1, 0, 11, 8, 7, 10, 9, 17, 16]⟩,
 ⟨(some 25), .pick (.t 18) (.t 24) (.c (.bool false)), (some (2, 7, false)), 8352, [13, 12, 6, 5, 4, 3, 2, 1, 0, 11, 8, 7, 10, 9, 19, 18, 15, 14, 17, 16]⟩,
 ⟨(some 26), .pick (.t 7) (.c (.bool true)) (.t 25), none, 8360, [2, 1, 0, 20, 13, 12, 6, 5, 4, 3, 11, 8, 7, 10, 9, 19, 18, 15, 14, 17, 16]⟩,
 ⟨(some 4), .copy (.t 26), none, 8368, [21, 2, 1, 0, 20, 13, 12, 6, 5, 4, 3, 11, 8, 7, 10, 9, 19, 18, 15, 14, 17, 16]⟩])
 .ret))
theorem vf28 : VF Try.prog 28 = some (27, vc28, [.tmp 4]) := by kernel_rfl
/-- internal/stringslite.HasPrefix -/
def vc58 : VCode :=
 (.seq
 (.region 0 false [
 ⟨(some 4), .copy (.c (.bool false)), none, 0, []⟩])
 (.seq
 (.region 1 false [
 ⟨(some 5), .copy (.t 0), none, 8192, []⟩,
 ⟨(some 6), .lenS (.t 5), none, 8200, [0]⟩,
 ⟨(some 7), .copy (.t 1), none, 8208, []⟩,
 ⟨(some 8), .lenS (.t 7), none, 8216, [2]⟩,
 ⟨(some 9), .bin .geq (.t 6) (.t 8), none, 8224, [1, 0, 3, 2]⟩,
 ⟨(some 10), .copy (.t 9), none, 8232, [4, 1, 0, 3, 2]⟩,
 ⟨(some 11), .copy (.t 0), (some (5, 10, true)), 8240, [5, 4, 1, 0, 3, 2]⟩,
 ⟨(some 12), .copy (.t 1), (some (5, 10, true)), 8248, [5, 4, 1, 0, 3, 2]⟩,
 ⟨(some 13), .lenS (.t 12), (some (5, 10, true)), 8256, [7, 5, 4, 1, 0, 3, 2]⟩,
 ⟨(some 14), .slstr (.t 11) none (some (.t 13)), (some (5, 10, true)), 8264, [6, 5, 4, 1, 0, 3, 2, 8, 7]⟩,
 ⟨(some 15), .copy (.t 1), (some (5, 10, true)), 8272, [5, 4, 1, 0, 3, 2]⟩,
 ⟨(some 16), .bin .eql (.t 14) (.t 15), (some (5, 10, true)), 8280, [9, 6, 5, 4, 1, 0, 3, 2, 8, 7, 10]⟩,
 ⟨(some 17), .pick (.t 10) (.t 16) (.c (.bool false)), none, 8288, [5, 4, 1, 0, 3, 2, 11, 9, 6, 8, 7, 10]⟩,
 ⟨(some 4), .copy (.t 17), none, 8296, [12, 5, 4, 1, 0, 3, 2, 11, 9, 6, 8, 7, 10]⟩])
 .ret))
theorem vf58 : VF Try.prog 58 = some (18, vc58, [.tmp 4]) := by kernel_rfl
/-- internal/stringslite.CutPrefix -/
def vc51 : VCode :=
 (.seq
 (.region 0 false [
 ⟨(some 4), .copy (.c (.str [])), none, 0, []⟩,
 ⟨(some 5), .copy (.c (.bool false)), none, 8, [0]⟩])
 (.seq
 (.seq
 (.region 1 false [
 ⟨(some 6), .copy (.t 0), none, 8192, []⟩,
 ⟨(some 7), .copy (.t 1), none, 8200, []⟩,
 ⟨(some 8), .call (.c (.fn 58 [])) [(.t 6), (.t 7)], none, 8208, [0, 1]⟩,
 ⟨(some 9), .not (.t 8), none, 8216, [2, 0, 1]⟩])
 (.cond (.t 9)
 (.seq
 (.region 2 false [
 ⟨(some 10), .copy (.t 0), none, 16384, []⟩,
 ⟨(some 4), .copy (.t 10), none, 16392, [0]⟩,
 ⟨(some 5), .copy (.c (.bool false)), none, 16400, [1, 0]⟩])
 .ret)
 .skip))
 (.seq
 (.region 3 false [
 ⟨(some 11), .copy (.t 0), none, 24576, []⟩,
 ⟨(some 12), .copy (.t 1), none, 24584, []⟩,
 ⟨(some 13), .lenS (.t 12), none, 24592, [1]⟩,
 ⟨(some 14), .slstr (.t 11) (some (.t 13)) none, none, 24600, [0, 2, 1]⟩,
 ⟨(some 4), .copy (.t 14), none, 24608, [3, 0, 2, 1]⟩,
 ⟨(some 5), .copy (.c (.bool true)), none, 24616, [4, 3, 0, 2, 1]⟩])
 .ret)))
theorem vf51 : VF Try.prog 51 = some (15, vc51, [.tmp 4, .tmp 5]) := by kernel_rfl
/-- strings.CutPrefix -/
def vc39 : VCode :=
 (.seq
 (.region 0 false [
 ⟨(some 4), .copy (.c (.str [])), none, 0, []⟩,
 ⟨(some 5), .copy (.c (.bool false)), none, 8, [0]⟩])
 (.seq
 (.region 1 false [
 ⟨(some 6), .copy (.t 0), none, 8192, []⟩,
 ⟨(some 7), .copy (.t 1), none, 8200, []⟩,
 ⟨(some 8), .call (.c (.fn 51 [])) [(.t 6), (.t 7)], none, 8208, [0, 1]⟩,
 ⟨(some 9), .extract (.t 8) 0, none, 8216, [2, 0, 1]⟩,
 ⟨(some 10), .extract (.t 8) 1, none, 8224, [2, 0, 1]⟩,
 ⟨(some 4), .copy (.t 9), none, 8232, [3, 2, 0, 1, 4]⟩,
 ⟨(some 5), .copy (.t 10), none, 8240, [4, 2, 0, 1, 5, 3]⟩])
 .ret))
theorem vf39 : VF Try.prog 39 = some (11, vc39, [.tmp 4, .tmp 5]) := by kernel_rfl
/-- downspout/span.Moved -/
def vc13 : VCode :=
 (.seq
 (.region 0 false [
 ⟨(some 6), .copy (.c (.str [])), none, 0, []⟩,
 ⟨(some 7), .copy (.c (.bool false)), none, 8, [0]⟩])
 (.seq
 (.region 1 false [
 ⟨(some 11), .copy (.t 0), none, 8192, []⟩,
 ⟨(some 12), .copy (.t 1), none, 8200, []⟩,
 ⟨(some 13), .call (.c (.fn 39 [])) [(.t 11), (.t 12)], none, 8208, [0, 1]⟩,
 ⟨(some 10), .copy (.t 13), none, 8216, [2, 0, 1]⟩,
 ⟨(some 14), .extract (.t 10) 0, none, 8224, [3, 2, 0, 1]⟩,
 ⟨(some 15), .extract (.t 10) 1, none, 8232, [3, 2, 0, 1]⟩,
 ⟨(some 8), .copy (.t 14), none, 8240, [4, 3, 2, 0, 1]⟩,
 ⟨(some 9), .copy (.t 15), none, 8248, [5, 3, 2, 0, 1, 6, 4]⟩])
 (.seq
 (.seq
 (.region 2 false [
 ⟨(some 16), .copy (.t 9), none, 16384, []⟩,
 ⟨(some 17), .not (.t 16), none, 16392, [0]⟩])
 (.cond (.t 17)
 (.seq
 (.region 3 false [
 ⟨(some 6), .copy (.c (.str [])), none, 24576, []⟩,
 ⟨(some 7), .copy (.c (.bool false)), none, 24584, [0]⟩])
 .ret)
 .skip))
 (.seq
 (.region 4 false [
 ⟨(some 18), .copy (.t 2), none, 32768, []⟩,
 ⟨(some 19), .copy (.t 8), none, 32776, []⟩,
 ⟨(some 20), .bin .add (.t 18) (.t 19), none, 32784, [0, 1]⟩,
 ⟨(some 6), .copy (.t 20), none, 32792, [2, 0, 1]⟩,
 ⟨(some 7), .copy (.c (.bool true)), none, 32800, [3, 2, 0, 1]⟩])
 .ret))))
theorem vf13 : VF Try.prog 13 = some (21, vc13, [.tmp 6, .tmp 7]) := by kernel_rfl
/-- downspout/downspoutref02.Begins -/
def vc37 : VCode :=
 (.seq
 (.region 0 false [
 ⟨(some 4), .copy (.c (.bool false)), none, 0, []⟩])
 (.seq
 (.region 1 false [
 ⟨(some 5), .copy (.t 0), none, 8192, []⟩,
 ⟨(some 6), .lenS (.t 5), none, 8200, [0]⟩,
 ⟨(some 7), .copy (.t 1), none, 8208, []⟩,
 ⟨(some 8), .lenS (.t 7), none, 8216, [2]⟩,
 ⟨(some 9), .bin .geq (.t 6) (.t 8), none, 8224, [1, 0, 3, 2]⟩,
 ⟨(some 10), .copy (.t 9), none, 8232, [4, 1, 0, 3, 2]⟩,
 ⟨(some 11), .copy (.t 0), (some (5, 10, true)), 8240, [5, 4, 1, 0, 3, 2]⟩,
 ⟨(some 12), .copy (.t 1), (some (5, 10, true)), 8248, [5, 4, 1, 0, 3, 2]⟩,
 ⟨(some 13), .lenS (.t 12), (some (5, 10, true)), 8256, [7, 5, 4, 1, 0, 3, 2]⟩,
 ⟨(some 14), .slstr (.t 11) none (some (.t 13)), (some (5, 10, true)), 8264, [6, 5, 4, 1, 0, 3, 2, 8, 7]⟩,
 ⟨(some 15), .copy (.t 1), (some (5, 10, true)), 8272, [5, 4, 1, 0, 3, 2]⟩,
 ⟨(some 16), .bin .eql (.t 14) (.t 15), (some (5, 10, true)), 8280, [9, 6, 5, 4, 1, 0, 3, 2, 8, 7, 10]⟩,
 ⟨(some 17), .pick (.t 10) (.t 16) (.c (.bool false)), none, 8288, [5, 4, 1, 0, 3, 2, 11, 9, 6, 8, 7, 10]⟩,
 ⟨(some 4), .copy (.t 17), none, 8296, [12, 5, 4, 1, 0, 3, 2, 11, 9, 6, 8, 7, 10]⟩])
 .ret))
theorem vf37 : VF Try.prog 37 = some (18, vc37, [.tmp 4]) := by kernel_rfl
/-- downspout/downspoutref02.Moved -/
def vc14 : VCode :=
 (.seq
 (.region 0 false [
 ⟨(some 6), .copy (.c (.str [])), none, 0, []⟩,
 ⟨(some 7), .copy (.c (.bool false)), none, 8, [0]⟩])
 (.seq
 (.seq
 (.region 1 false [
 ⟨(some 8), .copy (.t 0), none, 8192, []⟩,
 ⟨(some 9), .copy (.t 1), none, 8200, []⟩,
 ⟨(some 10), .call (.c (.fn 37 [])) [(.t 8), (.t 9)], none, 8208, [0, 1]⟩,
 ⟨(some 11), .not (.t 10), none, 8216, [2, 0, 1]⟩])
 (.cond (.t 11)
 (.seq
 (.region 2 false [
 ⟨(some 6), .copy (.c (.str [])), none, 16384, []⟩,
 ⟨(some 7), .copy (.c (.bool false)), none, 16392, [0]⟩])
 .ret)
 .skip))
 (.seq
 (.region 3 false [
 ⟨(some 12), .copy (.t 2), none, 24576, []⟩,
 ⟨(some 13), .copy (.t 0), none, 24584, []⟩,
 ⟨(some 14), .copy (.t 1), none, 24592, []⟩,
 ⟨(some 15), .lenS (.t 14), none, 24600, [2]⟩,
 ⟨(some 16), .slstr (.t 13) (some (.t 15)) none, none, 24608, [1, 3, 2]⟩,
 ⟨(some 17), .bin .add (.t 12) (.t 16), none, 24616, [0, 4, 1, 3, 2]⟩,
 ⟨(some 6), .copy (.t 17), none, 24624, [5, 0, 4, 1, 3, 2]⟩,
 ⟨(some 7), .copy (.c (.bool true)), none, 24632, [6, 5, 0, 4, 1, 3, 2]⟩])
 .ret)))
theorem vf14 : VF Try.prog 14 = some (18, vc14, [.tmp 6, .tmp 7]) := by kernel_rfl
abbrev encS (s : SpanL) : List PV := [.str s.lo, .str s.hi]
theorem has_vc (s : SpanL) (k : Str) : VC Try.prog 21 [.agg (encS s), .str k] [] (.bool (hasL s k)) [] := by
  refine vc_of vf21 ?_ (Nat.le_of_ble_eq_true rfl) (by intro vs h; cases h)
  repeat' first | refine o_copy ?_ | refine nl ?_ | refine ct_seq ?_ | refine rg ?_ | refine ct_block ?_ | refine bq ?_ | refine ct_skip ?_ | refine ct_exit ?_ | refine rt_next ?_ | refine cndt ?_ | refine cndf ?_ | refine o_copy ?_ | refine o_loads ?_ | refine o_loadp ?_ | refine o_faddr ?_ | refine o_bin ?_ | refine o_box ?_ | refine o_pickt ?_ | refine o_pickf ?_ | refine skF ?_ | refine skU ?_ | refine ct_ret ⟨.inr rfl, ?_⟩ | refine cnd (fun _ => ?_) (fun _ => ?_) | (refine glook (fun _ => ?_) (fun _ => ?_) <;> first | refine o_copy ?_ | refine o_loads ?_ | refine o_loadp ?_ | refine o_faddr ?_ | refine o_bin ?_ | refine o_box ?_ | refine o_pickt ?_ | refine o_pickf ?_ | refine skF ?_ | refine skU ?_)
  all_goals refine oB ?_
  all_goals simp_all [hasL]
theorem rhas_vc (s : SpanL) (k : Str) : VC Try.prog 22 [.agg (encS s), .str k] [] (.bool (hasL s k)) [] := by
  refine vc_of vf22 ?_ (Nat.le_of_ble_eq_true rfl) (by intro vs h; cases h)
  repeat' first | refine o_copy ?_ | refine nl ?_ | refine ct_seq ?_ | refine rg ?_ | refine ct_block ?_ | refine bq ?_ | refine ct_skip ?_ | refine ct_exit ?_ | refine rt_next ?_ | refine cndt ?_ | refine cndf ?_ | refine o_copy ?_ | refine o_loads ?_ | refine o_loadp ?_ | refine o_faddr ?_ | refine o_bin ?_ | refine o_box ?_ | refine o_pickt ?_ | refine o_pickf ?_ | refine skF ?_ | refine skU ?_ | refine ct_ret ⟨.inr rfl, ?_⟩ | refine cnd (fun _ => ?_) (fun _ => ?_) | (refine glook (fun _ => ?_) (fun _ => ?_) <;> first | refine o_copy ?_ | refine o_loads ?_ | refine o_loadp ?_ | refine o_faddr ?_ | refine o_bin ?_ | refine o_box ?_ | refine o_pickt ?_ | refine o_pickf ?_ | refine skF ?_ | refine skU ?_)
  all_goals refine oB ?_
  all_goals simp_all [hasL]
theorem empty_vc (s : SpanL) : VC Try.prog 23 [.agg (encS s)] [] (.bool (emptyL s)) [] := by
  refine vc_of vf23 ?_ (Nat.le_of_ble_eq_true rfl) (by intro vs h; cases h)
  repeat' first | refine o_copy ?_ | refine nl ?_ | refine ct_seq ?_ | refine rg ?_ | refine ct_block ?_ | refine bq ?_ | refine ct_skip ?_ | refine ct_exit ?_ | refine rt_next ?_ | refine cndt ?_ | refine cndf ?_ | refine o_copy ?_ | refine o_loads ?_ | refine o_loadp ?_ | refine o_faddr ?_ | refine o_bin ?_ | refine o_box ?_ | refine o_pickt ?_ | refine o_pickf ?_ | refine skF ?_ | refine skU ?_ | refine ct_ret ⟨.inr rfl, ?_⟩ | refine cnd (fun _ => ?_) (fun _ => ?_) | (refine glook (fun _ => ?_) (fun _ => ?_) <;> first | refine o_copy ?_ | refine o_loads ?_ | refine o_loadp ?_ | refine o_faddr ?_ | refine o_bin ?_ | refine o_box ?_ | refine o_pickt ?_ | refine o_pickf ?_ | refine skF ?_ | refine skU ?_)
  all_goals refine oB ?_
  all_goals simp_all [emptyL]
theorem rempty_vc (s : SpanL) : VC Try.prog 24 [.agg (encS s)] [] (.bool (emptyL s)) [] := by
  refine vc_of vf24 ?_ (Nat.le_of_ble_eq_true rfl) (by intro vs h; cases h)
  repeat' first | refine o_copy ?_ | refine nl ?_ | refine ct_seq ?_ | refine rg ?_ | refine ct_block ?_ | refine bq ?_ | refine ct_skip ?_ | refine ct_exit ?_ | refine rt_next ?_ | refine cndt ?_ | refine cndf ?_ | refine o_copy ?_ | refine o_loads ?_ | refine o_loadp ?_ | refine o_faddr ?_ | refine o_bin ?_ | refine o_box ?_ | refine o_pickt ?_ | refine o_pickf ?_ | refine skF ?_ | refine skU ?_ | refine ct_ret ⟨.inr rfl, ?_⟩ | refine cnd (fun _ => ?_) (fun _ => ?_) | (refine glook (fun _ => ?_) (fun _ => ?_) <;> first | refine o_copy ?_ | refine o_loads ?_ | refine o_loadp ?_ | refine o_faddr ?_ | refine o_bin ?_ | refine o_box ?_ | refine o_pickt ?_ | refine o_pickf ?_ | refine skF ?_ | refine skU ?_)
  all_goals refine oB ?_
  all_goals simp_all [emptyL]
theorem one_vc (k : Str) (hk : k.length ≤ 1000000000) : VC Try.prog 17 [.str k] [] (.agg (encS (oneL k))) [] := by
  refine vc_of vf17 ?_ (Nat.le_of_ble_eq_true rfl) (by intro vs h; cases h)
  repeat' first | refine o_copy ?_ | refine nl ?_ | refine ct_seq ?_ | refine rg ?_ | refine ct_block ?_ | refine bq ?_ | refine ct_skip ?_ | refine ct_exit ?_ | refine rt_next ?_ | refine cndt ?_ | refine cndf ?_ | refine o_copy ?_ | refine o_add ?_ | refine o_cat ?_ | refine o_bin ?_ | refine o_alloc ?_ | refine o_store ?_ | refine o_build ?_ | refine ct_ret ⟨.inr rfl, ?_⟩ | refine cnd (fun _ => ?_) (fun _ => ?_) | (refine glook (fun _ => ?_) (fun _ => ?_) <;> first | refine o_copy ?_ | refine o_add ?_ | refine o_cat ?_ | refine o_bin ?_ | refine o_alloc ?_ | refine o_store ?_ | refine o_build ?_)
  all_goals exact oAny rfl
theorem rone_vc (k : Str) (hk : k.length ≤ 1000000000) : VC Try.prog 18 [.str k] [] (.agg (encS (oneL k))) [] := by
  refine vc_of vf18 ?_ (Nat.le_of_ble_eq_true rfl) (by intro vs h; cases h)
  repeat' first | refine o_copy ?_ | refine nl ?_ | refine ct_seq ?_ | refine rg ?_ | refine ct_block ?_ | refine bq ?_ | refine ct_skip ?_ | refine ct_exit ?_ | refine rt_next ?_ | refine cndt ?_ | refine cndf ?_ | refine o_copy ?_ | refine o_add ?_ | refine o_cat ?_ | refine o_bin ?_ | refine o_alloc ?_ | refine o_store ?_ | refine o_build ?_ | refine ct_ret ⟨.inr rfl, ?_⟩ | refine cnd (fun _ => ?_) (fun _ => ?_) | (refine glook (fun _ => ?_) (fun _ => ?_) <;> first | refine o_copy ?_ | refine o_add ?_ | refine o_cat ?_ | refine o_bin ?_ | refine o_alloc ?_ | refine o_store ?_ | refine o_build ?_)
  all_goals exact oAny rfl
theorem sp_vc (a b : Str) : VC Try.prog 19 [.str a, .str b] [] (.agg (encS ⟨a, b⟩)) [] := by
  refine vc_of vf19 ?_ (Nat.le_of_ble_eq_true rfl) (by intro vs h; cases h)
  repeat' first | refine o_copy ?_ | refine nl ?_ | refine ct_seq ?_ | refine rg ?_ | refine ct_block ?_ | refine bq ?_ | refine ct_skip ?_ | refine ct_exit ?_ | refine rt_next ?_ | refine cndt ?_ | refine cndf ?_ | refine o_copy ?_ | refine o_alloc ?_ | refine o_store ?_ | refine o_build ?_ | refine ct_ret ⟨.inr rfl, ?_⟩ | refine cnd (fun _ => ?_) (fun _ => ?_) | (refine glook (fun _ => ?_) (fun _ => ?_) <;> first | refine o_copy ?_ | refine o_alloc ?_ | refine o_store ?_ | refine o_build ?_)
  all_goals exact oAny rfl
theorem none_vc : VC Try.prog 42 [] [] (.agg (encS noneL)) [] := by
  refine vc_of vf42 ?_ (Nat.le_of_ble_eq_true rfl) (by intro vs h; cases h)
  repeat' first | refine o_copy ?_ | refine nl ?_ | refine ct_seq ?_ | refine rg ?_ | refine ct_block ?_ | refine bq ?_ | refine ct_skip ?_ | refine ct_exit ?_ | refine rt_next ?_ | refine cndt ?_ | refine cndf ?_ | refine o_copy ?_ | refine o_alloc ?_ | refine o_store ?_ | refine o_build ?_ | refine ct_ret ⟨.inr rfl, ?_⟩ | refine cnd (fun _ => ?_) (fun _ => ?_) | (refine glook (fun _ => ?_) (fun _ => ?_) <;> first | refine o_copy ?_ | refine o_alloc ?_ | refine o_store ?_ | refine o_build ?_)
  all_goals exact oAny rfl
theorem nan_vc (a : Str) : VC Try.prog 57 [.str a] [] (.bool false) [] := by
  refine vc_of vf57 ?_ (Nat.le_of_ble_eq_true rfl) (by intro vs h; cases h)
  repeat' first | refine o_copy ?_ | refine nl ?_ | refine ct_seq ?_ | refine rg ?_ | refine ct_block ?_ | refine bq ?_ | refine ct_skip ?_ | refine ct_exit ?_ | refine rt_next ?_ | refine cndt ?_ | refine cndf ?_ | refine o_copy ?_ | refine o_bin ?_ | refine ct_ret ⟨.inr rfl, ?_⟩ | refine cnd (fun _ => ?_) (fun _ => ?_) | (refine glook (fun _ => ?_) (fun _ => ?_) <;> first | refine o_copy ?_ | refine o_bin ?_)
  all_goals refine oB ?_
  all_goals simp
theorem nanE_vc (a : Str) : VC Try.prog 59 [.str a] [] (.bool false) [] := by
  refine vc_of vf59 ?_ (Nat.le_of_ble_eq_true rfl) (by intro vs h; cases h)
  repeat' first | refine o_copy ?_ | refine nl ?_ | refine ct_seq ?_ | refine rg ?_ | refine ct_block ?_ | refine bq ?_ | refine ct_skip ?_ | refine ct_exit ?_ | refine rt_next ?_ | refine cndt ?_ | refine cndf ?_ | refine o_copy ?_ | refine o_bin ?_ | refine ct_ret ⟨.inr rfl, ?_⟩ | refine cnd (fun _ => ?_) (fun _ => ?_) | (refine glook (fun _ => ?_) (fun _ => ?_) <;> first | refine o_copy ?_ | refine o_bin ?_)
  all_goals refine oB ?_
  all_goals simp
theorem cmp_vc (a b : Str) : VC Try.prog 48 [.str a, .str b] [] (.int .i64 (cmpStr a b)) [] := by
  refine vc_of vf48 ?_ (Nat.le_of_ble_eq_true rfl) (by intro vs h; cases h)
  repeat' first | refine o_copy ?_ | refine nl ?_ | refine ct_seq ?_ | refine rg ?_ | refine ct_block ?_ | refine bq ?_ | refine ct_skip ?_ | refine ct_exit ?_ | refine rt_next ?_ | refine cndt ?_ | refine cndf ?_ | refine cv0 (nan_vc _) ?_ | refine o_copy ?_ | refine o_bin ?_ | refine ct_ret ⟨.inr rfl, ?_⟩ | refine cnd (fun _ => ?_) (fun _ => ?_) | (refine glook (fun _ => ?_) (fun _ => ?_) <;> first | refine cv0 (nan_vc _) ?_ | refine o_copy ?_ | refine o_bin ?_)
  all_goals refine oI ?_
  all_goals simp_all [cmpStr]
theorem cmpE_vc (a b : Str) : VC Try.prog 53 [.str a, .str b] [] (.int .i64 (cmpStr a b)) [] := by
  refine vc_of vf53 ?_ (Nat.le_of_ble_eq_true rfl) (by intro vs h; cases h)
  repeat' first | refine o_copy ?_ | refine nl ?_ | refine ct_seq ?_ | refine rg ?_ | refine ct_block ?_ | refine bq ?_ | refine ct_skip ?_ | refine ct_exit ?_ | refine rt_next ?_ | refine cndt ?_ | refine cndf ?_ | refine cv0 (nanE_vc _) ?_ | refine o_copy ?_ | refine o_bin ?_ | refine ct_ret ⟨.inr rfl, ?_⟩ | refine cnd (fun _ => ?_) (fun _ => ?_) | (refine glook (fun _ => ?_) (fun _ => ?_) <;> first | refine cv0 (nanE_vc _) ?_ | refine o_copy ?_ | refine o_bin ?_)
  all_goals refine oI ?_
  all_goals simp_all [cmpStr]
theorem compare_vc (a b : Str) : VC Try.prog 43 [.str a, .str b] [] (.int .i64 (cmpEnd a b)) [] := by
  refine vc_of vf43 ?_ (Nat.le_of_ble_eq_true rfl) (by intro vs h; cases h)
  repeat' first | refine o_copy ?_ | refine nl ?_ | refine ct_seq ?_ | refine rg ?_ | refine ct_block ?_ | refine bq ?_ | refine ct_skip ?_ | refine ct_exit ?_ | refine rt_next ?_ | refine cndt ?_ | refine cndf ?_ | refine cv0 (cmpE_vc _ _) ?_ | refine o_copy ?_ | refine o_bin ?_ | refine ct_ret ⟨.inr rfl, ?_⟩ | refine cnd (fun _ => ?_) (fun _ => ?_) | (refine glook (fun _ => ?_) (fun _ => ?_) <;> first | refine cv0 (cmpE_vc _ _) ?_ | refine o_copy ?_ | refine o_bin ?_)
  all_goals refine oI ?_
  all_goals simp_all [cmpEnd]
end Go.Proofs
open Go.V Go.Pu
set_option linter.unusedVariables false
set_option linter.unusedSimpArgs false
set_option maxRecDepth 20000
namespace Go.Proofs
theorem minFunc_vc (a b : Str) : VC Try.prog 52 [.sh false [[.str a], [.str b]], .fn 43 []] [] (.str (leastL a b)) [] := by
  refine vc_of vf52 ?_ (Nat.le_of_ble_eq_true rfl) (by intro vs h; cases h)
  repeat' first | refine o_copy ?_ | refine nl ?_ | refine ct_seq ?_ | refine rg ?_ | refine ct_block ?_ | refine bq ?_ | refine ct_skip ?_ | refine ct_exit ?_ | refine rt_next ?_ | refine cndt ?_ | refine cndf ?_ | refine cv0 (compare_vc _ _) ?_ | refine ct_unr 3 ?_ | refine o_copy ?_ | refine o_loads ?_ | refine o_loadp ?_ | refine o_iaddr ?_ | refine o_iaddrO ?_ | refine o_iaddrR ?_ | refine o_add ?_ | refine o_cat ?_ | refine o_bin ?_ | refine o_lenq ?_ | refine o_len ?_ | refine ct_ret ⟨.inr rfl, ?_⟩ | refine cnd (fun _ => ?_) (fun _ => ?_) | (refine glook (fun _ => ?_) (fun _ => ?_) <;> first | refine cv0 (compare_vc _ _) ?_ | refine ct_unr 3 ?_ | refine o_copy ?_ | refine o_loads ?_ | refine o_loadp ?_ | refine o_iaddr ?_ | refine o_iaddrO ?_ | refine o_iaddrR ?_ | refine o_add ?_ | refine o_cat ?_ | refine o_bin ?_ | refine o_lenq ?_ | refine o_len ?_)
  all_goals refine oS ?_
  all_goals simp_all [leastL]
  all_goals omega
theorem least_vc (a b : Str) : VC Try.prog 40 [.sh false [[.str a], [.str b]]] [] (.str (leastL a b)) [] := by
  refine vc_of vf40 ?_ (Nat.le_of_ble_eq_true rfl) (by intro vs h; cases h)
  repeat' first | refine o_copy ?_ | refine nl ?_ | refine ct_seq ?_ | refine rg ?_ | refine ct_block ?_ | refine bq ?_ | refine ct_skip ?_ | refine ct_exit ?_ | refine rt_next ?_ | refine cndt ?_ | refine cndf ?_ | refine cv0 (minFunc_vc _ _) ?_ | refine o_copy ?_ | refine ct_ret ⟨.inr rfl, ?_⟩ | refine cnd (fun _ => ?_) (fun _ => ?_) | (refine glook (fun _ => ?_) (fun _ => ?_) <;> first | refine cv0 (minFunc_vc _ _) ?_ | refine o_copy ?_)
  all_goals exact oS rfl
theorem meet_vc (a b : SpanL) : VC Try.prog 25 [.agg (encS a), .agg (encS b)] [] (.agg (encS (meetL a b))) [] := by
  refine vc_of vf25 ?_ (Nat.le_of_ble_eq_true rfl) (by intro vs h; cases h)
  repeat' first | refine o_copy ?_ | refine nl ?_ | refine ct_seq ?_ | refine rg ?_ | refine ct_block ?_ | refine bq ?_ | refine ct_skip ?_ | refine ct_exit ?_ | refine rt_next ?_ | refine cndt ?_ | refine cndf ?_ | refine cv0 (least_vc a.hi b.hi) ?_ | refine cv0 (empty_vc ⟨maxL a.lo b.lo, leastL a.hi b.hi⟩) ?_ | refine o_copy ?_ | refine o_loads ?_ | refine o_loadp ?_ | refine o_faddr ?_ | refine o_loadsA ?_ | refine o_loadpA ?_ | refine o_box ?_ | refine o_alloc ?_ | refine o_bslice ?_ | refine o_store ?_ | refine o_build ?_ | refine o_minmax ?_ | refine ct_ret ⟨.inr rfl, ?_⟩ | refine cnd (fun _ => ?_) (fun _ => ?_) | (refine glook (fun _ => ?_) (fun _ => ?_) <;> first | refine cv0 (least_vc a.hi b.hi) ?_ | refine cv0 (empty_vc ⟨maxL a.lo b.lo, leastL a.hi b.hi⟩) ?_ | refine o_copy ?_ | refine o_loads ?_ | refine o_loadp ?_ | refine o_faddr ?_ | refine o_loadsA ?_ | refine o_loadpA ?_ | refine o_box ?_ | refine o_alloc ?_ | refine o_bslice ?_ | refine o_store ?_ | refine o_build ?_ | refine o_minmax ?_)
  all_goals refine oC ?_
  all_goals simp_all [meetL, noneL]
  all_goals rfl
theorem covers_vc (a b : SpanL) : VC Try.prog 27 [.agg (encS a), .agg (encS b)] [] (.bool (coversL a b)) [] := by
  refine vc_of vf27 ?_ (Nat.le_of_ble_eq_true rfl) (by intro vs h; cases h)
  repeat' first | refine o_copy ?_ | refine nl ?_ | refine ct_seq ?_ | refine rg ?_ | refine ct_block ?_ | refine bq ?_ | refine ct_skip ?_ | refine ct_exit ?_ | refine rt_next ?_ | refine cndt ?_ | refine cndf ?_ | refine cv0 (empty_vc b) ?_ | refine cv0 (has_vc a b.lo) ?_ | refine cv0 (compare_vc a.hi b.hi) ?_ | refine o_copy ?_ | refine o_loads ?_ | refine o_loadp ?_ | refine o_faddr ?_ | refine o_bin ?_ | refine o_loadsA ?_ | refine o_loadpA ?_ | refine o_box ?_ | refine o_pickt ?_ | refine o_pickf ?_ | refine skF ?_ | refine skU ?_ | refine ct_ret ⟨.inr rfl, ?_⟩ | refine cnd (fun _ => ?_) (fun _ => ?_) | (refine glook (fun _ => ?_) (fun _ => ?_) <;> first | refine cv0 (empty_vc b) ?_ | refine cv0 (has_vc a b.lo) ?_ | refine cv0 (compare_vc a.hi b.hi) ?_ | refine o_copy ?_ | refine o_loads ?_ | refine o_loadp ?_ | refine o_faddr ?_ | refine o_bin ?_ | refine o_loadsA ?_ | refine o_loadpA ?_ | refine o_box ?_ | refine o_pickt ?_ | refine o_pickf ?_ | refine skF ?_ | refine skU ?_)
  all_goals refine oB ?_
  all_goals simp_all [coversL]
theorem less_vc (a b : Str) : VC Try.prog 41 [.str a, .str b] [] (.bool (lessL a b)) [] := by
  refine vc_of vf41 ?_ (Nat.le_of_ble_eq_true rfl) (by intro vs h; cases h)
  repeat' first | refine o_copy ?_ | refine nl ?_ | refine ct_seq ?_ | refine rg ?_ | refine ct_block ?_ | refine bq ?_ | refine ct_skip ?_ | refine ct_exit ?_ | refine rt_next ?_ | refine cndt ?_ | refine cndf ?_ | refine o_copy ?_ | refine o_bin ?_ | refine o_pickt ?_ | refine o_pickf ?_ | refine skF ?_ | refine skU ?_ | refine ct_ret ⟨.inr rfl, ?_⟩ | refine cnd (fun _ => ?_) (fun _ => ?_) | (refine glook (fun _ => ?_) (fun _ => ?_) <;> first | refine o_copy ?_ | refine o_bin ?_ | refine o_pickt ?_ | refine o_pickf ?_ | refine skF ?_ | refine skU ?_)
  all_goals refine oB ?_
  all_goals simp_all [lessL]
  all_goals (cases a <;> cases b <;> simp_all)
theorem rmeet_vc (a b : SpanL) : VC Try.prog 26 [.agg (encS a), .agg (encS b)] [] (.agg (encS (rmeetL a b))) [] := by
  refine vc_of vf26 ?_ (Nat.le_of_ble_eq_true rfl) (by intro vs h; cases h)
  repeat' first | refine o_copy ?_ | refine nl ?_ | refine ct_seq ?_ | refine rg ?_ | refine ct_block ?_ | refine bq ?_ | refine ct_skip ?_ | refine ct_exit ?_ | refine rt_next ?_ | refine cndt ?_ | refine cndf ?_ | refine cv0 (less_vc b.hi a.hi) ?_ | refine cv0 (rempty_vc ⟨maxL a.lo b.lo, a.hi⟩) ?_ | refine cv0 (rempty_vc ⟨maxL a.lo b.lo, b.hi⟩) ?_ | refine cv0 none_vc ?_ | refine o_copy ?_ | refine o_loads ?_ | refine o_loadp ?_ | refine o_faddr ?_ | refine o_loadsA ?_ | refine o_loadpA ?_ | refine o_box ?_ | refine o_alloc ?_ | refine o_store ?_ | refine o_build ?_ | refine o_minmax ?_ | refine ct_ret ⟨.inr rfl, ?_⟩ | refine cnd (fun _ => ?_) (fun _ => ?_) | (refine glook (fun _ => ?_) (fun _ => ?_) <;> first | refine cv0 (less_vc b.hi a.hi) ?_ | refine cv0 (rempty_vc ⟨maxL a.lo b.lo, a.hi⟩) ?_ | refine cv0 (rempty_vc ⟨maxL a.lo b.lo, b.hi⟩) ?_ | refine cv0 none_vc ?_ | refine o_copy ?_ | refine o_loads ?_ | refine o_loadp ?_ | refine o_faddr ?_ | refine o_loadsA ?_ | refine o_loadpA ?_ | refine o_box ?_ | refine o_alloc ?_ | refine o_store ?_ | refine o_build ?_ | refine o_minmax ?_)
  all_goals refine oC ?_
  all_goals simp_all [rmeetL, noneL]
  all_goals rfl
theorem rcovers_vc (a b : SpanL) : VC Try.prog 28 [.agg (encS a), .agg (encS b)] [] (.bool (rcoversL a b)) [] := by
  refine vc_of vf28 ?_ (Nat.le_of_ble_eq_true rfl) (by intro vs h; cases h)
  repeat' first | refine o_copy ?_ | refine nl ?_ | refine ct_seq ?_ | refine rg ?_ | refine ct_block ?_ | refine bq ?_ | refine ct_skip ?_ | refine ct_exit ?_ | refine rt_next ?_ | refine cndt ?_ | refine cndf ?_ | refine cv0 (rempty_vc b) ?_ | refine cv0 (rempty_vc a) ?_ | refine cv0 (less_vc a.hi b.hi) ?_ | refine o_copy ?_ | refine o_loads ?_ | refine o_loadp ?_ | refine o_faddr ?_ | refine o_bin ?_ | refine o_loadsA ?_ | refine o_loadpA ?_ | refine o_box ?_ | refine o_not ?_ | refine o_pickt ?_ | refine o_pickf ?_ | refine skF ?_ | refine skU ?_ | refine ct_ret ⟨.inr rfl, ?_⟩ | refine cnd (fun _ => ?_) (fun _ => ?_) | (refine glook (fun _ => ?_) (fun _ => ?_) <;> first | refine cv0 (rempty_vc b) ?_ | refine cv0 (rempty_vc a) ?_ | refine cv0 (less_vc a.hi b.hi) ?_ | refine o_copy ?_ | refine o_loads ?_ | refine o_loadp ?_ | refine o_faddr ?_ | refine o_bin ?_ | refine o_loadsA ?_ | refine o_loadpA ?_ | refine o_box ?_ | refine o_not ?_ | refine o_pickt ?_ | refine o_pickf ?_ | refine skF ?_ | refine skU ?_)
  all_goals refine oB ?_
  all_goals simp_all [rcoversL]
theorem hasPrefix_vc (k p : Str) (hk : k.length ≤ 1000000000) (hp : p.length ≤ 1000000000) : VC Try.prog 58 [.str k, .str p] [] (.bool (beginsL k p)) [] := by
  refine vc_of vf58 ?_ (Nat.le_of_ble_eq_true rfl) (by intro vs h; cases h)
  repeat' first | refine o_copy ?_ | refine nl ?_ | refine ct_seq ?_ | refine rg ?_ | refine ct_block ?_ | refine bq ?_ | refine ct_skip ?_ | refine ct_exit ?_ | refine rt_next ?_ | refine cndt ?_ | refine cndf ?_ | refine o_slstr ?_ | refine o_copy ?_ | refine o_bin ?_ | refine o_pickt ?_ | refine o_pickf ?_ | refine o_lenS ?_ | refine skF ?_ | refine skU ?_ | refine ct_ret ⟨.inr rfl, ?_⟩ | refine cnd (fun _ => ?_) (fun _ => ?_) | (refine glook (fun _ => ?_) (fun _ => ?_) <;> first | refine o_slstr ?_ | refine o_copy ?_ | refine o_bin ?_ | refine o_pickt ?_ | refine o_pickf ?_ | refine o_lenS ?_ | refine skF ?_ | refine skU ?_)
  all_goals refine oB ?_
  all_goals simp_all [beginsL]
  all_goals omega
theorem begins_vc (k p : Str) (hk : k.length ≤ 1000000000) (hp : p.length ≤ 1000000000) : VC Try.prog 37 [.str k, .str p] [] (.bool (beginsL k p)) [] := by
  refine vc_of vf37 ?_ (Nat.le_of_ble_eq_true rfl) (by intro vs h; cases h)
  repeat' first | refine o_copy ?_ | refine nl ?_ | refine ct_seq ?_ | refine rg ?_ | refine ct_block ?_ | refine bq ?_ | refine ct_skip ?_ | refine ct_exit ?_ | refine rt_next ?_ | refine cndt ?_ | refine cndf ?_ | refine o_slstr ?_ | refine o_copy ?_ | refine o_bin ?_ | refine o_pickt ?_ | refine o_pickf ?_ | refine o_lenS ?_ | refine skF ?_ | refine skU ?_ | refine ct_ret ⟨.inr rfl, ?_⟩ | refine cnd (fun _ => ?_) (fun _ => ?_) | (refine glook (fun _ => ?_) (fun _ => ?_) <;> first | refine o_slstr ?_ | refine o_copy ?_ | refine o_bin ?_ | refine o_pickt ?_ | refine o_pickf ?_ | refine o_lenS ?_ | refine skF ?_ | refine skU ?_)
  all_goals refine oB ?_
  all_goals simp_all [beginsL]
  all_goals omega
theorem cut_vc0 (k p : Str) (hk : k.length ≤ 1000000000) (hp : p.length ≤ 1000000000) : VC Try.prog 51 [.str k, .str p] [] (.tup [.str (if beginsL k p = true then k.drop p.length else k), .bool (beginsL k p)]) [] := by
  refine vc_of vf51 ?_ (Nat.le_of_ble_eq_true rfl) (by intro vs h; cases h; intro p hp q; rcases List.mem_cons.1 hp with rfl | hp <;> simp_all)
  have hl : beginsL k p = true → p.length ≤ k.length := fun h => by simp [beginsL] at h; exact h.1
  repeat' first | refine o_copy ?_ | refine nl ?_ | refine ct_seq ?_ | refine rg ?_ | refine ct_block ?_ | refine bq ?_ | refine ct_skip ?_ | refine ct_exit ?_ | refine rt_next ?_ | refine cndt ?_ | refine cndf ?_ | refine cv0 (hasPrefix_vc k p hk hp) ?_ | refine o_slstr ?_ | refine o_copy ?_ | refine o_not ?_ | refine o_lenS ?_ | refine ct_ret ⟨.inr rfl, ?_⟩ | refine cnd (fun _ => ?_) (fun _ => ?_) | (refine glook (fun _ => ?_) (fun _ => ?_) <;> first | refine cv0 (hasPrefix_vc k p hk hp) ?_ | refine o_slstr ?_ | refine o_copy ?_ | refine o_not ?_ | refine o_lenS ?_)
  all_goals refine oSB ?_
  all_goals simp_all
  all_goals (rw [List.take_of_length_le (by simp)])
theorem cut_vc (k p : Str) (hk : k.length ≤ 1000000000) (hp : p.length ≤ 1000000000) : VC Try.prog 39 [.str k, .str p] [] (.tup [.str (if beginsL k p = true then k.drop p.length else k), .bool (beginsL k p)]) [] := by
  refine vc_of vf39 ?_ (Nat.le_of_ble_eq_true rfl) (by intro vs h; cases h; intro p hp q; rcases List.mem_cons.1 hp with rfl | hp <;> simp_all)
  repeat' first | refine o_copy ?_ | refine nl ?_ | refine ct_seq ?_ | refine rg ?_ | refine ct_block ?_ | refine bq ?_ | refine ct_skip ?_ | refine ct_exit ?_ | refine rt_next ?_ | refine cndt ?_ | refine cndf ?_ | refine cv0 (cut_vc0 k p hk hp) ?_ | refine o_copy ?_ | refine o_extract ?_ | refine ct_ret ⟨.inr rfl, ?_⟩ | refine cnd (fun _ => ?_) (fun _ => ?_) | (refine glook (fun _ => ?_) (fun _ => ?_) <;> first | refine cv0 (cut_vc0 k p hk hp) ?_ | refine o_copy ?_ | refine o_extract ?_)
  all_goals exact oSB rfl
theorem moved_vc (k f t : Str) (hk : k.length ≤ 1000000000) (hf : f.length ≤ 1000000000) (ht : t.length ≤ 1000000000) : VC Try.prog 13 [.str k, .str f, .str t] [] (.tup [.str (movedL k f t).1, .bool (movedL k f t).2]) [] := by
  refine vc_of vf13 ?_ (Nat.le_of_ble_eq_true rfl) (by intro vs h; cases h; intro p hp q; rcases List.mem_cons.1 hp with rfl | hp <;> simp_all)
  by_cases hb : beginsL k f = true
  · have hc := cut_vc k f hk hf
    rw [if_pos hb] at hc
    have hl : (k.drop f.length).length ≤ 1000000000 := by simp; omega
    repeat' first | refine o_copy ?_ | refine nl ?_ | refine ct_seq ?_ | refine rg ?_ | refine ct_block ?_ | refine bq ?_ | refine ct_skip ?_ | refine ct_exit ?_ | refine rt_next ?_ | refine cndt ?_ | refine cndf ?_ | refine cv0 hc ?_ | refine o_copy ?_ | refine o_add ?_ | refine o_cat ?_ | refine o_bin ?_ | refine o_not ?_ | refine o_extract ?_ | refine ct_ret ⟨.inr rfl, ?_⟩ | refine cnd (fun _ => ?_) (fun _ => ?_) | (refine glook (fun _ => ?_) (fun _ => ?_) <;> first | refine cv0 hc ?_ | refine o_copy ?_ | refine o_add ?_ | refine o_cat ?_ | refine o_bin ?_ | refine o_not ?_ | refine o_extract ?_)
    all_goals refine oSB ?_
    all_goals simp_all [movedL]
  · have hc := cut_vc k f hk hf
    rw [if_neg hb] at hc
    repeat' first | refine o_copy ?_ | refine nl ?_ | refine ct_seq ?_ | refine rg ?_ | refine ct_block ?_ | refine bq ?_ | refine ct_skip ?_ | refine ct_exit ?_ | refine rt_next ?_ | refine cndt ?_ | refine cndf ?_ | refine cv0 hc ?_ | refine o_copy ?_ | refine o_add ?_ | refine o_cat ?_ | refine o_bin ?_ | refine o_not ?_ | refine o_extract ?_ | refine ct_ret ⟨.inr rfl, ?_⟩ | refine cnd (fun _ => ?_) (fun _ => ?_) | (refine glook (fun _ => ?_) (fun _ => ?_) <;> first | refine cv0 hc ?_ | refine o_copy ?_ | refine o_add ?_ | refine o_cat ?_ | refine o_bin ?_ | refine o_not ?_ | refine o_extract ?_)
    all_goals refine oSB ?_
    all_goals simp_all [movedL]
theorem rmoved_vc (k f t : Str) (hk : k.length ≤ 1000000000) (hf : f.length ≤ 1000000000) (ht : t.length ≤ 1000000000) : VC Try.prog 14 [.str k, .str f, .str t] [] (.tup [.str (movedL k f t).1, .bool (movedL k f t).2]) [] := by
  refine vc_of vf14 ?_ (Nat.le_of_ble_eq_true rfl) (by intro vs h; cases h; intro p hp q; rcases List.mem_cons.1 hp with rfl | hp <;> simp_all)
  have hl : beginsL k f = true → f.length ≤ k.length := fun h => by simp [beginsL] at h; exact h.1
  repeat' first | refine o_copy ?_ | refine nl ?_ | refine ct_seq ?_ | refine rg ?_ | refine ct_block ?_ | refine bq ?_ | refine ct_skip ?_ | refine ct_exit ?_ | refine rt_next ?_ | refine cndt ?_ | refine cndf ?_ | refine cv0 (begins_vc k f hk hf) ?_ | refine o_slstr ?_ | refine o_copy ?_ | refine o_add ?_ | refine o_cat ?_ | refine o_bin ?_ | refine o_not ?_ | refine o_lenS ?_ | refine ct_ret ⟨.inr rfl, ?_⟩ | refine cnd (fun _ => ?_) (fun _ => ?_) | (refine glook (fun _ => ?_) (fun _ => ?_) <;> first | refine cv0 (begins_vc k f hk hf) ?_ | refine o_slstr ?_ | refine o_copy ?_ | refine o_add ?_ | refine o_cat ?_ | refine o_bin ?_ | refine o_not ?_ | refine o_lenS ?_)
  all_goals refine oSB ?_
  all_goals simp_all [movedL]
  all_goals (rw [List.take_of_length_le (by simp)])
end Go.Proofs
open Go.V Go.Pu
set_option linter.unusedVariables false
set_option linter.unusedSimpArgs false
set_option maxRecDepth 20000
namespace Go.Proofs
/-- downspout/span.Prefix -/
def vc15 : VCode :=
 (.seq
 (.region 0 false [
 ⟨(some 2), .alloc [(.str []), (.str [])], none, 0, []⟩])
 (.seq
 (.region 1 false [
 ⟨(some 4), .copy (.t 0), none, 8192, []⟩,
 ⟨(some 5), .s2b (.t 4), none, 8200, [0]⟩,
 ⟨(some 3), .copy (.t 5), none, 8208, [1, 0]⟩])
 (.seq
 (.block 0
 (.loop
 (.seq
 (.seq
 (.region 2 false [
 ⟨(some 6), .copy (.t 3), none, 16384, []⟩,
 ⟨(some 7), .len (.t 6), none, 16392, [0]⟩,
 ⟨(some 8), .bin .gtr (.t 7) (.c (.int .i64 0)), none, 16400, [1, 0]⟩,
 ⟨(some 9), .copy (.t 8), none, 16408, [2, 1, 0]⟩,
 ⟨(some 10), .copy (.t 3), (some (3, 9, true)), 16416, [3, 2, 1, 0]⟩,
 ⟨(some 11), .copy (.t 3), (some (3, 9, true)), 16424, [3, 2, 1, 0]⟩,
 ⟨(some 12), .len (.t 11), (some (3, 9, true)), 16432, [5, 3, 2, 1, 0]⟩,
 ⟨(some 13), .bin .sub (.t 12) (.c (.int .i64 1)), (some (3, 9, true)), 16440, [6, 5, 3, 2, 1, 0]⟩,
 ⟨(some 14), .iaddr 1 (.t 10) (.t 13), (some (3, 9, true)), 16448, [4, 3, 2, 1, 0, 7, 6, 5]⟩,
 ⟨(some 15), .load false 1 (.t 14), (some (3, 9, true)), 16456, [8, 4, 3, 2, 1, 0, 7, 6, 5]⟩,
 ⟨(some 16), .bin .eql (.t 15) (.c (.int .u8 255)), (some (3, 9, true)), 16464, [9, 8, 4, 3, 2, 1, 0, 7, 6, 5]⟩,
 ⟨(some 17), .pick (.t 9) (.t 16) (.c (.bool false)), none, 16472, [3, 2, 1, 0, 10, 9, 8, 4, 7, 6, 5]⟩])
 (.cond (.t 17)
 .skip
 (.exit 0)))
 (.block 1
 (.region 3 false [
 ⟨(some 18), .copy (.t 3), none, 24576, []⟩,
 ⟨(some 19), .copy (.t 3), none, 24584, []⟩,
 ⟨(some 20), .len (.t 19), none, 24592, [1]⟩,
 ⟨(some 21), .bin .sub (.t 20) (.c (.int .i64 1)), none, 24600, [2, 1]⟩,
 ⟨(some 22), .slsl 1 (.t 18) none (some (.t 21)) none, none, 24608, [0, 3, 2, 1]⟩,
 ⟨(some 3), .copy (.t 22), none, 24616, [4, 0, 3, 2, 1]⟩])))))
 (.seq
 (.seq
 (.region 4 false [
 ⟨(some 23), .copy (.t 3), none, 32768, []⟩,
 ⟨(some 24), .len (.t 23), none, 32776, [0]⟩,
 ⟨(some 25), .bin .gtr (.t 24) (.c (.int .i64 0)), none, 32784, [1, 0]⟩])
 (.cond (.t 25)
 (.region 5 false [
 ⟨(some 26), .copy (.t 3), none, 40960, []⟩,
 ⟨(some 27), .copy (.t 3), none, 40968, []⟩,
 ⟨(some 28), .len (.t 27), none, 40976, [1]⟩,
 ⟨(some 29), .bin .sub (.t 28) (.c (.int .i64 1)), none, 40984, [2, 1]⟩,
 ⟨(some 30), .iaddr 1 (.t 26) (.t 29), none, 40992, [0, 3, 2, 1]⟩,
 ⟨(some 31), .load false 1 (.t 30), none, 41000, [4, 0, 3, 2, 1]⟩,
 ⟨(some 32), .bin .add (.t 31) (.c (.int .u8 1)), none, 41008, [5, 4, 0, 3, 2, 1]⟩,
 ⟨(some 33), .iaddr 1 (.t 26) (.t 29), none, 41016, [0, 3, 2, 1, 4, 5, 6]⟩,
 ⟨none, .store 1 (.t 33) (.t 32), none, 41024, [7, 0, 3, 2, 1, 4, 5, 6]⟩])
 .skip))
 (.seq
 (.region 6 false [
 ⟨(some 34), .copy (.t 0), none, 49152, []⟩,
 ⟨(some 35), .copy (.t 3), none, 49160, []⟩,
 ⟨(some 36), .b2s (.t 35), none, 49168, [1]⟩,
 ⟨(some 37), .build [(.str []), (.str [])] [(0, 1, (.t 34)), (1, 1, (.t 36))], none, 49176, [0, 2, 1]⟩,
 ⟨none, .store 2 (.t 2) (.t 37), none, 49184, [3, 0, 2, 1]⟩])
 .ret)))))
theorem vf15 : VF Try.prog 15 = some (38, vc15, [.cell true 2 2]) := by kernel_rfl
/-- downspout/downspoutref02.Prefix -/
def vc16 : VCode :=
 (.seq
 (.region 0 false [
 ⟨(some 2), .alloc [(.str []), (.str [])], none, 0, []⟩])
 (.seq
 (.region 1 false [
 ⟨(some 4), .copy (.t 0), none, 8192, []⟩,
 ⟨(some 5), .lenS (.t 4), none, 8200, [0]⟩,
 ⟨(some 3), .copy (.t 5), none, 8208, [1, 0]⟩])
 (.seq
 (.block 0
 (.loop
 (.seq
 (.seq
 (.region 2 false [
 ⟨(some 6), .copy (.t 3), none, 16384, []⟩,
 ⟨(some 7), .bin .gtr (.t 6) (.c (.int .i64 0)), none, 16392, [0]⟩,
 ⟨(some 8), .copy (.t 7), none, 16400, [1, 0]⟩,
 ⟨(some 9), .copy (.t 0), (some (2, 8, true)), 16408, [2, 1, 0]⟩,
 ⟨(some 10), .copy (.t 3), (some (2, 8, true)), 16416, [2, 1, 0]⟩,
 ⟨(some 11), .bin .sub (.t 10) (.c (.int .i64 1)), (some (2, 8, true)), 16424, [4, 2, 1, 0]⟩,
 ⟨(some 12), .indexS (.t 9) (.t 11), (some (2, 8, true)), 16432, [3, 2, 1, 0, 5, 4]⟩,
 ⟨(some 13), .bin .eql (.t 12) (.c (.int .u8 255)), (some (2, 8, true)), 16440, [6, 3, 2, 1, 0, 5, 4]⟩,
 ⟨(some 14), .pick (.t 8) (.t 13) (.c (.bool false)), none, 16448, [2, 1, 0, 7, 6, 3, 5, 4]⟩])
 (.cond (.t 14)
 .skip
 (.exit 0)))
 (.block 1
 (.region 3 false [
 ⟨(some 15), .copy (.t 3), none, 24576, []⟩,
 ⟨(some 16), .bin .sub (.t 15) (.c (.int .i64 1)), none, 24584, [0]⟩,
 ⟨(some 3), .copy (.t 16), none, 24592, [1, 0]⟩])))))
 (.seq
 (.seq
 (.region 4 false [
 ⟨(some 17), .copy (.t 3), none, 32768, []⟩,
 ⟨(some 18), .bin .eql (.t 17) (.c (.int .i64 0)), none, 32776, [0]⟩])
 (.cond (.t 18)
 (.seq
 (.region 5 false [
 ⟨(some 19), .copy (.t 0), none, 40960, []⟩,
 ⟨(some 20), .build [(.str []), (.str [])] [(0, 1, (.t 19))], none, 40968, [0]⟩,
 ⟨none, .store 2 (.t 2) (.t 20), none, 40976, [1, 0]⟩])
 .ret)
 .skip))
 (.seq
 (.region 6 true [
 ⟨(some 21), .copy (.t 0), none, 49152, []⟩,
 ⟨(some 22), .copy (.t 0), none, 49160, []⟩,
 ⟨(some 23), .copy (.t 3), none, 49168, []⟩,
 ⟨(some 24), .bin .sub (.t 23) (.c (.int .i64 1)), none, 49176, [2]⟩,
 ⟨(some 25), .slstr (.t 22) none (some (.t 24)), none, 49184, [1, 3, 2]⟩,
 ⟨(some 26), .copy (.t 0), none, 49192, []⟩,
 ⟨(some 27), .copy (.t 3), none, 49200, []⟩,
 ⟨(some 28), .bin .sub (.t 27) (.c (.int .i64 1)), none, 49208, [6]⟩,
 ⟨(some 29), .indexS (.t 26) (.t 28), none, 49216, [5, 7, 6]⟩,
 ⟨(some 30), .bin .add (.t 29) (.c (.int .u8 1)), none, 49224, [8, 5, 7, 6]⟩,
 ⟨(some 31), .bslice 1 [(.int .u8 0)] 1 [(0, (.t 30))], none, 49232, [9, 8, 5, 7, 6]⟩,
 ⟨(some 32), .b2s (.t 31), none, 49240, [10, 9, 8, 5, 7, 6]⟩,
 ⟨(some 33), .bin .add (.t 25) (.t 32), none, 49248, [4, 1, 3, 2, 11, 10, 9, 8, 5, 7, 6]⟩,
 ⟨(some 34), .build [(.str []), (.str [])] [(0, 1, (.t 21)), (1, 1, (.t 33))], none, 49256, [0, 12, 4, 1, 3, 2, 11, 10, 9, 8, 5, 7, 6]⟩,
 ⟨none, .store 2 (.t 2) (.t 34), none, 49264, [13, 0, 12, 4, 1, 3, 2, 11, 10, 9, 8, 5, 7, 6]⟩])
 .ret)))))
theorem vf16 : VF Try.prog 16 = some (35, vc16, [.cell true 2 2]) := by kernel_rfl
/-- downspout/downspoutref02.Short -/
def vc12 : VCode :=
 (.seq
 (.region 0 false [
 ⟨(some 4), .copy (.c (.bool false)), none, 0, []⟩])
 (.seq
 (.seq
 (.region 1 false [
 ⟨(some 5), .copy (.c (.int .i64 0)), none, 8192, []⟩])
 (.block 0
 (.loop
 (.seq
 (.seq
 (.region 2 false [
 ⟨(some 6), .copy (.t 5), none, 16384, []⟩,
 ⟨(some 7), .copy (.t 0), none, 16392, []⟩,
 ⟨(some 8), .len (.t 7), none, 16400, [1]⟩,
 ⟨(some 9), .bin .lss (.t 6) (.t 8), none, 16408, [0, 2, 1]⟩])
 (.cond (.t 9)
 .skip
 (.exit 0)))
 (.seq
 (.block 1
 (.seq
 (.region 4 false [
 ⟨(some 12), .copy (.t 0), none, 32768, []⟩,
 ⟨(some 13), .copy (.t 5), none, 32776, []⟩,
 ⟨(some 14), .iaddr 2 (.t 12) (.t 13), none, 32784, [0, 1]⟩,
 ⟨(some 15), .faddr 0 (.t 14), none, 32792, [2, 0, 1]⟩,
 ⟨(some 16), .load false 1 (.t 15), none, 32800, [3, 2, 0, 1]⟩,
 ⟨(some 17), .lenS (.t 16), none, 32808, [4, 3, 2, 0, 1]⟩,
 ⟨(some 18), .bin .gtr (.t 17) (.c (.int .i64 30)), none, 32816, [5, 4, 3, 2, 0, 1]⟩,
 ⟨(some 19), .copy (.t 18), none, 32824, [6, 5, 4, 3, 2, 0, 1]⟩,
 ⟨(some 20), .copy (.t 0), (some (7, 19, false)), 32832, [7, 6, 5, 4, 3, 2, 0, 1]⟩,
 ⟨(some 21), .copy (.t 5), (some (7, 19, false)), 32840, [7, 6, 5, 4, 3, 2, 0, 1]⟩,
 ⟨(some 22), .iaddr 2 (.t 20) (.t 21), (some (7, 19, false)), 32848, [8, 7, 6, 5, 4, 3, 2, 0, 1, 9]⟩,
 ⟨(some 23), .faddr 1 (.t 22), (some (7, 19, false)), 32856, [10, 8, 7, 6, 5, 4, 3, 2, 0, 1, 9]⟩,
 ⟨(some 24), .load false 1 (.t 23), (some (7, 19, false)), 32864, [11, 10, 8, 7, 6, 5, 4, 3, 2, 0, 1, 9]⟩,
 ⟨(some 25), .lenS (.t 24), (some (7, 19, false)), 32872, [12, 11, 10, 8, 7, 6, 5, 4, 3, 2, 0, 1, 9]⟩,
 ⟨(some 26), .bin .gtr (.t 25) (.c (.int .i64 30)), (some (7, 19, false)), 32880, [13, 12, 11, 10, 8, 7, 6, 5, 4, 3, 2, 0, 1, 9]⟩,
 ⟨(some 27), .pick (.t 19) (.c (.bool true)) (.t 26), none, 32888, [7, 6, 5, 4, 3, 2, 0, 1, 14, 13, 12, 11, 10, 8, 9]⟩])
 (.cond (.t 27)
 (.seq
 (.region 5 false [
 ⟨(some 4), .copy (.c (.bool false)), none, 40960, []⟩])
 .ret)
 .skip)))
 (.region 3 false [
 ⟨(some 10), .copy (.t 5), none, 24576, []⟩,
 ⟨(some 11), .bin .add (.t 10) (.c (.int .i64 1)), none, 24584, [0]⟩,
 ⟨(some 5), .copy (.t 11), none, 24592, [1, 0]⟩]))))))
 (.seq
 (.region 6 false [
 ⟨(some 28), .copy (.t 0), none, 49152, []⟩,
 ⟨(some 29), .len (.t 28), none, 49160, [0]⟩,
 ⟨(some 30), .copy (.t 1), none, 49168, []⟩,
 ⟨(some 31), .bin .leq (.t 29) (.t 30), none, 49176, [1, 0, 2]⟩,
 ⟨(some 4), .copy (.t 31), none, 49184, [3, 1, 0, 2]⟩])
 .ret)))
theorem vf12 : VF Try.prog 12 = some (32, vc12, [.tmp 4]) := by kernel_rfl
/-- downspout/downspoutref02.Near -/
def vc36 : VCode :=
 (.seq
 (.region 0 false [
 ⟨(some 2), .copy (.c .nils), none, 0, []⟩])
 (.seq
 (.region 1 false [
 ⟨(some 8), .bslice 1 [(.str [])] 4 [(0, (.c (.str []))), (1, (.c (.str [0]))), (2, (.c (.str [97]))), (3, (.c (.str [255])))], none, 8192, []⟩,
 ⟨(some 3), .copy (.t 8), none, 8200, [0]⟩])
 (.seq
 (.seq
 (.region 2 false [
 ⟨(some 4), .copy (.c (.int .i64 0)), none, 16384, []⟩])
 (.block 0
 (.loop
 (.seq
 (.seq
 (.region 3 false [
 ⟨(some 9), .copy (.t 4), none, 24576, []⟩,
 ⟨(some 10), .copy (.t 0), none, 24584, []⟩,
 ⟨(some 11), .len (.t 10), none, 24592, [1]⟩,
 ⟨(some 12), .bin .lss (.t 9) (.t 11), none, 24600, [0, 2, 1]⟩])
 (.cond (.t 12)
 .skip
 (.exit 0)))
 (.seq
 (.block 1
 (.seq
 (.region 5 true [
 ⟨(some 15), .copy (.t 0), none, 40960, []⟩,
 ⟨(some 16), .copy (.t 4), none, 40968, []⟩,
 ⟨(some 17), .iaddr 2 (.t 15) (.t 16), none, 40976, [0, 1]⟩,
 ⟨(some 18), .faddr 0 (.t 17), none, 40984, [2, 0, 1]⟩,
 ⟨(some 19), .load false 1 (.t 18), none, 40992, [3, 2, 0, 1]⟩,
 ⟨(some 20), .copy (.t 0), none, 41000, []⟩,
 ⟨(some 21), .copy (.t 4), none, 41008, []⟩,
 ⟨(some 22), .iaddr 2 (.t 20) (.t 21), none, 41016, [5, 6]⟩,
 ⟨(some 23), .faddr 1 (.t 22), none, 41024, [7, 5, 6]⟩,
 ⟨(some 24), .load false 1 (.t 23), none, 41032, [8, 7, 5, 6]⟩,
 ⟨(some 25), .bslice 1 [(.str [])] 2 [(0, (.t 19)), (1, (.t 24))], none, 41040, [4, 3, 2, 0, 1, 9, 8, 7, 5, 6]⟩,
 ⟨(some 5), .copy (.t 25), none, 41048, [10, 4, 3, 2, 0, 1, 9, 8, 7, 5, 6]⟩])
 (.seq
 (.region 6 false [
 ⟨(some 6), .copy (.c (.int .i64 0)), none, 49152, []⟩])
 (.block 2
 (.loop
 (.seq
 (.seq
 (.region 7 false [
 ⟨(some 26), .copy (.t 6), none, 57344, []⟩,
 ⟨(some 27), .bin .lss (.t 26) (.c (.int .i64 2)), none, 57352, [0]⟩])
 (.cond (.t 27)
 .skip
 (.exit 2)))
 (.seq
 (.block 3
 (.seq
 (.region 9 false [
 ⟨(some 30), .copy (.t 5), none, 73728, []⟩,
 ⟨(some 31), .copy (.t 6), none, 73736, []⟩,
 ⟨(some 32), .iaddr 1 (.t 30) (.t 31), none, 73744, [0, 1]⟩,
 ⟨(some 33), .load false 1 (.t 32), none, 73752, [2, 0, 1]⟩,
 ⟨(some 7), .copy (.t 33), none, 73760, [3, 2, 0, 1]⟩])
 (.seq
 (.region 10 false [
 ⟨(some 34), .copy (.t 3), none, 81920, []⟩,
 ⟨(some 35), .copy (.t 7), none, 81928, []⟩,
 ⟨(some 36), .copy (.t 7), none, 81936, []⟩,
 ⟨(some 37), .bin .add (.t 36) (.c (.str [0])), none, 81944, [2]⟩,
 ⟨(some 38), .copy (.t 7), none, 81952, []⟩,
 ⟨(some 39), .bin .add (.t 38) (.c (.str [255])), none, 81960, [4]⟩,
 ⟨(some 40), .bslice 1 [(.str [])] 3 [(0, (.t 35)), (1, (.t 37)), (2, (.t 39))], none, 81968, [1, 3, 2, 5, 4]⟩,
 ⟨(some 41), .append 1 16 [(.str [])] (.t 34) (.t 40), none, 81976, [0, 6, 1, 3, 2, 5, 4]⟩,
 ⟨(some 3), .copy (.t 41), none, 81984, [7, 0, 6, 1, 3, 2, 5, 4]⟩])
 (.seq
 (.region 11 false [
 ⟨(some 42), .copy (.t 7), none, 90112, []⟩,
 ⟨(some 43), .lenS (.t 42), none, 90120, [0]⟩,
 ⟨(some 44), .bin .gtr (.t 43) (.c (.int .i64 0)), none, 90128, [1, 0]⟩])
 (.cond (.t 44)
 (.region 12 true [
 ⟨(some 45), .copy (.t 3), none, 98304, []⟩,
 ⟨(some 46), .copy (.t 7), none, 98312, []⟩,
 ⟨(some 47), .copy (.t 7), none, 98320, []⟩,
 ⟨(some 48), .lenS (.t 47), none, 98328, [2]⟩,
 ⟨(some 49), .bin .sub (.t 48) (.c (.int .i64 1)), none, 98336, [3, 2]⟩,
 ⟨(some 50), .slstr (.t 46) none (some (.t 49)), none, 98344, [1, 4, 3, 2]⟩,
 ⟨(some 51), .copy (.t 7), none, 98352, []⟩,
 ⟨(some 52), .copy (.t 7), none, 98360, []⟩,
 ⟨(some 53), .lenS (.t 52), none, 98368, [7]⟩,
 ⟨(some 54), .bin .sub (.t 53) (.c (.int .i64 1)), none, 98376, [8, 7]⟩,
 ⟨(some 55), .slstr (.t 51) none (some (.t 54)), none, 98384, [6, 9, 8, 7]⟩,
 ⟨(some 56), .copy (.t 7), none, 98392, []⟩,
 ⟨(some 57), .copy (.t 7), none, 98400, []⟩,
 ⟨(some 58), .lenS (.t 57), none, 98408, [12]⟩,
 ⟨(some 59), .bin .sub (.t 58) (.c (.int .i64 1)), none, 98416, [13, 12]⟩,
 ⟨(some 60), .indexS (.t 56) (.t 59), none, 98424, [11, 14, 13, 12]⟩,
 ⟨(some 61), .bin .sub (.t 60) (.c (.int .u8 1)), none, 98432, [15, 11, 14, 13, 12]⟩,
 ⟨(some 62), .bslice 1 [(.int .u8 0)] 1 [(0, (.t 61))], none, 98440, [16, 15, 11, 14, 13, 12]⟩,
 ⟨(some 63), .b2s (.t 62), none, 98448, [17, 16, 15, 11, 14, 13, 12]⟩,
 ⟨(some 64), .bin .add (.t 55) (.t 63), none, 98456, [10, 6, 9, 8, 7, 18, 17, 16, 15, 11, 14, 13, 12]⟩,
 ⟨(some 65), .bin .add (.t 64) (.c (.str [255])), none, 98464, [19, 10, 6, 9, 8, 7, 18, 17, 16, 15, 11, 14, 13, 12]⟩,
 ⟨(some 66), .bslice 1 [(.str [])] 2 [(0, (.t 50)), (1, (.t 65))], none, 98472, [5, 1, 4, 3, 2, 20, 19, 10, 6, 9, 8, 7, 18, 17, 16, 15, 11, 14, 13, 12]⟩,
 ⟨(some 67), .append 1 16 [(.str [])] (.t 45) (.t 66), none, 98480, [0, 21, 5, 1, 4, 3, 2, 20, 19, 10, 6, 9, 8, 7, 18, 17, 16, 15, 11, 14, 13, 12]⟩,
 ⟨(some 3), .copy (.t 67), none, 98488, [22, 0, 21, 5, 1, 4, 3, 2, 20, 19, 10, 6, 9, 8, 7, 18, 17, 16, 15, 11, 14, 13, 12]⟩])
 .skip)))))
 (.region 8 false [
 ⟨(some 28), .copy (.t 6), none, 65536, []⟩,
 ⟨(some 29), .bin .add (.t 28) (.c (.int .i64 1)), none, 65544, [0]⟩,
 ⟨(some 6), .copy (.t 29), none, 65552, [1, 0]⟩]))))))))
 (.region 4 false [
 ⟨(some 13), .copy (.t 4), none, 32768, []⟩,
 ⟨(some 14), .bin .add (.t 13) (.c (.int .i64 1)), none, 32776, [0]⟩,
 ⟨(some 4), .copy (.t 14), none, 32784, [1, 0]⟩]))))))
 (.seq
 (.region 13 false [
 ⟨(some 68), .copy (.t 3), none, 106496, []⟩,
 ⟨(some 2), .copy (.t 68), none, 106504, [0]⟩])
 .ret))))
theorem vf36 : VF Try.prog 36 = some (69, vc36, [.tmp 2]) := by kernel_rfl
/-- downspout/downspoutref02.In -/
def vc38 : VCode :=
 (.seq
 (.region 0 false [
 ⟨(some 4), .copy (.c (.bool false)), none, 0, []⟩])
 (.seq
 (.seq
 (.region 1 false [
 ⟨(some 5), .copy (.c (.int .i64 0)), none, 8192, []⟩])
 (.block 0
 (.loop
 (.seq
 (.seq
 (.region 2 false [
 ⟨(some 6), .copy (.t 5), none, 16384, []⟩,
 ⟨(some 7), .copy (.t 0), none, 16392, []⟩,
 ⟨(some 8), .len (.t 7), none, 16400, [1]⟩,
 ⟨(some 9), .bin .lss (.t 6) (.t 8), none, 16408, [0, 2, 1]⟩])
 (.cond (.t 9)
 .skip
 (.exit 0)))
 (.seq
 (.block 1
 (.seq
 (.region 4 false [
 ⟨(some 12), .copy (.t 0), none, 32768, []⟩,
 ⟨(some 13), .copy (.t 5), none, 32776, []⟩,
 ⟨(some 14), .iaddr 2 (.t 12) (.t 13), none, 32784, [0, 1]⟩,
 ⟨(some 15), .load true 2 (.t 14), none, 32792, [2, 0, 1]⟩,
 ⟨(some 16), .copy (.t 1), none, 32800, []⟩,
 ⟨(some 17), .call (.c (.fn 22 [])) [(.t 15), (.t 16)], none, 32808, [3, 2, 0, 1, 4]⟩])
 (.cond (.t 17)
 (.seq
 (.region 5 false [
 ⟨(some 4), .copy (.c (.bool true)), none, 40960, []⟩])
 .ret)
 .skip)))
 (.region 3 false [
 ⟨(some 10), .copy (.t 5), none, 24576, []⟩,
 ⟨(some 11), .bin .add (.t 10) (.c (.int .i64 1)), none, 24584, [0]⟩,
 ⟨(some 5), .copy (.t 11), none, 24592, [1, 0]⟩]))))))
 (.seq
 (.region 6 false [
 ⟨(some 4), .copy (.c (.bool false)), none, 49152, []⟩])
 .ret)))
theorem vf38 : VF Try.prog 38 = some (18, vc38, [.tmp 4]) := by kernel_rfl
theorem set_take {p : Str} {n : Nat} {c : UInt8} (h : n < p.length) : (p.set n c).take (n + 1) = p.take n ++ [c] := by
  rw [List.take_add_one, List.take_set, List.set_eq_of_length_le (by simp; omega)]
  simp [h]
set_option maxHeartbeats 1000000 in
theorem prefix_vc (p : Str) (hp : p.length ≤ 1000000000) : VC Try.prog 15 [.str p] [] (.agg (encS (prefixL p))) [] := by
  refine vc_of vf15 ?_ (Nat.le_of_ble_eq_true rfl) (by intro vs h; cases h)
  repeat first | refine o_copy ?_ | refine nl ?_ | refine ct_seq ?_ | refine rg ?_ | refine ct_block ?_ | refine bq ?_ | refine o_loads ?_ | refine o_loadp ?_ | refine o_iaddr ?_ | refine o_iaddrO ?_ | refine o_iaddrR ?_ | refine o_b2sR ?_ | refine o_add ?_ | refine o_sub ?_ | refine o_cat ?_ | refine o_bin ?_ | refine o_lenq ?_ | refine o_len ?_ | refine o_alloc ?_ | refine o_s2b ?_ | refine o_store ?_ | refine o_pickt ?_ | refine o_pickf ?_ | refine o_build ?_ | refine skF ?_ | refine skU ?_
  refine ct_loopG (fun (g : Nat) => [(0, .str p), (2, .ptr ⟨1, 0⟩ 1 0 0), (3, .own ⟨1, 8200⟩ (p.map encB).length 0 g)])
    (fun g => [(⟨1, 0⟩, ⟨true, false, 2, [[.str [], .str []]]⟩), (⟨1, 8200⟩, blkV 1 (p.map encB))]) (fun g => g)
    (fun g => g ≤ p.length ∧ stripN p g = stripN p p.length) p.length (goes (h1 := by refine ⟨rfl, rfl, ?_, trivial⟩; simp; rfl)) ⟨Nat.le_refl _, rfl⟩ ?_
  rintro n ⟨hn, hs⟩
  (try dsimp only)
  have hel : (p.map encB).length = p.length := List.length_map ..
  repeat first | refine o_copy ?_ | refine nl ?_ | refine ct_seq ?_ | refine rg ?_ | refine ct_block ?_ | refine bq ?_ | refine o_loads ?_ | refine o_loadp ?_ | refine o_iaddr ?_ | refine o_iaddrO ?_ | refine o_iaddrR ?_ | refine o_b2sR ?_ | refine o_add ?_ | refine o_sub ?_ | refine o_cat ?_ | refine o_bin ?_ | refine o_lenq ?_ | refine o_len ?_ | refine o_alloc ?_ | refine o_s2b ?_ | refine o_store ?_ | refine o_pickt ?_ | refine o_pickf ?_ | refine o_build ?_ | refine skF ?_ | refine skU ?_
  refine glook (fun hg => ?_) (fun hg => ?_)
  · have hpos : 0 < n := by have := of_decide_eq_true hg; omega
    obtain ⟨m, rfl⟩ : ∃ m, n = m + 1 := ⟨n - 1, by omega⟩
    obtain ⟨c, hc⟩ : ∃ c, p[m]? = some c := ⟨_, List.getElem?_eq_getElem (by omega)⟩
    have hce : (blkV 1 (p.map encB)).els[0 + (((m + 1 : Nat) : Int) - 1).toNat]? = some (encB c) := by
      rw [show 0 + (((m + 1 : Nat) : Int) - 1).toNat = m by omega]
      show (p.map encB)[m]? = _
      rw [List.getElem?_map, hc]; rfl
    repeat first | refine o_copy ?_ | refine nl ?_ | refine ct_seq ?_ | refine rg ?_ | refine ct_block ?_ | refine bq ?_ | refine o_iaddrG ?_ | refine o_loads ?_ | refine o_loadp ?_ | refine o_iaddr ?_ | refine o_iaddrO ?_ | refine o_iaddrR ?_ | refine o_b2sR ?_ | refine o_add ?_ | refine o_sub ?_ | refine o_cat ?_ | refine o_bin ?_ | refine o_lenq ?_ | refine o_len ?_ | refine o_alloc ?_ | refine o_s2b ?_ | refine o_store ?_ | refine o_pickt ?_ | refine o_pickf ?_ | refine o_build ?_ | refine skF ?_ | refine skU ?_
    refine cnd (fun h => ct_skip ?_) (fun h => ct_exit ?_)
    · have hc255 : p[m]? = some 255 := by
        rw [hc]; congr 1
        have : (c.toNat : Int) = 255 := by simpa using h
        exact UInt8.toNat_inj.1 (by show c.toNat = 255; omega)
      repeat first | refine o_copy ?_ | refine nl ?_ | refine ct_seq ?_ | refine rg ?_ | refine ct_block ?_ | refine bq ?_ | refine o_slslO ?_ | refine o_loads ?_ | refine o_loadp ?_ | refine o_iaddr ?_ | refine o_iaddrO ?_ | refine o_iaddrR ?_ | refine o_b2sR ?_ | refine o_add ?_ | refine o_sub ?_ | refine o_cat ?_ | refine o_bin ?_ | refine o_lenq ?_ | refine o_len ?_ | refine o_alloc ?_ | refine o_s2b ?_ | refine o_store ?_ | refine o_pickt ?_ | refine o_pickf ?_ | refine o_build ?_ | refine skF ?_ | refine skU ?_
      refine agn m ⟨by omega, ?_⟩ (goes (h1 := by refine ⟨rfl, rfl, congrArg (fun x => some (PV.own ⟨1, 8200⟩ (p.map encB).length 0 x)) (?_ : (((m + 1 : Nat) : Int) - 1).toNat - Int.toNat 0 = m), trivial⟩; omega))
      rw [← hs, stripN, if_pos hc255]
    · have hne : ¬ p[m]? = some 255 := by
        rw [hc]
        intro e
        cases e
        exact absurd h (by decide)
      have hst : stripN p (m + 1) = m + 1 := by rw [stripN, if_neg hne]
      repeat first | refine o_copy ?_ | refine nl ?_ | refine ct_seq ?_ | refine rg ?_ | refine ct_block ?_ | refine bq ?_ | refine o_loads ?_ | refine o_loadp ?_ | refine o_iaddr ?_ | refine o_iaddrO ?_ | refine o_iaddrR ?_ | refine o_b2sR ?_ | refine o_add ?_ | refine o_sub ?_ | refine o_cat ?_ | refine o_bin ?_ | refine o_lenq ?_ | refine o_len ?_ | refine o_alloc ?_ | refine o_s2b ?_ | refine o_store ?_ | refine o_pickt ?_ | refine o_pickf ?_ | refine o_build ?_ | refine skF ?_ | refine skU ?_
      refine cndt ?_ rfl (decide_eq_true (by omega))
      have hw := wrap_u8_add c
      have hset := set_take (p := p) (n := m) (c := c + 1) (by omega)
      have hmm : 0 + (((m + 1 : Nat) : Int) - 1).toNat = m := by omega
      have hb2 : (((p.set (0 + (((m + 1 : Nat) : Int) - 1).toNat) (c + 1)).map encB).drop 0).take (m + 1) = (p.take m ++ [c + 1]).map encB := by rw [hmm, List.drop_zero, ← List.map_take, hset]
      repeat first | refine o_copy ?_ | refine nl ?_ | refine ct_seq ?_ | refine rg ?_ | refine ct_block ?_ | refine bq ?_ | refine o_iaddrG ?_ | refine o_addE ?_ | refine o_v (vst encB (c + 1)) ?_ | refine o_b2sO hb2 ?_ | refine o_loads ?_ | refine o_loadp ?_ | refine o_iaddr ?_ | refine o_iaddrO ?_ | refine o_iaddrR ?_ | refine o_b2sR ?_ | refine o_add ?_ | refine o_sub ?_ | refine o_cat ?_ | refine o_bin ?_ | refine o_lenq ?_ | refine o_len ?_ | refine o_alloc ?_ | refine o_s2b ?_ | refine o_store ?_ | refine o_pickt ?_ | refine o_pickf ?_ | refine o_build ?_ | refine skF ?_ | refine skU ?_
      refine ct_ret ⟨.inr rfl, oC ?_⟩
      have : upL p = p.take m ++ [c + 1] := by
        unfold upL
        rw [← hs, hst]
        simp [List.getD, hc]
      rw [show prefixL p = ⟨p, upL p⟩ from rfl, this]
      rfl
  · have h0 : n = 0 := by have := of_decide_eq_false hg; omega
    subst h0
    repeat first | refine o_copy ?_ | refine nl ?_ | refine ct_seq ?_ | refine rg ?_ | refine ct_block ?_ | refine bq ?_ | refine o_loads ?_ | refine o_loadp ?_ | refine o_iaddr ?_ | refine o_iaddrO ?_ | refine o_iaddrR ?_ | refine o_b2sR ?_ | refine o_add ?_ | refine o_sub ?_ | refine o_cat ?_ | refine o_bin ?_ | refine o_lenq ?_ | refine o_len ?_ | refine o_alloc ?_ | refine o_s2b ?_ | refine o_store ?_ | refine o_pickt ?_ | refine o_pickf ?_ | refine o_build ?_ | refine skF ?_ | refine skU ?_
    refine cndf (ct_exit ?_)
    repeat first | refine o_copy ?_ | refine nl ?_ | refine ct_seq ?_ | refine rg ?_ | refine ct_block ?_ | refine bq ?_ | refine o_loads ?_ | refine o_loadp ?_ | refine o_iaddr ?_ | refine o_iaddrO ?_ | refine o_iaddrR ?_ | refine o_b2sR ?_ | refine o_add ?_ | refine o_sub ?_ | refine o_cat ?_ | refine o_bin ?_ | refine o_lenq ?_ | refine o_len ?_ | refine o_alloc ?_ | refine o_s2b ?_ | refine o_store ?_ | refine o_pickt ?_ | refine o_pickf ?_ | refine o_build ?_ | refine skF ?_ | refine skU ?_
    refine cndf (ct_skip ?_) rfl (by simp)
    have hb2 : (((p.map encB).drop 0).take 0) = ([] : Str).map encB := rfl
    repeat first | refine o_copy ?_ | refine nl ?_ | refine ct_seq ?_ | refine rg ?_ | refine ct_block ?_ | refine bq ?_ | refine o_b2sO hb2 ?_ | refine o_loads ?_ | refine o_loadp ?_ | refine o_iaddr ?_ | refine o_iaddrO ?_ | refine o_iaddrR ?_ | refine o_b2sR ?_ | refine o_add ?_ | refine o_sub ?_ | refine o_cat ?_ | refine o_bin ?_ | refine o_lenq ?_ | refine o_len ?_ | refine o_alloc ?_ | refine o_s2b ?_ | refine o_store ?_ | refine o_pickt ?_ | refine o_pickf ?_ | refine o_build ?_ | refine skF ?_ | refine skU ?_
    refine ct_ret ⟨.inr rfl, oC ?_⟩
    have : upL p = [] := by
      unfold upL
      rw [← hs]
      rfl
    rw [show prefixL p = ⟨p, upL p⟩ from rfl, this]
    rfl

theorem rprefix_vc (p : Str) (hp : p.length ≤ 1000000000) : VC Try.prog 16 [.str p] [] (.agg (encS (prefixL p))) [] := by
  refine vc_of vf16 ?_ (Nat.le_of_ble_eq_true rfl) (by intro vs h; cases h)
  repeat first | refine o_copy ?_ | refine nl ?_ | refine ct_seq ?_ | refine rg ?_ | refine ct_block ?_ | refine bq ?_ | refine o_b2sR ?_ | refine o_indexS ?_ | refine o_add ?_ | refine o_sub ?_ | refine o_cat ?_ | refine o_bin ?_ | refine o_alloc ?_ | refine o_bslice ?_ | refine o_store ?_ | refine o_pickt ?_ | refine o_pickf ?_ | refine o_build ?_ | refine o_lenS ?_ | refine skF ?_ | refine skU ?_
  refine ct_loopG (fun (g : Nat) => [(0, .str p), (2, .ptr ⟨1, 0⟩ 1 0 0), (3, .int .i64 g)])
    (fun g => [(⟨1, 0⟩, ⟨true, false, 2, [[.str [], .str []]]⟩)]) (fun g => g)
    (fun g => g ≤ p.length ∧ stripN p g = stripN p p.length) p.length goes ⟨Nat.le_refl _, rfl⟩ ?_
  rintro n ⟨hn, hs⟩
  (try dsimp only)
  repeat first | refine o_copy ?_ | refine nl ?_ | refine ct_seq ?_ | refine rg ?_ | refine ct_block ?_ | refine bq ?_ | refine o_b2sR ?_ | refine o_indexS ?_ | refine o_add ?_ | refine o_sub ?_ | refine o_cat ?_ | refine o_bin ?_ | refine o_alloc ?_ | refine o_bslice ?_ | refine o_store ?_ | refine o_pickt ?_ | refine o_pickf ?_ | refine o_build ?_ | refine o_lenS ?_ | refine skF ?_ | refine skU ?_
  refine glook (fun hg => ?_) (fun hg => ?_)
  · have hpos : 0 < n := by have := of_decide_eq_true hg; omega
    obtain ⟨m, rfl⟩ : ∃ m, n = m + 1 := ⟨n - 1, by omega⟩
    obtain ⟨c, hc⟩ : ∃ c, p[m]? = some c := ⟨_, List.getElem?_eq_getElem (by omega)⟩
    have hce : p[(((m + 1 : Nat) : Int) - 1).toNat]? = some c := by
      rw [show (((m + 1 : Nat) : Int) - 1).toNat = m by omega]; exact hc
    have hmm : ((m + 1 : Nat) : Int) - 1 = (m : Nat) := by omega
    repeat first | refine o_copy ?_ | refine nl ?_ | refine ct_seq ?_ | refine rg ?_ | refine ct_block ?_ | refine bq ?_ | refine o_b2sR ?_ | refine o_indexS ?_ | refine o_add ?_ | refine o_sub ?_ | refine o_cat ?_ | refine o_bin ?_ | refine o_alloc ?_ | refine o_bslice ?_ | refine o_store ?_ | refine o_pickt ?_ | refine o_pickf ?_ | refine o_build ?_ | refine o_lenS ?_ | refine skF ?_ | refine skU ?_
    refine cnd (fun h => ct_skip ?_) (fun h => ct_exit ?_)
    · have hc255 : p[m]? = some 255 := by
        rw [hc]; congr 1
        have : (c.toNat : Int) = 255 := by simpa using h
        exact UInt8.toNat_inj.1 (by show c.toNat = 255; omega)
      repeat first | refine o_copy ?_ | refine nl ?_ | refine ct_seq ?_ | refine rg ?_ | refine ct_block ?_ | refine bq ?_ | refine o_b2sR ?_ | refine o_indexS ?_ | refine o_add ?_ | refine o_sub ?_ | refine o_cat ?_ | refine o_bin ?_ | refine o_alloc ?_ | refine o_bslice ?_ | refine o_store ?_ | refine o_pickt ?_ | refine o_pickf ?_ | refine o_build ?_ | refine o_lenS ?_ | refine skF ?_ | refine skU ?_
      refine agn m ⟨by omega, ?_⟩ (goes (h1 := by refine ⟨rfl, rfl, congrArg (fun x => some (PV.int .i64 x)) hmm, trivial⟩))
      rw [← hs, stripN, if_pos hc255]
    · have hne : ¬ p[m]? = some 255 := by
        rw [hc]
        intro e
        cases e
        exact absurd h (by decide)
      have hst : stripN p (m + 1) = m + 1 := by rw [stripN, if_neg hne]
      repeat first | refine o_copy ?_ | refine nl ?_ | refine ct_seq ?_ | refine rg ?_ | refine ct_block ?_ | refine bq ?_ | refine o_b2sR ?_ | refine o_indexS ?_ | refine o_add ?_ | refine o_sub ?_ | refine o_cat ?_ | refine o_bin ?_ | refine o_alloc ?_ | refine o_bslice ?_ | refine o_store ?_ | refine o_pickt ?_ | refine o_pickf ?_ | refine o_build ?_ | refine o_lenS ?_ | refine skF ?_ | refine skU ?_
      refine cndf (ct_skip ?_) rfl (by simp; omega)
      have hw := wrap_u8_add c
      have hl1 : ((p.drop (Int.toNat 0)).take ((((m + 1 : Nat) : Int) - 1).toNat - Int.toNat 0)).length ≤ 1000000000 := by simp; omega
      repeat first | refine o_copy ?_ | refine nl ?_ | refine ct_seq ?_ | refine rg ?_ | refine ct_block ?_ | refine bq ?_ | refine o_slstr ?_ | refine o_addE ?_ | refine o_b2sR ?_ | refine o_indexS ?_ | refine o_add ?_ | refine o_sub ?_ | refine o_cat ?_ | refine o_bin ?_ | refine o_alloc ?_ | refine o_bslice ?_ | refine o_store ?_ | refine o_pickt ?_ | refine o_pickf ?_ | refine o_build ?_ | refine o_lenS ?_ | refine skF ?_ | refine skU ?_
      refine ct_ret ⟨.inr rfl, oC ?_⟩
      have : upL p = p.take m ++ [c + 1] := by
        unfold upL
        rw [← hs, hst]
        simp [List.getD, hc]
      rw [show prefixL p = ⟨p, upL p⟩ from rfl, this]
      show [PV.str p, PV.str (_ ++ [UInt8.ofNat (((c + 1).toNat : Int)).toNat])] = _
      rw [ofNat_u8, show (((m + 1 : Nat) : Int) - 1).toNat - Int.toNat 0 = m by omega]
      rfl
  · have h0 : n = 0 := by have := of_decide_eq_false hg; omega
    subst h0
    repeat first | refine o_copy ?_ | refine nl ?_ | refine ct_seq ?_ | refine rg ?_ | refine ct_block ?_ | refine bq ?_ | refine o_b2sR ?_ | refine o_indexS ?_ | refine o_add ?_ | refine o_sub ?_ | refine o_cat ?_ | refine o_bin ?_ | refine o_alloc ?_ | refine o_bslice ?_ | refine o_store ?_ | refine o_pickt ?_ | refine o_pickf ?_ | refine o_build ?_ | refine o_lenS ?_ | refine skF ?_ | refine skU ?_
    refine cndf (ct_exit ?_)
    repeat first | refine o_copy ?_ | refine nl ?_ | refine ct_seq ?_ | refine rg ?_ | refine ct_block ?_ | refine bq ?_ | refine o_b2sR ?_ | refine o_indexS ?_ | refine o_add ?_ | refine o_sub ?_ | refine o_cat ?_ | refine o_bin ?_ | refine o_alloc ?_ | refine o_bslice ?_ | refine o_store ?_ | refine o_pickt ?_ | refine o_pickf ?_ | refine o_build ?_ | refine o_lenS ?_ | refine skF ?_ | refine skU ?_
    refine cndt ?_ rfl rfl
    repeat first | refine o_copy ?_ | refine nl ?_ | refine ct_seq ?_ | refine rg ?_ | refine ct_block ?_ | refine bq ?_ | refine o_b2sR ?_ | refine o_indexS ?_ | refine o_add ?_ | refine o_sub ?_ | refine o_cat ?_ | refine o_bin ?_ | refine o_alloc ?_ | refine o_bslice ?_ | refine o_store ?_ | refine o_pickt ?_ | refine o_pickf ?_ | refine o_build ?_ | refine o_lenS ?_ | refine skF ?_ | refine skU ?_
    refine ct_ret ⟨.inr rfl, oC ?_⟩
    have : upL p = [] := by
      unfold upL
      rw [← hs]
      rfl
    rw [show prefixL p = ⟨p, upL p⟩ from rfl, this]
    rfl
end Go.Proofs
open Go.V Go.Pu
set_option linter.unusedVariables false
set_option linter.unusedSimpArgs false
set_option maxRecDepth 20000
namespace Go.Proofs
/-! Short, In -/
def shortL (l : List SpanL) (n : Int) : Bool := l.all (fun s => decide (s.lo.length ≤ 30) && decide (s.hi.length ≤ 30)) && decide ((l.length : Int) ≤ n)
theorem all_drop {α : Type} {f : α → Bool} {l : List α} {i : Nat} {x : α} (h : l[i]? = some x) : (l.drop i).all f = (f x && (l.drop (i + 1)).all f) := by
  rw [drop_get h, List.all_cons]
theorem short_vc {q : PV} {l : List SpanL} {n : Int} (hq : Sl q (l.map encS)) (hl : l.length ≤ maxLen) : VC Try.prog 12 [q, .int .i64 n] [] (.bool (shortL l n)) [] := by
  refine vc_of vf12 ?_ (Nat.le_of_ble_eq_true rfl) (by intro vs h; cases h)
  unfold maxLen at hl
  repeat first | refine o_copy ?_ | refine nl ?_ | refine ct_seq ?_ | refine rg ?_ | refine ct_block ?_ | refine bq ?_ | refine o_loads ?_ | refine o_loadp ?_ | refine o_faddr ?_ | refine o_iaddr ?_ | refine o_iaddrO ?_ | refine o_iaddrR ?_ | refine o_add ?_ | refine o_cat ?_ | refine o_bin ?_ | refine o_lenq ?_ | refine o_len ?_ | refine o_pickt ?_ | refine o_pickf ?_ | refine o_lenS ?_ | refine skF ?_ | refine skU ?_
  refine ct_loopG (fun (g : Nat) => [(0, q), (1, .int .i64 n), (5, .int .i64 g)]) (fun g => []) (fun g => l.length - g)
    (fun g => g ≤ l.length ∧ (l.drop g).all (fun s => decide (s.lo.length ≤ 30) && decide (s.hi.length ≤ 30)) = l.all (fun s => decide (s.lo.length ≤ 30) && decide (s.hi.length ≤ 30))) 0 goes ⟨Nat.zero_le _, rfl⟩ ?_
  rintro i ⟨hi, hv⟩
  (try dsimp only)
  repeat first | refine o_copy ?_ | refine nl ?_ | refine ct_seq ?_ | refine rg ?_ | refine ct_block ?_ | refine bq ?_ | refine o_loads ?_ | refine o_loadp ?_ | refine o_faddr ?_ | refine o_iaddr ?_ | refine o_iaddrO ?_ | refine o_iaddrR ?_ | refine o_add ?_ | refine o_cat ?_ | refine o_bin ?_ | refine o_lenq ?_ | refine o_len ?_ | refine o_pickt ?_ | refine o_pickf ?_ | refine o_lenS ?_ | refine skF ?_ | refine skU ?_
  refine cnd (fun h => ct_skip ?_) (fun h => ct_exit ?_)
  · have hlt : i < l.length := by have h' := of_decide_eq_true h; simp only [List.length_map] at h'; omega
    obtain ⟨x, hx⟩ : ∃ x, l[i]? = some x := ⟨_, List.getElem?_eq_getElem hlt⟩
    have hxe := gm (enc := encS) (n := (i : Int)) hx (by omega)
    rw [all_drop hx] at hv
    repeat first | refine o_copy ?_ | refine nl ?_ | refine ct_seq ?_ | refine rg ?_ | refine ct_block ?_ | refine bq ?_ | refine o_loads ?_ | refine o_loadp ?_ | refine o_faddr ?_ | refine o_iaddr ?_ | refine o_iaddrO ?_ | refine o_iaddrR ?_ | refine o_add ?_ | refine o_cat ?_ | refine o_bin ?_ | refine o_lenq ?_ | refine o_len ?_ | refine o_pickt ?_ | refine o_pickf ?_ | refine o_lenS ?_ | refine skF ?_ | refine skU ?_
    refine glook (fun hg => ?_) (fun hg => ?_)
    · repeat first | refine o_copy ?_ | refine nl ?_ | refine ct_seq ?_ | refine rg ?_ | refine ct_block ?_ | refine bq ?_ | refine o_loads ?_ | refine o_loadp ?_ | refine o_faddr ?_ | refine o_iaddr ?_ | refine o_iaddrO ?_ | refine o_iaddrR ?_ | refine o_add ?_ | refine o_cat ?_ | refine o_bin ?_ | refine o_lenq ?_ | refine o_len ?_ | refine o_pickt ?_ | refine o_pickf ?_ | refine o_lenS ?_ | refine skF ?_ | refine skU ?_
      refine cndt ?_
      repeat first | refine o_copy ?_ | refine nl ?_ | refine ct_seq ?_ | refine rg ?_ | refine ct_block ?_ | refine bq ?_ | refine o_loads ?_ | refine o_loadp ?_ | refine o_faddr ?_ | refine o_iaddr ?_ | refine o_iaddrO ?_ | refine o_iaddrR ?_ | refine o_add ?_ | refine o_cat ?_ | refine o_bin ?_ | refine o_lenq ?_ | refine o_len ?_ | refine o_pickt ?_ | refine o_pickf ?_ | refine o_lenS ?_ | refine skF ?_ | refine skU ?_
      refine ct_ret ⟨.inr rfl, oB ?_⟩
      have : ¬ x.lo.length ≤ 30 := by have := of_decide_eq_true hg; omega
      simp [shortL, ← hv, this]
    · repeat first | refine o_copy ?_ | refine nl ?_ | refine ct_seq ?_ | refine rg ?_ | refine ct_block ?_ | refine bq ?_ | refine o_loads ?_ | refine o_loadp ?_ | refine o_faddr ?_ | refine o_iaddr ?_ | refine o_iaddrO ?_ | refine o_iaddrR ?_ | refine o_add ?_ | refine o_cat ?_ | refine o_bin ?_ | refine o_lenq ?_ | refine o_len ?_ | refine o_pickt ?_ | refine o_pickf ?_ | refine o_lenS ?_ | refine skF ?_ | refine skU ?_
      refine cnd (fun h2 => ?_) (fun h2 => ct_skip ?_)
      · repeat first | refine o_copy ?_ | refine nl ?_ | refine ct_seq ?_ | refine rg ?_ | refine ct_block ?_ | refine bq ?_ | refine o_loads ?_ | refine o_loadp ?_ | refine o_faddr ?_ | refine o_iaddr ?_ | refine o_iaddrO ?_ | refine o_iaddrR ?_ | refine o_add ?_ | refine o_cat ?_ | refine o_bin ?_ | refine o_lenq ?_ | refine o_len ?_ | refine o_pickt ?_ | refine o_pickf ?_ | refine o_lenS ?_ | refine skF ?_ | refine skU ?_
        refine ct_ret ⟨.inr rfl, oB ?_⟩
        have : ¬ x.hi.length ≤ 30 := by have := of_decide_eq_true h2; omega
        simp [shortL, ← hv, this]
      · repeat first | refine o_copy ?_ | refine nl ?_ | refine ct_seq ?_ | refine rg ?_ | refine ct_block ?_ | refine bq ?_ | refine o_loads ?_ | refine o_loadp ?_ | refine o_faddr ?_ | refine o_iaddr ?_ | refine o_iaddrO ?_ | refine o_iaddrR ?_ | refine o_add ?_ | refine o_cat ?_ | refine o_bin ?_ | refine o_lenq ?_ | refine o_len ?_ | refine o_pickt ?_ | refine o_pickf ?_ | refine o_lenS ?_ | refine skF ?_ | refine skU ?_
        refine agn (i + 1) ⟨by omega, ?_⟩ goes
        have h3 : x.hi.length ≤ 30 := by have := of_decide_eq_false h2; omega
        have h4 : x.lo.length ≤ 30 := by have := of_decide_eq_false hg; omega
        rw [← hv]
        simp [h3, h4]
  · have hge : i = l.length := by have h' := of_decide_eq_false h; simp only [List.length_map] at h'; omega
    subst hge
    repeat first | refine o_copy ?_ | refine nl ?_ | refine ct_seq ?_ | refine rg ?_ | refine ct_block ?_ | refine bq ?_ | refine o_loads ?_ | refine o_loadp ?_ | refine o_faddr ?_ | refine o_iaddr ?_ | refine o_iaddrO ?_ | refine o_iaddrR ?_ | refine o_add ?_ | refine o_cat ?_ | refine o_bin ?_ | refine o_lenq ?_ | refine o_len ?_ | refine o_pickt ?_ | refine o_pickf ?_ | refine o_lenS ?_ | refine skF ?_ | refine skU ?_
    refine ct_ret ⟨.inr rfl, oB ?_⟩
    rw [List.drop_length] at hv
    simp [shortL, ← hv]

/-! Near -/
abbrev encT (s : Str) : List PV := [.str s]
def cutE (e : Str) : Str := (e.drop (Int.toNat 0)).take (((e.length : Int) - 1).toNat - Int.toNat 0)
def lowE (e : Str) : UInt8 := UInt8.ofNat (IntKind.u8.wrap (((e.getD (e.length - 1) 0).toNat : Int) - 1)).toNat
def near1 (e : Str) : List Str := if e.length = 0 then [e, e ++ [0], e ++ [255]] else [e, e ++ [0], e ++ [255]] ++ [cutE e, cutE e ++ [lowE e] ++ [255]]
def nearL (l : List SpanL) : List Str := l.foldl (fun o s => o ++ near1 s.lo ++ near1 s.hi) [[], [0], [97], [255]]
theorem near1_len (e : Str) : (near1 e).length ≤ 5 := by unfold near1; split <;> simp
theorem cutE_len (e : Str) : (cutE e).length ≤ e.length := by simp only [cutE, List.length_take, List.length_drop]; omega
theorem near1_mem {e k : Str} (h : k ∈ near1 e) : k.length ≤ e.length + 2 := by
  have := cutE_len e
  unfold near1 at h
  split at h
  · simp at h
    rcases h with rfl | rfl | rfl <;> simp
  · simp at h
    rcases h with rfl | rfl | rfl | rfl | rfl <;> simp <;> omega
theorem nearL_mem {l : List SpanL} {n : Nat} (hl : ∀ s ∈ l, s.lo.length ≤ n ∧ s.hi.length ≤ n) {k : Str} (h : k ∈ nearL l) : k.length ≤ n + 2 := by
  have key : ∀ (l : List SpanL) (o : List Str), (∀ s ∈ l, s.lo.length ≤ n ∧ s.hi.length ≤ n) → (∀ k ∈ o, k.length ≤ n + 2) → ∀ k ∈ l.foldl (fun o s => o ++ near1 s.lo ++ near1 s.hi) o, k.length ≤ n + 2 := by
    intro l
    induction l with
    | nil => intro o _ ho; exact ho
    | cons s l ih =>
      intro o hs ho
      refine ih _ (fun t ht => hs t (by simp [ht])) (fun k hk => ?_)
      obtain ⟨h1, h2⟩ := hs s (by simp)
      simp only [List.mem_append] at hk
      rcases hk with (hk | hk) | hk
      · exact ho k hk
      · have := near1_mem hk; omega
      · have := near1_mem hk; omega
  exact key l _ hl (by intro k hk; simp at hk; rcases hk with rfl | rfl | rfl | rfl <;> simp) k h
theorem nearL_len (l : List SpanL) : (nearL l).length ≤ 4 + 10 * l.length := by
  have key : ∀ (l : List SpanL) (o : List Str), (l.foldl (fun o s => o ++ near1 s.lo ++ near1 s.hi) o).length ≤ o.length + 10 * l.length := by
    intro l
    induction l with
    | nil => intro o; simp
    | cons s l ih =>
      intro o
      refine Nat.le_trans (ih _) ?_
      have h1 := near1_len s.lo
      have h2 := near1_len s.hi
      simp only [List.length_append, List.length_cons]
      omega
  exact key l _
set_option maxHeartbeats 2000000 in
theorem near_vc {q : PV} {l : List SpanL} (hq : Sl q (l.map encS)) (hl : l.length ≤ 1000) (hs : ∀ s ∈ l, s.lo.length ≤ 1000 ∧ s.hi.length ≤ 1000) : VC Try.prog 36 [q] [] (ownV ⟨0, 0⟩ ((nearL l).map encT)) [blkV 1 ((nearL l).map encT)] := by
  refine vc_of vf36 ?_ (Nat.le_of_ble_eq_true rfl) (by intro vs h; cases h)
  repeat first | refine o_copy ?_ | refine nl ?_ | refine ct_seq ?_ | refine rg ?_ | refine ct_block ?_ | refine bq ?_ | refine o_loads ?_ | refine o_loadp ?_ | refine o_faddr ?_ | refine o_iaddr ?_ | refine o_iaddrO ?_ | refine o_iaddrR ?_ | refine o_b2sR ?_ | refine o_indexS ?_ | refine o_add ?_ | refine o_sub ?_ | refine o_cat ?_ | refine o_bin ?_ | refine o_lenq ?_ | refine o_len ?_ | refine o_bslice ?_ | refine o_lenS ?_
  refine ct_loopG (fun (g : Nat × List Str) => [(0, q), (3, ownV ⟨1, 8192⟩ (g.2.map encT)), (4, .int .i64 g.1)]) (fun g => [(⟨1, 8192⟩, blkV 1 (g.2.map encT))]) (fun g => l.length - g.1)
    (fun g => g.1 ≤ l.length ∧ g.2.length ≤ 4 + 10 * g.1 ∧ (l.drop g.1).foldl (fun o s => o ++ near1 s.lo ++ near1 s.hi) g.2 = nearL l) (0, [[], [0], [97], [255]]) goes ⟨Nat.zero_le _, by simp, rfl⟩ ?_
  rintro ⟨i, o⟩ ⟨hi, hol, hv⟩
  dsimp only at hi hol hv ⊢
  repeat first | refine o_copy ?_ | refine nl ?_ | refine ct_seq ?_ | refine rg ?_ | refine ct_block ?_ | refine bq ?_ | refine o_loads ?_ | refine o_loadp ?_ | refine o_faddr ?_ | refine o_iaddr ?_ | refine o_iaddrO ?_ | refine o_iaddrR ?_ | refine o_b2sR ?_ | refine o_indexS ?_ | refine o_add ?_ | refine o_sub ?_ | refine o_cat ?_ | refine o_bin ?_ | refine o_lenq ?_ | refine o_len ?_ | refine o_bslice ?_ | refine o_lenS ?_
  refine cnd (fun h => ct_skip ?_) (fun h => ct_exit ?_)
  · have hlt : i < l.length := by have h' := of_decide_eq_true h; simp only [List.length_map] at h'; omega
    obtain ⟨x, hx⟩ : ∃ x, l[i]? = some x := ⟨_, List.getElem?_eq_getElem hlt⟩
    have hxe := gm (enc := encS) (n := (i : Int)) hx (by omega)
    have hxs := hs x (List.mem_of_getElem? hx)
    rw [drop_get hx, List.foldl_cons] at hv
    repeat first | refine o_copy ?_ | refine nl ?_ | refine ct_seq ?_ | refine rg ?_ | refine ct_block ?_ | refine bq ?_ | refine o_loads ?_ | refine o_loadp ?_ | refine o_faddr ?_ | refine o_iaddr ?_ | refine o_iaddrO ?_ | refine o_iaddrR ?_ | refine o_b2sR ?_ | refine o_indexS ?_ | refine o_add ?_ | refine o_sub ?_ | refine o_cat ?_ | refine o_bin ?_ | refine o_lenq ?_ | refine o_len ?_ | refine o_bslice ?_ | refine o_lenS ?_
    refine ct_loopG (fun (g : Nat × List Str) => [(0, q), (3, ownV ⟨1, 8192⟩ (g.2.map encT)), (4, .int .i64 i), (5, .own ⟨1, 41040⟩ 2 0 2), (6, .int .i64 g.1)])
      (fun g => [(⟨1, 8192⟩, blkV 1 (g.2.map encT)), (⟨1, 41040⟩, blkV 1 [[.str x.lo], [.str x.hi]])]) (fun g => 2 - g.1)
      (fun g => g.1 ≤ 2 ∧ g.2.length ≤ 4 + 10 * i + 5 * g.1 ∧ ([x.lo, x.hi].drop g.1).foldl (fun o e => o ++ near1 e) g.2 = o ++ near1 x.lo ++ near1 x.hi) (0, o) goes ⟨by simp, by simp; omega, rfl⟩ ?_
    rintro ⟨k, p⟩ ⟨hk, hpl, hw⟩
    dsimp only at hk hpl hw ⊢
    repeat first | refine o_copy ?_ | refine nl ?_ | refine ct_seq ?_ | refine rg ?_ | refine ct_block ?_ | refine bq ?_ | refine o_loads ?_ | refine o_loadp ?_ | refine o_faddr ?_ | refine o_iaddr ?_ | refine o_iaddrO ?_ | refine o_iaddrR ?_ | refine o_b2sR ?_ | refine o_indexS ?_ | refine o_add ?_ | refine o_sub ?_ | refine o_cat ?_ | refine o_bin ?_ | refine o_lenq ?_ | refine o_len ?_ | refine o_bslice ?_ | refine o_lenS ?_
    refine cnd (fun h2 => ct_skip ?_) (fun h2 => ct_exit ?_)
    · have hk2 : k < 2 := by have h' := of_decide_eq_true h2; omega
      obtain ⟨e, he⟩ : ∃ e, [x.lo, x.hi][k]? = some e := ⟨_, List.getElem?_eq_getElem (by simpa using hk2)⟩
      have hke : (blkV 1 [[PV.str x.lo], [.str x.hi]]).els[0 + (k : Int).toNat]? = some [.str e] := by
        rw [show 0 + (k : Int).toNat = k by omega]
        show (List.map encT [x.lo, x.hi])[k]? = _
        rw [List.getElem?_map, he]; rfl
      have hel : e.length ≤ 1000 := by
        have := List.mem_of_getElem? he
        simp at this
        rcases this with rfl | rfl
        · exact hxs.1
        · exact hxs.2
      rw [drop_get he, List.foldl_cons] at hw
      repeat first | refine o_copy ?_ | refine nl ?_ | refine ct_seq ?_ | refine rg ?_ | refine ct_block ?_ | refine bq ?_ | refine o_iaddrG ?_ | refine o_v (vaps encT p [e, e ++ [0], e ++ [255]]) ?_ | refine o_loads ?_ | refine o_loadp ?_ | refine o_faddr ?_ | refine o_iaddr ?_ | refine o_iaddrO ?_ | refine o_iaddrR ?_ | refine o_b2sR ?_ | refine o_indexS ?_ | refine o_add ?_ | refine o_sub ?_ | refine o_cat ?_ | refine o_bin ?_ | refine o_lenq ?_ | refine o_len ?_ | refine o_bslice ?_ | refine o_lenS ?_
      refine cnd (fun h3 => ?_) (fun h3 => ct_skip ?_)
      · have hpos : 0 < e.length := by have h' := of_decide_eq_true h3; omega
        obtain ⟨c, hc⟩ : ∃ c, e[e.length - 1]? = some c := ⟨_, List.getElem?_eq_getElem (by omega)⟩
        have hce : e[(((e.length : Nat) : Int) - 1).toNat]? = some c := by rw [show (((e.length : Nat) : Int) - 1).toNat = e.length - 1 by omega]; exact hc
        have hlow : lowE e = UInt8.ofNat (IntKind.u8.wrap ((c.toNat : Int) - 1)).toNat := by simp only [lowE, List.getD, hc, Option.getD_some]
        have hn1 : near1 e = [e, e ++ [0], e ++ [255]] ++ [cutE e, cutE e ++ [UInt8.ofNat (IntKind.u8.wrap ((c.toNat : Int) - 1)).toNat] ++ [255]] := by rw [near1, if_neg (by omega), hlow]
        repeat first | refine o_copy ?_ | refine nl ?_ | refine ct_seq ?_ | refine rg ?_ | refine ct_block ?_ | refine bq ?_ | refine o_slstr ?_ | refine o_v (vaps encT (p ++ [e, e ++ [0], e ++ [255]]) [cutE e, cutE e ++ [UInt8.ofNat (IntKind.u8.wrap ((c.toNat : Int) - 1)).toNat] ++ [255]]) ?_ | refine o_loads ?_ | refine o_loadp ?_ | refine o_faddr ?_ | refine o_iaddr ?_ | refine o_iaddrO ?_ | refine o_iaddrR ?_ | refine o_b2sR ?_ | refine o_indexS ?_ | refine o_add ?_ | refine o_sub ?_ | refine o_cat ?_ | refine o_bin ?_ | refine o_lenq ?_ | refine o_len ?_ | refine o_bslice ?_ | refine o_lenS ?_
        refine agn (k + 1, (p ++ [e, e ++ [0], e ++ [255]]) ++ [cutE e, cutE e ++ [UInt8.ofNat (IntKind.u8.wrap ((c.toNat : Int) - 1)).toNat] ++ [255]]) ⟨by simp only; omega, by simp only [List.length_append, List.length_cons, List.length_nil]; omega, ?_⟩ goes
        rw [← hw, hn1]
        simp only [List.append_assoc]
      · have h0 : e.length = 0 := by have h' := of_decide_eq_false h3; omega
        have hn1 : near1 e = [e, e ++ [0], e ++ [255]] := by rw [near1, if_pos h0]
        repeat first | refine o_copy ?_ | refine nl ?_ | refine ct_seq ?_ | refine rg ?_ | refine ct_block ?_ | refine bq ?_ | refine o_loads ?_ | refine o_loadp ?_ | refine o_faddr ?_ | refine o_iaddr ?_ | refine o_iaddrO ?_ | refine o_iaddrR ?_ | refine o_b2sR ?_ | refine o_indexS ?_ | refine o_add ?_ | refine o_sub ?_ | refine o_cat ?_ | refine o_bin ?_ | refine o_lenq ?_ | refine o_len ?_ | refine o_bslice ?_ | refine o_lenS ?_
        refine agn (k + 1, p ++ [e, e ++ [0], e ++ [255]]) ⟨by simp only; omega, by simp only [List.length_append, List.length_cons, List.length_nil]; omega, ?_⟩ goes
        rw [← hw, hn1]
    · have hk2 : k = 2 := by have h' := of_decide_eq_false h2; omega
      subst hk2
      repeat first | refine o_copy ?_ | refine nl ?_ | refine ct_seq ?_ | refine rg ?_ | refine ct_block ?_ | refine bq ?_ | refine o_loads ?_ | refine o_loadp ?_ | refine o_faddr ?_ | refine o_iaddr ?_ | refine o_iaddrO ?_ | refine o_iaddrR ?_ | refine o_b2sR ?_ | refine o_indexS ?_ | refine o_add ?_ | refine o_sub ?_ | refine o_cat ?_ | refine o_bin ?_ | refine o_lenq ?_ | refine o_len ?_ | refine o_bslice ?_ | refine o_lenS ?_
      refine agn (i + 1, p) ⟨by simp only; omega, by simp only; omega, ?_⟩ goes
      rw [← hv, ← hw]
      rfl
  · have hge : i = l.length := by have h' := of_decide_eq_false h; simp only [List.length_map] at h'; omega
    subst hge
    rw [List.drop_length] at hv
    repeat first | refine o_copy ?_ | refine nl ?_ | refine ct_seq ?_ | refine rg ?_ | refine ct_block ?_ | refine bq ?_ | refine o_loads ?_ | refine o_loadp ?_ | refine o_faddr ?_ | refine o_iaddr ?_ | refine o_iaddrO ?_ | refine o_iaddrR ?_ | refine o_b2sR ?_ | refine o_indexS ?_ | refine o_add ?_ | refine o_sub ?_ | refine o_cat ?_ | refine o_bin ?_ | refine o_lenq ?_ | refine o_len ?_ | refine o_bslice ?_ | refine o_lenS ?_
    refine ct_ret ⟨.inr rfl, oOwn ?_⟩
    rw [← hv]
    rfl
end Go.Proofs
