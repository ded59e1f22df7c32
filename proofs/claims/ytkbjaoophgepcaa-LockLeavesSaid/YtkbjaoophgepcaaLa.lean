/- La -/
import Derived.Test.YtkbjaoophgepcaaProg
import Derived.Test.YtkbjaoophgepcaaVD
import Derived.Test.YtkbjaoophgepcaaPu
open Go.V Go.Pu
set_option linter.unusedVariables false
set_option linter.unusedSimpArgs false
set_option maxRecDepth 20000
namespace Go.Proofs
/-- downspout/downspoutref32.Right -/
def vc48 : VCode :=
 (.seq
 (.region 0 false [
 ⟨(some 1), .box (.t 0), none, 0, []⟩,
 ⟨(some 2), .copy (.c (.bool false)), none, 8, []⟩])
 (.seq
 (.region 1 false [
 ⟨(some 3), .faddr 0 (.t 1), none, 8192, []⟩,
 ⟨(some 4), .load false 1 (.t 3), none, 8200, [0]⟩,
 ⟨(some 5), .bin .geq (.t 4) (.c (.int .i64 0)), none, 8208, [1, 0]⟩,
 ⟨(some 6), .copy (.t 5), none, 8216, [2, 1, 0]⟩,
 ⟨(some 7), .faddr 0 (.t 1), (some (3, 6, true)), 8224, [3, 2, 1, 0]⟩,
 ⟨(some 8), .load false 1 (.t 7), (some (3, 6, true)), 8232, [4, 3, 2, 1, 0]⟩,
 ⟨(some 9), .bin .leq (.t 8) (.c (.int .i64 1000000000)), (some (3, 6, true)), 8240, [5, 4, 3, 2, 1, 0]⟩,
 ⟨(some 10), .pick (.t 6) (.t 9) (.c (.bool false)), none, 8248, [3, 2, 1, 0, 6, 5, 4]⟩,
 ⟨(some 11), .copy (.t 10), none, 8256, [7, 3, 2, 1, 0, 6, 5, 4]⟩,
 ⟨(some 12), .faddr 1 (.t 1), (some (8, 11, true)), 8264, [8, 7, 3, 2, 1, 0, 6, 5, 4]⟩,
 ⟨(some 13), .load false 1 (.t 12), (some (8, 11, true)), 8272, [9, 8, 7, 3, 2, 1, 0, 6, 5, 4]⟩,
 ⟨(some 14), .lenS (.t 13), (some (8, 11, true)), 8280, [10, 9, 8, 7, 3, 2, 1, 0, 6, 5, 4]⟩,
 ⟨(some 15), .bin .leq (.t 14) (.c (.int .i64 200)), (some (8, 11, true)), 8288, [11, 10, 9, 8, 7, 3, 2, 1, 0, 6, 5, 4]⟩,
 ⟨(some 16), .pick (.t 11) (.t 15) (.c (.bool false)), none, 8296, [8, 7, 3, 2, 1, 0, 6, 5, 4, 12, 11, 10, 9]⟩,
 ⟨(some 17), .copy (.t 16), none, 8304, [13, 8, 7, 3, 2, 1, 0, 6, 5, 4, 12, 11, 10, 9]⟩,
 ⟨(some 18), .faddr 2 (.t 1), (some (14, 17, true)), 8312, [14, 13, 8, 7, 3, 2, 1, 0, 6, 5, 4, 12, 11, 10, 9]⟩,
 ⟨(some 19), .load false 1 (.t 18), (some (14, 17, true)), 8320, [15, 14, 13, 8, 7, 3, 2, 1, 0, 6, 5, 4, 12, 11, 10, 9]⟩,
 ⟨(some 20), .bin .geq (.t 19) (.c (.int .i64 0)), (some (14, 17, true)), 8328, [16, 15, 14, 13, 8, 7, 3, 2, 1, 0, 6, 5, 4, 12, 11, 10, 9]⟩,
 ⟨(some 21), .pick (.t 17) (.t 20) (.c (.bool false)), none, 8336, [14, 13, 8, 7, 3, 2, 1, 0, 6, 5, 4, 12, 11, 10, 9, 17, 16, 15]⟩,
 ⟨(some 22), .copy (.t 21), none, 8344, [18, 14, 13, 8, 7, 3, 2, 1, 0, 6, 5, 4, 12, 11, 10, 9, 17, 16, 15]⟩,
 ⟨(some 23), .faddr 2 (.t 1), (some (19, 22, true)), 8352, [19, 18, 14, 13, 8, 7, 3, 2, 1, 0, 6, 5, 4, 12, 11, 10, 9, 17, 16, 15]⟩,
 ⟨(some 24), .load false 1 (.t 23), (some (19, 22, true)), 8360, [20, 19, 18, 14, 13, 8, 7, 3, 2, 1, 0, 6, 5, 4, 12, 11, 10, 9, 17, 16, 15]⟩,
 ⟨(some 25), .faddr 3 (.t 1), (some (19, 22, true)), 8368, [19, 18, 14, 13, 8, 7, 3, 2, 1, 0, 6, 5, 4, 12, 11, 10, 9, 17, 16, 15]⟩,
 ⟨(some 26), .load false 1 (.t 25), (some (19, 22, true)), 8376, [22, 19, 18, 14, 13, 8, 7, 3, 2, 1, 0, 6, 5, 4, 12, 11, 10, 9, 17, 16, 15]⟩,
 ⟨(some 27), .bin .lss (.t 24) (.t 26), (some (19, 22, true)), 8384, [21, 20, 19, 18, 14, 13, 8, 7, 3, 2, 1, 0, 6, 5, 4, 12, 11, 10, 9, 17, 16, 15, 23, 22]⟩,
 ⟨(some 28), .pick (.t 22) (.t 27) (.c (.bool false)), none, 8392, [19, 18, 14, 13, 8, 7, 3, 2, 1, 0, 6, 5, 4, 12, 11, 10, 9, 17, 16, 15, 24, 21, 20, 23, 22]⟩,
 ⟨(some 29), .copy (.t 28), none, 8400, [25, 19, 18, 14, 13, 8, 7, 3, 2, 1, 0, 6, 5, 4, 12, 11, 10, 9, 17, 16, 15, 24, 21, 20, 23, 22]⟩,
 ⟨(some 30), .faddr 3 (.t 1), (some (26, 29, true)), 8408, [26, 25, 19, 18, 14, 13, 8, 7, 3, 2, 1, 0, 6, 5, 4, 12, 11, 10, 9, 17, 16, 15, 24, 21, 20, 23, 22]⟩,
 ⟨(some 31), .load false 1 (.t 30), (some (26, 29, true)), 8416, [27, 26, 25, 19, 18, 14, 13, 8, 7, 3, 2, 1, 0, 6, 5, 4, 12, 11, 10, 9, 17, 16, 15, 24, 21, 20, 23, 22]⟩,
 ⟨(some 32), .bin .leq (.t 31) (.c (.int .i64 60000)), (some (26, 29, true)), 8424, [28, 27, 26, 25, 19, 18, 14, 13, 8, 7, 3, 2, 1, 0, 6, 5, 4, 12, 11, 10, 9, 17, 16, 15, 24, 21, 20, 23, 22]⟩,
 ⟨(some 33), .pick (.t 29) (.t 32) (.c (.bool false)), none, 8432, [26, 25, 19, 18, 14, 13, 8, 7, 3, 2, 1, 0, 6, 5, 4, 12, 11, 10, 9, 17, 16, 15, 24, 21, 20, 23, 22, 29, 28, 27]⟩,
 ⟨(some 2), .copy (.t 33), none, 8440, [30, 26, 25, 19, 18, 14, 13, 8, 7, 3, 2, 1, 0, 6, 5, 4, 12, 11, 10, 9, 17, 16, 15, 24, 21, 20, 23, 22, 29, 28, 27]⟩])
 .ret))
theorem vf48 : VF Try.prog 48 = some (34, vc48, [.tmp 2]) := by kernel_rfl
/-- downspout/downspoutref32.Conflict -/
def vc54 : VCode :=
 (.seq
 (.region 0 false [
 ⟨(some 2), .box (.t 0), none, 0, []⟩,
 ⟨(some 3), .box (.t 1), none, 8, []⟩,
 ⟨(some 4), .copy (.c (.bool false)), none, 16, []⟩])
 (.seq
 (.region 1 false [
 ⟨(some 5), .faddr 0 (.t 2), none, 8192, []⟩,
 ⟨(some 6), .load false 1 (.t 5), none, 8200, [0]⟩,
 ⟨(some 7), .faddr 0 (.t 3), none, 8208, []⟩,
 ⟨(some 8), .load false 1 (.t 7), none, 8216, [2]⟩,
 ⟨(some 9), .bin .neq (.t 6) (.t 8), none, 8224, [1, 0, 3, 2]⟩,
 ⟨(some 10), .copy (.t 9), none, 8232, [4, 1, 0, 3, 2]⟩,
 ⟨(some 11), .faddr 1 (.t 2), (some (5, 10, true)), 8240, [5, 4, 1, 0, 3, 2]⟩,
 ⟨(some 12), .load false 1 (.t 11), (some (5, 10, true)), 8248, [6, 5, 4, 1, 0, 3, 2]⟩,
 ⟨(some 13), .faddr 1 (.t 3), (some (5, 10, true)), 8256, [5, 4, 1, 0, 3, 2]⟩,
 ⟨(some 14), .load false 1 (.t 13), (some (5, 10, true)), 8264, [8, 5, 4, 1, 0, 3, 2]⟩,
 ⟨(some 15), .bin .eql (.t 12) (.t 14), (some (5, 10, true)), 8272, [7, 6, 5, 4, 1, 0, 3, 2, 9, 8]⟩,
 ⟨(some 16), .pick (.t 10) (.t 15) (.c (.bool false)), none, 8280, [5, 4, 1, 0, 3, 2, 10, 7, 6, 9, 8]⟩,
 ⟨(some 17), .copy (.t 16), none, 8288, [11, 5, 4, 1, 0, 3, 2, 10, 7, 6, 9, 8]⟩,
 ⟨(some 18), .faddr 2 (.t 2), (some (12, 17, true)), 8296, [12, 11, 5, 4, 1, 0, 3, 2, 10, 7, 6, 9, 8]⟩,
 ⟨(some 19), .load false 1 (.t 18), (some (12, 17, true)), 8304, [13, 12, 11, 5, 4, 1, 0, 3, 2, 10, 7, 6, 9, 8]⟩,
 ⟨(some 20), .faddr 3 (.t 3), (some (12, 17, true)), 8312, [12, 11, 5, 4, 1, 0, 3, 2, 10, 7, 6, 9, 8]⟩,
 ⟨(some 21), .load false 1 (.t 20), (some (12, 17, true)), 8320, [15, 12, 11, 5, 4, 1, 0, 3, 2, 10, 7, 6, 9, 8]⟩,
 ⟨(some 22), .bin .lss (.t 19) (.t 21), (some (12, 17, true)), 8328, [14, 13, 12, 11, 5, 4, 1, 0, 3, 2, 10, 7, 6, 9, 8, 16, 15]⟩,
 ⟨(some 23), .pick (.t 17) (.t 22) (.c (.bool false)), none, 8336, [12, 11, 5, 4, 1, 0, 3, 2, 10, 7, 6, 9, 8, 17, 14, 13, 16, 15]⟩,
 ⟨(some 24), .copy (.t 23), none, 8344, [18, 12, 11, 5, 4, 1, 0, 3, 2, 10, 7, 6, 9, 8, 17, 14, 13, 16, 15]⟩,
 ⟨(some 25), .faddr 2 (.t 3), (some (19, 24, true)), 8352, [19, 18, 12, 11, 5, 4, 1, 0, 3, 2, 10, 7, 6, 9, 8, 17, 14, 13, 16, 15]⟩,
 ⟨(some 26), .load false 1 (.t 25), (some (19, 24, true)), 8360, [20, 19, 18, 12, 11, 5, 4, 1, 0, 3, 2, 10, 7, 6, 9, 8, 17, 14, 13, 16, 15]⟩,
 ⟨(some 27), .faddr 3 (.t 2), (some (19, 24, true)), 8368, [19, 18, 12, 11, 5, 4, 1, 0, 3, 2, 10, 7, 6, 9, 8, 17, 14, 13, 16, 15]⟩,
 ⟨(some 28), .load false 1 (.t 27), (some (19, 24, true)), 8376, [22, 19, 18, 12, 11, 5, 4, 1, 0, 3, 2, 10, 7, 6, 9, 8, 17, 14, 13, 16, 15]⟩,
 ⟨(some 29), .bin .lss (.t 26) (.t 28), (some (19, 24, true)), 8384, [21, 20, 19, 18, 12, 11, 5, 4, 1, 0, 3, 2, 10, 7, 6, 9, 8, 17, 14, 13, 16, 15, 23, 22]⟩,
 ⟨(some 30), .pick (.t 24) (.t 29) (.c (.bool false)), none, 8392, [19, 18, 12, 11, 5, 4, 1, 0, 3, 2, 10, 7, 6, 9, 8, 17, 14, 13, 16, 15, 24, 21, 20, 23, 22]⟩,
 ⟨(some 31), .copy (.t 30), none, 8400, [25, 19, 18, 12, 11, 5, 4, 1, 0, 3, 2, 10, 7, 6, 9, 8, 17, 14, 13, 16, 15, 24, 21, 20, 23, 22]⟩,
 ⟨(some 32), .faddr 4 (.t 2), (some (26, 31, true)), 8408, [26, 25, 19, 18, 12, 11, 5, 4, 1, 0, 3, 2, 10, 7, 6, 9, 8, 17, 14, 13, 16, 15, 24, 21, 20, 23, 22]⟩,
 ⟨(some 33), .load false 1 (.t 32), (some (26, 31, true)), 8416, [27, 26, 25, 19, 18, 12, 11, 5, 4, 1, 0, 3, 2, 10, 7, 6, 9, 8, 17, 14, 13, 16, 15, 24, 21, 20, 23, 22]⟩,
 ⟨(some 34), .copy (.t 33), (some (26, 31, true)), 8424, [28, 27, 26, 25, 19, 18, 12, 11, 5, 4, 1, 0, 3, 2, 10, 7, 6, 9, 8, 17, 14, 13, 16, 15, 24, 21, 20, 23, 22]⟩,
 ⟨(some 35), .faddr 4 (.t 3), (some (29, 34, true)), 8432, [29, 28, 27, 26, 25, 19, 18, 12, 11, 5, 4, 1, 0, 3, 2, 10, 7, 6, 9, 8, 17, 14, 13, 16, 15, 24, 21, 20, 23, 22]⟩,
 ⟨(some 36), .load false 1 (.t 35), (some (29, 34, true)), 8440, [30, 29, 28, 27, 26, 25, 19, 18, 12, 11, 5, 4, 1, 0, 3, 2, 10, 7, 6, 9, 8, 17, 14, 13, 16, 15, 24, 21, 20, 23, 22]⟩,
 ⟨(some 37), .pick (.t 34) (.t 36) (.c (.bool false)), (some (26, 31, true)), 8448, [29, 28, 27, 26, 25, 19, 18, 12, 11, 5, 4, 1, 0, 3, 2, 10, 7, 6, 9, 8, 17, 14, 13, 16, 15, 24, 21, 20, 23, 22, 31, 30]⟩,
 ⟨(some 38), .not (.t 37), (some (26, 31, true)), 8456, [32, 29, 28, 27, 26, 25, 19, 18, 12, 11, 5, 4, 1, 0, 3, 2, 10, 7, 6, 9, 8, 17, 14, 13, 16, 15, 24, 21, 20, 23, 22, 31, 30]⟩,
 ⟨(some 39), .pick (.t 31) (.t 38) (.c (.bool false)), none, 8464, [26, 25, 19, 18, 12, 11, 5, 4, 1, 0, 3, 2, 10, 7, 6, 9, 8, 17, 14, 13, 16, 15, 24, 21, 20, 23, 22, 33, 32, 29, 28, 27, 31, 30]⟩,
 ⟨(some 4), .copy (.t 39), none, 8472, [34, 26, 25, 19, 18, 12, 11, 5, 4, 1, 0, 3, 2, 10, 7, 6, 9, 8, 17, 14, 13, 16, 15, 24, 21, 20, 23, 22, 33, 32, 29, 28, 27, 31, 30]⟩])
 .ret))
theorem vf54 : VF Try.prog 54 = some (40, vc54, [.tmp 4]) := by kernel_rfl
/-- downspout/downspoutref32.Meets -/
def vc31 : VCode :=
 (.seq
 (.region 0 false [
 ⟨(some 3), .box (.t 1), none, 0, []⟩,
 ⟨(some 4), .copy (.c (.bool false)), none, 8, []⟩])
 (.seq
 (.seq
 (.region 1 false [
 ⟨(some 5), .copy (.c (.int .i64 0)), none, 8192, []⟩])
 (.block 0
 (.loop
 (.seq
 (.seq
 (.region 2 false [
 ⟨(some 6), .copy (.t 5), none, 16384, []⟩,
 ⟨(some 7), .copy (.t 0), none, 16392, []⟩,
 ⟨(some 8), .len (.t 7), none, 16400, [1]⟩,
 ⟨(some 9), .bin .lss (.t 6) (.t 8), none, 16408, [0, 2, 1]⟩])
 (.cond (.t 9)
 .skip
 (.exit 0)))
 (.seq
 (.block 1
 (.seq
 (.region 4 true [
 ⟨(some 12), .copy (.t 0), none, 32768, []⟩,
 ⟨(some 13), .copy (.t 5), none, 32776, []⟩,
 ⟨(some 14), .iaddr 5 (.t 12) (.t 13), none, 32784, [0, 1]⟩,
 ⟨(some 15), .load true 5 (.t 14), none, 32792, [2, 0, 1]⟩,
 ⟨(some 16), .load true 5 (.t 3), none, 32800, []⟩,
 ⟨(some 17), .call (.c (.fn 54 [])) [(.t 15), (.t 16)], none, 32808, [3, 2, 0, 1, 4]⟩])
 (.cond (.t 17)
 (.seq
 (.region 5 false [
 ⟨(some 4), .copy (.c (.bool true)), none, 40960, []⟩])
 .ret)
 .skip)))
 (.region 3 false [
 ⟨(some 10), .copy (.t 5), none, 24576, []⟩,
 ⟨(some 11), .bin .add (.t 10) (.c (.int .i64 1)), none, 24584, [0]⟩,
 ⟨(some 5), .copy (.t 11), none, 24592, [1, 0]⟩]))))))
 (.seq
 (.region 6 false [
 ⟨(some 4), .copy (.c (.bool false)), none, 49152, []⟩])
 .ret)))
theorem vf31 : VF Try.prog 31 = some (18, vc31, [.tmp 4]) := by kernel_rfl
/-- downspout/downspoutref32.copied -/
def vc47 : VCode :=
 (.seq
 (.region 0 false [
 ⟨(some 2), .copy (.c .nils), none, 0, []⟩])
 (.seq
 (.region 1 false [
 ⟨(some 3), .bslice 5 [(.int .i64 0), (.str []), (.int .i64 0), (.int .i64 0), (.bool false)] 0 [], none, 8192, []⟩,
 ⟨(some 4), .copy (.t 0), none, 8200, []⟩,
 ⟨(some 5), .append 5 48 [(.int .i64 0), (.str []), (.int .i64 0), (.int .i64 0), (.bool false)] (.t 3) (.t 4), none, 8208, [0, 1]⟩,
 ⟨(some 2), .copy (.t 5), none, 8216, [2, 0, 1]⟩])
 .ret))
theorem vf47 : VF Try.prog 47 = some (6, vc47, [.tmp 2]) := by kernel_rfl
/-- downspout/downspoutref32.Has -/
def vc41 : VCode :=
 (.seq
 (.region 0 false [
 ⟨(some 4), .copy (.c (.bool false)), none, 0, []⟩])
 (.seq
 (.seq
 (.region 1 false [
 ⟨(some 5), .copy (.c (.int .i64 0)), none, 8192, []⟩])
 (.block 0
 (.loop
 (.seq
 (.seq
 (.region 2 false [
 ⟨(some 6), .copy (.t 5), none, 16384, []⟩,
 ⟨(some 7), .copy (.t 0), none, 16392, []⟩,
 ⟨(some 8), .len (.t 7), none, 16400, [1]⟩,
 ⟨(some 9), .bin .lss (.t 6) (.t 8), none, 16408, [0, 2, 1]⟩])
 (.cond (.t 9)
 .skip
 (.exit 0)))
 (.seq
 (.block 1
 (.seq
 (.region 4 false [
 ⟨(some 12), .copy (.t 0), none, 32768, []⟩,
 ⟨(some 13), .copy (.t 5), none, 32776, []⟩,
 ⟨(some 14), .iaddr 1 (.t 12) (.t 13), none, 32784, [0, 1]⟩,
 ⟨(some 15), .load false 1 (.t 14), none, 32792, [2, 0, 1]⟩,
 ⟨(some 16), .copy (.t 1), none, 32800, []⟩,
 ⟨(some 17), .bin .eql (.t 15) (.t 16), none, 32808, [3, 2, 0, 1, 4]⟩])
 (.cond (.t 17)
 (.seq
 (.region 5 false [
 ⟨(some 4), .copy (.c (.bool true)), none, 40960, []⟩])
 .ret)
 .skip)))
 (.region 3 false [
 ⟨(some 10), .copy (.t 5), none, 24576, []⟩,
 ⟨(some 11), .bin .add (.t 10) (.c (.int .i64 1)), none, 24584, [0]⟩,
 ⟨(some 5), .copy (.t 11), none, 24592, [1, 0]⟩]))))))
 (.seq
 (.region 6 false [
 ⟨(some 4), .copy (.c (.bool false)), none, 49152, []⟩])
 .ret)))
theorem vf41 : VF Try.prog 41 = some (18, vc41, [.tmp 4]) := by kernel_rfl
/-- downspout/lock.right -/
def vc38 : VCode :=
 (.seq
 (.region 0 false [
 ⟨(some 1), .box (.t 0), none, 0, []⟩,
 ⟨(some 2), .copy (.c (.bool false)), none, 8, []⟩])
 (.seq
 (.region 1 false [
 ⟨(some 3), .faddr 0 (.t 1), none, 8192, []⟩,
 ⟨(some 4), .load false 1 (.t 3), none, 8200, [0]⟩,
 ⟨(some 5), .bin .geq (.t 4) (.c (.int .i64 0)), none, 8208, [1, 0]⟩,
 ⟨(some 6), .copy (.t 5), none, 8216, [2, 1, 0]⟩,
 ⟨(some 7), .faddr 0 (.t 1), (some (3, 6, true)), 8224, [3, 2, 1, 0]⟩,
 ⟨(some 8), .load false 1 (.t 7), (some (3, 6, true)), 8232, [4, 3, 2, 1, 0]⟩,
 ⟨(some 9), .bin .leq (.t 8) (.c (.int .i64 1000000000)), (some (3, 6, true)), 8240, [5, 4, 3, 2, 1, 0]⟩,
 ⟨(some 10), .pick (.t 6) (.t 9) (.c (.bool false)), none, 8248, [3, 2, 1, 0, 6, 5, 4]⟩,
 ⟨(some 11), .copy (.t 10), none, 8256, [7, 3, 2, 1, 0, 6, 5, 4]⟩,
 ⟨(some 12), .faddr 1 (.t 1), (some (8, 11, true)), 8264, [8, 7, 3, 2, 1, 0, 6, 5, 4]⟩,
 ⟨(some 13), .load false 1 (.t 12), (some (8, 11, true)), 8272, [9, 8, 7, 3, 2, 1, 0, 6, 5, 4]⟩,
 ⟨(some 14), .lenS (.t 13), (some (8, 11, true)), 8280, [10, 9, 8, 7, 3, 2, 1, 0, 6, 5, 4]⟩,
 ⟨(some 15), .bin .leq (.t 14) (.c (.int .i64 200)), (some (8, 11, true)), 8288, [11, 10, 9, 8, 7, 3, 2, 1, 0, 6, 5, 4]⟩,
 ⟨(some 16), .pick (.t 11) (.t 15) (.c (.bool false)), none, 8296, [8, 7, 3, 2, 1, 0, 6, 5, 4, 12, 11, 10, 9]⟩,
 ⟨(some 17), .copy (.t 16), none, 8304, [13, 8, 7, 3, 2, 1, 0, 6, 5, 4, 12, 11, 10, 9]⟩,
 ⟨(some 18), .faddr 2 (.t 1), (some (14, 17, true)), 8312, [14, 13, 8, 7, 3, 2, 1, 0, 6, 5, 4, 12, 11, 10, 9]⟩,
 ⟨(some 19), .load false 1 (.t 18), (some (14, 17, true)), 8320, [15, 14, 13, 8, 7, 3, 2, 1, 0, 6, 5, 4, 12, 11, 10, 9]⟩,
 ⟨(some 20), .bin .leq (.c (.int .i64 0)) (.t 19), (some (14, 17, true)), 8328, [16, 15, 14, 13, 8, 7, 3, 2, 1, 0, 6, 5, 4, 12, 11, 10, 9]⟩,
 ⟨(some 21), .pick (.t 17) (.t 20) (.c (.bool false)), none, 8336, [14, 13, 8, 7, 3, 2, 1, 0, 6, 5, 4, 12, 11, 10, 9, 17, 16, 15]⟩,
 ⟨(some 22), .copy (.t 21), none, 8344, [18, 14, 13, 8, 7, 3, 2, 1, 0, 6, 5, 4, 12, 11, 10, 9, 17, 16, 15]⟩,
 ⟨(some 23), .faddr 2 (.t 1), (some (19, 22, true)), 8352, [19, 18, 14, 13, 8, 7, 3, 2, 1, 0, 6, 5, 4, 12, 11, 10, 9, 17, 16, 15]⟩,
 ⟨(some 24), .load false 1 (.t 23), (some (19, 22, true)), 8360, [20, 19, 18, 14, 13, 8, 7, 3, 2, 1, 0, 6, 5, 4, 12, 11, 10, 9, 17, 16, 15]⟩,
 ⟨(some 25), .faddr 3 (.t 1), (some (19, 22, true)), 8368, [19, 18, 14, 13, 8, 7, 3, 2, 1, 0, 6, 5, 4, 12, 11, 10, 9, 17, 16, 15]⟩,
 ⟨(some 26), .load false 1 (.t 25), (some (19, 22, true)), 8376, [22, 19, 18, 14, 13, 8, 7, 3, 2, 1, 0, 6, 5, 4, 12, 11, 10, 9, 17, 16, 15]⟩,
 ⟨(some 27), .bin .lss (.t 24) (.t 26), (some (19, 22, true)), 8384, [21, 20, 19, 18, 14, 13, 8, 7, 3, 2, 1, 0, 6, 5, 4, 12, 11, 10, 9, 17, 16, 15, 23, 22]⟩,
 ⟨(some 28), .pick (.t 22) (.t 27) (.c (.bool false)), none, 8392, [19, 18, 14, 13, 8, 7, 3, 2, 1, 0, 6, 5, 4, 12, 11, 10, 9, 17, 16, 15, 24, 21, 20, 23, 22]⟩,
 ⟨(some 29), .copy (.t 28), none, 8400, [25, 19, 18, 14, 13, 8, 7, 3, 2, 1, 0, 6, 5, 4, 12, 11, 10, 9, 17, 16, 15, 24, 21, 20, 23, 22]⟩,
 ⟨(some 30), .faddr 3 (.t 1), (some (26, 29, true)), 8408, [26, 25, 19, 18, 14, 13, 8, 7, 3, 2, 1, 0, 6, 5, 4, 12, 11, 10, 9, 17, 16, 15, 24, 21, 20, 23, 22]⟩,
 ⟨(some 31), .load false 1 (.t 30), (some (26, 29, true)), 8416, [27, 26, 25, 19, 18, 14, 13, 8, 7, 3, 2, 1, 0, 6, 5, 4, 12, 11, 10, 9, 17, 16, 15, 24, 21, 20, 23, 22]⟩,
 ⟨(some 32), .bin .leq (.t 31) (.c (.int .i64 60000)), (some (26, 29, true)), 8424, [28, 27, 26, 25, 19, 18, 14, 13, 8, 7, 3, 2, 1, 0, 6, 5, 4, 12, 11, 10, 9, 17, 16, 15, 24, 21, 20, 23, 22]⟩,
 ⟨(some 33), .pick (.t 29) (.t 32) (.c (.bool false)), none, 8432, [26, 25, 19, 18, 14, 13, 8, 7, 3, 2, 1, 0, 6, 5, 4, 12, 11, 10, 9, 17, 16, 15, 24, 21, 20, 23, 22, 29, 28, 27]⟩,
 ⟨(some 2), .copy (.t 33), none, 8440, [30, 26, 25, 19, 18, 14, 13, 8, 7, 3, 2, 1, 0, 6, 5, 4, 12, 11, 10, 9, 17, 16, 15, 24, 21, 20, 23, 22, 29, 28, 27]⟩])
 .ret))
theorem vf38 : VF Try.prog 38 = some (34, vc38, [.tmp 2]) := by kernel_rfl
/-- downspout/lock.conflict -/
def vc59 : VCode :=
 (.seq
 (.region 0 false [
 ⟨(some 2), .box (.t 0), none, 0, []⟩,
 ⟨(some 3), .box (.t 1), none, 8, []⟩,
 ⟨(some 4), .copy (.c (.bool false)), none, 16, []⟩])
 (.seq
 (.region 1 false [
 ⟨(some 5), .faddr 0 (.t 2), none, 8192, []⟩,
 ⟨(some 6), .load false 1 (.t 5), none, 8200, [0]⟩,
 ⟨(some 7), .faddr 0 (.t 3), none, 8208, []⟩,
 ⟨(some 8), .load false 1 (.t 7), none, 8216, [2]⟩,
 ⟨(some 9), .bin .neq (.t 6) (.t 8), none, 8224, [1, 0, 3, 2]⟩,
 ⟨(some 10), .copy (.t 9), none, 8232, [4, 1, 0, 3, 2]⟩,
 ⟨(some 11), .faddr 1 (.t 2), (some (5, 10, true)), 8240, [5, 4, 1, 0, 3, 2]⟩,
 ⟨(some 12), .load false 1 (.t 11), (some (5, 10, true)), 8248, [6, 5, 4, 1, 0, 3, 2]⟩,
 ⟨(some 13), .faddr 1 (.t 3), (some (5, 10, true)), 8256, [5, 4, 1, 0, 3, 2]⟩,
 ⟨(some 14), .load false 1 (.t 13), (some (5, 10, true)), 8264, [8, 5, 4, 1, 0, 3, 2]⟩,
 ⟨(some 15), .bin .eql (.t 12) (.t 14), (some (5, 10, true)), 8272, [7, 6, 5, 4, 1, 0, 3, 2, 9, 8]⟩,
 ⟨(some 16), .pick (.t 10) (.t 15) (.c (.bool false)), none, 8280, [5, 4, 1, 0, 3, 2, 10, 7, 6, 9, 8]⟩,
 ⟨(some 17), .copy (.t 16), none, 8288, [11, 5, 4, 1, 0, 3, 2, 10, 7, 6, 9, 8]⟩,
 ⟨(some 18), .faddr 2 (.t 2), (some (12, 17, true)), 8296, [12, 11, 5, 4, 1, 0, 3, 2, 10, 7, 6, 9, 8]⟩,
 ⟨(some 19), .load false 1 (.t 18), (some (12, 17, true)), 8304, [13, 12, 11, 5, 4, 1, 0, 3, 2, 10, 7, 6, 9, 8]⟩,
 ⟨(some 20), .faddr 2 (.t 3), (some (12, 17, true)), 8312, [12, 11, 5, 4, 1, 0, 3, 2, 10, 7, 6, 9, 8]⟩,
 ⟨(some 21), .load false 1 (.t 20), (some (12, 17, true)), 8320, [15, 12, 11, 5, 4, 1, 0, 3, 2, 10, 7, 6, 9, 8]⟩,
 ⟨(some 22), .minmax true (.t 19) (.t 21), (some (12, 17, true)), 8328, [14, 13, 12, 11, 5, 4, 1, 0, 3, 2, 10, 7, 6, 9, 8, 16, 15]⟩,
 ⟨(some 23), .faddr 3 (.t 2), (some (12, 17, true)), 8336, [12, 11, 5, 4, 1, 0, 3, 2, 10, 7, 6, 9, 8]⟩,
 ⟨(some 24), .load false 1 (.t 23), (some (12, 17, true)), 8344, [18, 12, 11, 5, 4, 1, 0, 3, 2, 10, 7, 6, 9, 8]⟩,
 ⟨(some 25), .faddr 3 (.t 3), (some (12, 17, true)), 8352, [12, 11, 5, 4, 1, 0, 3, 2, 10, 7, 6, 9, 8]⟩,
 ⟨(some 26), .load false 1 (.t 25), (some (12, 17, true)), 8360, [20, 12, 11, 5, 4, 1, 0, 3, 2, 10, 7, 6, 9, 8]⟩,
 ⟨(some 27), .minmax false (.t 24) (.t 26), (some (12, 17, true)), 8368, [19, 18, 12, 11, 5, 4, 1, 0, 3, 2, 10, 7, 6, 9, 8, 21, 20]⟩,
 ⟨(some 28), .bin .lss (.t 22) (.t 27), (some (12, 17, true)), 8376, [17, 14, 13, 12, 11, 5, 4, 1, 0, 3, 2, 10, 7, 6, 9, 8, 16, 15, 22, 19, 18, 21, 20]⟩,
 ⟨(some 29), .pick (.t 17) (.t 28) (.c (.bool false)), none, 8384, [12, 11, 5, 4, 1, 0, 3, 2, 10, 7, 6, 9, 8, 23, 17, 14, 13, 16, 15, 22, 19, 18, 21, 20]⟩,
 ⟨(some 30), .copy (.t 29), none, 8392, [24, 12, 11, 5, 4, 1, 0, 3, 2, 10, 7, 6, 9, 8, 23, 17, 14, 13, 16, 15, 22, 19, 18, 21, 20]⟩,
 ⟨(some 31), .faddr 4 (.t 2), (some (25, 30, true)), 8400, [25, 24, 12, 11, 5, 4, 1, 0, 3, 2, 10, 7, 6, 9, 8, 23, 17, 14, 13, 16, 15, 22, 19, 18, 21, 20]⟩,
 ⟨(some 32), .load false 1 (.t 31), (some (25, 30, true)), 8408, [26, 25, 24, 12, 11, 5, 4, 1, 0, 3, 2, 10, 7, 6, 9, 8, 23, 17, 14, 13, 16, 15, 22, 19, 18, 21, 20]⟩,
 ⟨(some 33), .copy (.t 32), (some (25, 30, true)), 8416, [27, 26, 25, 24, 12, 11, 5, 4, 1, 0, 3, 2, 10, 7, 6, 9, 8, 23, 17, 14, 13, 16, 15, 22, 19, 18, 21, 20]⟩,
 ⟨(some 34), .faddr 4 (.t 3), (some (28, 33, true)), 8424, [28, 27, 26, 25, 24, 12, 11, 5, 4, 1, 0, 3, 2, 10, 7, 6, 9, 8, 23, 17, 14, 13, 16, 15, 22, 19, 18, 21, 20]⟩,
 ⟨(some 35), .load false 1 (.t 34), (some (28, 33, true)), 8432, [29, 28, 27, 26, 25, 24, 12, 11, 5, 4, 1, 0, 3, 2, 10, 7, 6, 9, 8, 23, 17, 14, 13, 16, 15, 22, 19, 18, 21, 20]⟩,
 ⟨(some 36), .pick (.t 33) (.t 35) (.c (.bool false)), (some (25, 30, true)), 8440, [28, 27, 26, 25, 24, 12, 11, 5, 4, 1, 0, 3, 2, 10, 7, 6, 9, 8, 23, 17, 14, 13, 16, 15, 22, 19, 18, 21, 20, 30, 29]⟩,
 ⟨(some 37), .not (.t 36), (some (25, 30, true)), 8448, [31, 28, 27, 26, 25, 24, 12, 11, 5, 4, 1, 0, 3, 2, 10, 7, 6, 9, 8, 23, 17, 14, 13, 16, 15, 22, 19, 18, 21, 20, 30, 29]⟩,
 ⟨(some 38), .pick (.t 30) (.t 37) (.c (.bool false)), none, 8456, [25, 24, 12, 11, 5, 4, 1, 0, 3, 2, 10, 7, 6, 9, 8, 23, 17, 14, 13, 16, 15, 22, 19, 18, 21, 20, 32, 31, 28, 27, 26, 30, 29]⟩,
 ⟨(some 4), .copy (.t 38), none, 8464, [33, 25, 24, 12, 11, 5, 4, 1, 0, 3, 2, 10, 7, 6, 9, 8, 23, 17, 14, 13, 16, 15, 22, 19, 18, 21, 20, 32, 31, 28, 27, 26, 30, 29]⟩])
 .ret))
theorem vf59 : VF Try.prog 59 = some (39, vc59, [.tmp 4]) := by kernel_rfl
abbrev encL (x : LockL) : List PV := [.int .i64 x.own, .str x.path, .int .i64 x.lo, .int .i64 x.hi, .bool x.sh]
abbrev encI (n : Int) : List PV := [.int .i64 n]
theorem okL (l : List LockL) : okEls 5 (l.map encL) := okEls.map fun a => by simp [closed]
theorem drop_get {α : Type} {l : List α} {i : Nat} {x : α} (h : l[i]? = some x) : l.drop i = x :: l.drop (i + 1) := by
  obtain ⟨h1, h2⟩ := List.getElem?_eq_some_iff.1 h
  rw [List.drop_eq_getElem_cons h1, h2]
theorem rright_vc (x : LockL) : VC Try.prog 48 [.agg (encL x)] [] (.bool (rightL x)) [] := by
  refine vc_of vf48 ?_ (Nat.le_of_ble_eq_true rfl) (by intro vs h; cases h)
  repeat' first | refine o_copy ?_ | refine nl ?_ | refine ct_seq ?_ | refine rg ?_ | refine ct_block ?_ | refine bq ?_ | refine ct_skip ?_ | refine ct_exit ?_ | refine rt_next ?_ | refine cndt ?_ | refine cndf ?_ | refine o_copy ?_ | refine o_loads ?_ | refine o_loadp ?_ | refine o_faddr ?_ | refine o_bin ?_ | refine o_box ?_ | refine o_pickt ?_ | refine o_pickf ?_ | refine o_lenS ?_ | refine skF ?_ | refine skU ?_ | refine ct_ret ⟨.inr rfl, ?_⟩ | refine cnd (fun _ => ?_) (fun _ => ?_) | (refine glook (fun _ => ?_) (fun _ => ?_) <;> first | refine o_copy ?_ | refine o_loads ?_ | refine o_loadp ?_ | refine o_faddr ?_ | refine o_bin ?_ | refine o_box ?_ | refine o_pickt ?_ | refine o_pickf ?_ | refine o_lenS ?_ | refine skF ?_ | refine skU ?_)
  all_goals refine oB ?_
  all_goals simp_all [rightL]
  all_goals omega
theorem right_vc (x : LockL) : VC Try.prog 38 [.agg (encL x)] [] (.bool (rightL x)) [] := by
  refine vc_of vf38 ?_ (Nat.le_of_ble_eq_true rfl) (by intro vs h; cases h)
  repeat' first | refine o_copy ?_ | refine nl ?_ | refine ct_seq ?_ | refine rg ?_ | refine ct_block ?_ | refine bq ?_ | refine ct_skip ?_ | refine ct_exit ?_ | refine rt_next ?_ | refine cndt ?_ | refine cndf ?_ | refine o_copy ?_ | refine o_loads ?_ | refine o_loadp ?_ | refine o_faddr ?_ | refine o_bin ?_ | refine o_box ?_ | refine o_pickt ?_ | refine o_pickf ?_ | refine o_lenS ?_ | refine skF ?_ | refine skU ?_ | refine ct_ret ⟨.inr rfl, ?_⟩ | refine cnd (fun _ => ?_) (fun _ => ?_) | (refine glook (fun _ => ?_) (fun _ => ?_) <;> first | refine o_copy ?_ | refine o_loads ?_ | refine o_loadp ?_ | refine o_faddr ?_ | refine o_bin ?_ | refine o_box ?_ | refine o_pickt ?_ | refine o_pickf ?_ | refine o_lenS ?_ | refine skF ?_ | refine skU ?_)
  all_goals refine oB ?_
  all_goals simp_all [rightL]
  all_goals omega
theorem rconf_vc (a b : LockL) : VC Try.prog 54 [.agg (encL a), .agg (encL b)] [] (.bool (rconfL a b)) [] := by
  refine vc_of vf54 ?_ (Nat.le_of_ble_eq_true rfl) (by intro vs h; cases h)
  repeat' first | refine o_copy ?_ | refine nl ?_ | refine ct_seq ?_ | refine rg ?_ | refine ct_block ?_ | refine bq ?_ | refine ct_skip ?_ | refine ct_exit ?_ | refine rt_next ?_ | refine cndt ?_ | refine cndf ?_ | refine o_copy ?_ | refine o_loads ?_ | refine o_loadp ?_ | refine o_faddr ?_ | refine o_bin ?_ | refine o_box ?_ | refine o_not ?_ | refine o_pickt ?_ | refine o_pickf ?_ | refine skF ?_ | refine skU ?_ | refine ct_ret ⟨.inr rfl, ?_⟩ | refine cnd (fun _ => ?_) (fun _ => ?_) | (refine glook (fun _ => ?_) (fun _ => ?_) <;> first | refine o_copy ?_ | refine o_loads ?_ | refine o_loadp ?_ | refine o_faddr ?_ | refine o_bin ?_ | refine o_box ?_ | refine o_not ?_ | refine o_pickt ?_ | refine o_pickf ?_ | refine skF ?_ | refine skU ?_)
  all_goals refine oB ?_
  all_goals simp_all [rconfL]
  all_goals omega
theorem conf_vc (a b : LockL) : VC Try.prog 59 [.agg (encL a), .agg (encL b)] [] (.bool (confL a b)) [] := by
  have e1 : (if a.lo < b.lo then b.lo else a.lo) = max a.lo b.lo := by split <;> omega
  have e2 : (if b.hi < a.hi then b.hi else a.hi) = min a.hi b.hi := by split <;> omega
  refine vc_of vf59 ?_ (Nat.le_of_ble_eq_true rfl) (by intro vs h; cases h)
  repeat' first | refine o_copy ?_ | refine nl ?_ | refine ct_seq ?_ | refine rg ?_ | refine ct_block ?_ | refine bq ?_ | refine ct_skip ?_ | refine ct_exit ?_ | refine rt_next ?_ | refine cndt ?_ | refine cndf ?_ | refine o_copy ?_ | refine o_loads ?_ | refine o_loadp ?_ | refine o_faddr ?_ | refine o_bin ?_ | refine o_box ?_ | refine o_not ?_ | refine o_pickt ?_ | refine o_pickf ?_ | refine o_minmax ?_ | refine skF ?_ | refine skU ?_ | refine ct_ret ⟨.inr rfl, ?_⟩ | refine cnd (fun _ => ?_) (fun _ => ?_) | (refine glook (fun _ => ?_) (fun _ => ?_) <;> first | refine o_copy ?_ | refine o_loads ?_ | refine o_loadp ?_ | refine o_faddr ?_ | refine o_bin ?_ | refine o_box ?_ | refine o_not ?_ | refine o_pickt ?_ | refine o_pickf ?_ | refine o_minmax ?_ | refine skF ?_ | refine skU ?_)
  all_goals refine oB ?_
  all_goals simp_all [confL]
  all_goals omega
theorem rmeets_vc {l : List LockL} (hl : l.length ≤ 60000) (x : LockL) : VC Try.prog 31 [.sh false (l.map encL), .agg (encL x)] [] (.bool (rmeetsL l x)) [] := by
  refine vc_of vf31 ?_ (Nat.le_of_ble_eq_true rfl) (by intro vs h; cases h)
  repeat first | refine o_copy ?_ | refine nl ?_ | refine ct_seq ?_ | refine rg ?_ | refine ct_block ?_ | refine bq ?_ | refine o_iaddr ?_ | refine o_iaddrO ?_ | refine o_iaddrR ?_ | refine o_add ?_ | refine o_cat ?_ | refine o_bin ?_ | refine o_lenq ?_ | refine o_len ?_ | refine o_loadsA ?_ | refine o_loadpA ?_ | refine o_box ?_
  refine ct_loopG (fun (g : Nat) => [(0, .sh false (l.map encL)), (3, .ptr ⟨1, 0⟩ 1 0 0), (5, .int .i64 g)]) (fun g => [(⟨1, 0⟩, ⟨true, false, 5, [encL x]⟩)]) (fun g => l.length - g)
    (fun g => g ≤ l.length ∧ rmeetsL (l.take g) x = false) 0 goes ⟨Nat.zero_le _, rfl⟩ ?_
  rintro i ⟨hi, hv⟩
  repeat first | refine o_copy ?_ | refine nl ?_ | refine ct_seq ?_ | refine rg ?_ | refine ct_block ?_ | refine bq ?_ | refine o_iaddr ?_ | refine o_iaddrO ?_ | refine o_iaddrR ?_ | refine o_add ?_ | refine o_cat ?_ | refine o_bin ?_ | refine o_lenq ?_ | refine o_len ?_ | refine o_loadsA ?_ | refine o_loadpA ?_ | refine o_box ?_
  refine cnd (fun h => ct_skip ?_) (fun h => ct_exit ?_)
  · have hlt : i < l.length := by have h' := of_decide_eq_true h; simp only [List.length_map] at h'; omega
    obtain ⟨y, hy⟩ : ∃ y, l[i]? = some y := ⟨_, List.getElem?_eq_getElem hlt⟩
    have hxe := gm (enc := encL) (n := (i : Int)) hy (by omega)
    repeat first | refine o_copy ?_ | refine nl ?_ | refine ct_seq ?_ | refine rg ?_ | refine ct_block ?_ | refine bq ?_ | refine cv0 (rconf_vc y x) ?_ | refine o_iaddr ?_ | refine o_iaddrO ?_ | refine o_iaddrR ?_ | refine o_add ?_ | refine o_cat ?_ | refine o_bin ?_ | refine o_lenq ?_ | refine o_len ?_ | refine o_loadsA ?_ | refine o_loadpA ?_ | refine o_box ?_
    have hls : l = l.take i ++ y :: l.drop (i + 1) := by rw [← drop_get hy, List.take_append_drop]
    refine cnd (fun h2 => ?_) (fun h2 => ct_skip ?_)
    · repeat first | refine o_copy ?_ | refine nl ?_ | refine ct_seq ?_ | refine rg ?_ | refine ct_block ?_ | refine bq ?_ | refine o_iaddr ?_ | refine o_iaddrO ?_ | refine o_iaddrR ?_ | refine o_add ?_ | refine o_cat ?_ | refine o_bin ?_ | refine o_lenq ?_ | refine o_len ?_ | refine o_loadsA ?_ | refine o_loadpA ?_ | refine o_box ?_
      refine ct_ret ⟨.inr rfl, oB ?_⟩
      rw [hls]
      simp [rmeetsL, h2]
    · repeat first | refine o_copy ?_ | refine nl ?_ | refine ct_seq ?_ | refine rg ?_ | refine ct_block ?_ | refine bq ?_ | refine o_iaddr ?_ | refine o_iaddrO ?_ | refine o_iaddrR ?_ | refine o_add ?_ | refine o_cat ?_ | refine o_bin ?_ | refine o_lenq ?_ | refine o_len ?_ | refine o_loadsA ?_ | refine o_loadpA ?_ | refine o_box ?_
      refine agn (i + 1) ⟨by omega, ?_⟩ goes
      rw [List.take_add_one, hy]
      simp only [rmeetsL, Option.toList, List.any_append, List.any_cons, List.any_nil, h2, Bool.or_false] at hv ⊢
      exact hv
  · have hge : i = l.length := by have h' := of_decide_eq_false h; simp only [List.length_map] at h'; omega
    subst hge
    rw [List.take_length] at hv
    repeat first | refine o_copy ?_ | refine nl ?_ | refine ct_seq ?_ | refine rg ?_ | refine ct_block ?_ | refine bq ?_ | refine o_iaddr ?_ | refine o_iaddrO ?_ | refine o_iaddrR ?_ | refine o_add ?_ | refine o_cat ?_ | refine o_bin ?_ | refine o_lenq ?_ | refine o_len ?_ | refine o_loadsA ?_ | refine o_loadpA ?_ | refine o_box ?_
    exact ct_ret ⟨.inr rfl, oB hv.symm⟩
theorem copied_vc {l : List LockL} (hl : l.length ≤ 60000) : VC Try.prog 47 [.sh false (l.map encL)] [] (ownV ⟨0, 0⟩ (l.map encL)) [blkV 5 (l.map encL)] := by
  refine vc_of vf47 ?_ (Nat.le_of_ble_eq_true rfl) (by intro vs h; cases h)
  repeat first | refine o_copy ?_ | refine nl ?_ | refine ct_seq ?_ | refine rg ?_ | refine ct_block ?_ | refine bq ?_ | refine o_v (vaps encL [] l) ?_ | refine o_bslice ?_
  exact ct_ret ⟨.inr rfl, oOwn rfl⟩
theorem has_vc {l : List Int} (hl : l.length ≤ 60000000) (x : Int) : VC Try.prog 41 [.sh false (l.map encI), .int .i64 x] [] (.bool (l.contains x)) [] := by
  refine vc_of vf41 ?_ (Nat.le_of_ble_eq_true rfl) (by intro vs h; cases h)
  repeat first | refine o_copy ?_ | refine nl ?_ | refine ct_seq ?_ | refine rg ?_ | refine ct_block ?_ | refine bq ?_ | refine o_loads ?_ | refine o_loadp ?_ | refine o_iaddr ?_ | refine o_iaddrO ?_ | refine o_iaddrR ?_ | refine o_add ?_ | refine o_cat ?_ | refine o_bin ?_ | refine o_lenq ?_ | refine o_len ?_
  refine ct_loopG (fun (g : Nat) => [(0, .sh false (l.map encI)), (1, .int .i64 x), (5, .int .i64 g)]) (fun g => []) (fun g => l.length - g)
    (fun g => g ≤ l.length ∧ (l.take g).contains x = false) 0 goes ⟨Nat.zero_le _, rfl⟩ ?_
  rintro i ⟨hi, hv⟩
  repeat first | refine o_copy ?_ | refine nl ?_ | refine ct_seq ?_ | refine rg ?_ | refine ct_block ?_ | refine bq ?_ | refine o_loads ?_ | refine o_loadp ?_ | refine o_iaddr ?_ | refine o_iaddrO ?_ | refine o_iaddrR ?_ | refine o_add ?_ | refine o_cat ?_ | refine o_bin ?_ | refine o_lenq ?_ | refine o_len ?_
  refine cnd (fun h => ct_skip ?_) (fun h => ct_exit ?_)
  · have hlt : i < l.length := by have h' := of_decide_eq_true h; simp only [List.length_map] at h'; omega
    obtain ⟨y, hy⟩ : ∃ y, l[i]? = some y := ⟨_, List.getElem?_eq_getElem hlt⟩
    have hxe := gm (enc := encI) (n := (i : Int)) hy (by omega)
    repeat first | refine o_copy ?_ | refine nl ?_ | refine ct_seq ?_ | refine rg ?_ | refine ct_block ?_ | refine bq ?_ | refine o_loads ?_ | refine o_loadp ?_ | refine o_iaddr ?_ | refine o_iaddrO ?_ | refine o_iaddrR ?_ | refine o_add ?_ | refine o_cat ?_ | refine o_bin ?_ | refine o_lenq ?_ | refine o_len ?_
    have hls : l = l.take i ++ y :: l.drop (i + 1) := by rw [← drop_get hy, List.take_append_drop]
    refine cnd (fun h2 => ?_) (fun h2 => ct_skip ?_)
    · repeat first | refine o_copy ?_ | refine nl ?_ | refine ct_seq ?_ | refine rg ?_ | refine ct_block ?_ | refine bq ?_ | refine o_loads ?_ | refine o_loadp ?_ | refine o_iaddr ?_ | refine o_iaddrO ?_ | refine o_iaddrR ?_ | refine o_add ?_ | refine o_cat ?_ | refine o_bin ?_ | refine o_lenq ?_ | refine o_len ?_
      refine ct_ret ⟨.inr rfl, oB ?_⟩
      have h2 : y = x := by simpa using h2
      rw [hls]
      simp [h2]
    · repeat first | refine o_copy ?_ | refine nl ?_ | refine ct_seq ?_ | refine rg ?_ | refine ct_block ?_ | refine bq ?_ | refine o_loads ?_ | refine o_loadp ?_ | refine o_iaddr ?_ | refine o_iaddrO ?_ | refine o_iaddrR ?_ | refine o_add ?_ | refine o_cat ?_ | refine o_bin ?_ | refine o_lenq ?_ | refine o_len ?_
      refine agn (i + 1) ⟨by omega, ?_⟩ goes
      have h2 : ¬ y = x := by simpa using h2
      rw [List.take_add_one, hy]
      simp only [Option.toList, List.contains_append, hv, Bool.false_or]
      simp
      exact fun e => h2 e.symm
  · have hge : i = l.length := by have h' := of_decide_eq_false h; simp only [List.length_map] at h'; omega
    subst hge
    rw [List.take_length] at hv
    repeat first | refine o_copy ?_ | refine nl ?_ | refine ct_seq ?_ | refine rg ?_ | refine ct_block ?_ | refine bq ?_ | refine o_loads ?_ | refine o_loadp ?_ | refine o_iaddr ?_ | refine o_iaddrO ?_ | refine o_iaddrR ?_ | refine o_add ?_ | refine o_cat ?_ | refine o_bin ?_ | refine o_lenq ?_ | refine o_len ?_
    exact ct_ret ⟨.inr rfl, oB hv.symm⟩
end Go.Proofs
open Go.V Go.Pu
set_option linter.unusedVariables false
set_option linter.unusedSimpArgs false
set_option maxRecDepth 20000
namespace Go.Proofs
/-- downspout/downspoutref32.SameLocks -/
def vc17 : VCode :=
 (.seq
 (.region 0 false [
 ⟨(some 4), .copy (.c (.bool false)), none, 0, []⟩])
 (.seq
 (.seq
 (.region 1 false [
 ⟨(some 6), .copy (.t 0), none, 8192, []⟩,
 ⟨(some 7), .len (.t 6), none, 8200, [0]⟩,
 ⟨(some 8), .copy (.t 1), none, 8208, []⟩,
 ⟨(some 9), .len (.t 8), none, 8216, [2]⟩,
 ⟨(some 10), .bin .neq (.t 7) (.t 9), none, 8224, [1, 0, 3, 2]⟩])
 (.cond (.t 10)
 (.seq
 (.region 2 false [
 ⟨(some 4), .copy (.c (.bool false)), none, 16384, []⟩])
 .ret)
 .skip))
 (.seq
 (.seq
 (.region 3 false [
 ⟨(some 5), .copy (.c (.int .i64 0)), none, 24576, []⟩])
 (.block 0
 (.loop
 (.seq
 (.seq
 (.region 4 false [
 ⟨(some 11), .copy (.t 5), none, 32768, []⟩,
 ⟨(some 12), .copy (.t 0), none, 32776, []⟩,
 ⟨(some 13), .len (.t 12), none, 32784, [1]⟩,
 ⟨(some 14), .bin .lss (.t 11) (.t 13), none, 32792, [0, 2, 1]⟩])
 (.cond (.t 14)
 .skip
 (.exit 0)))
 (.seq
 (.block 1
 (.seq
 (.region 6 true [
 ⟨(some 17), .copy (.t 0), none, 49152, []⟩,
 ⟨(some 18), .copy (.t 5), none, 49160, []⟩,
 ⟨(some 19), .iaddr 5 (.t 17) (.t 18), none, 49168, [0, 1]⟩,
 ⟨(some 20), .load true 5 (.t 19), none, 49176, [2, 0, 1]⟩,
 ⟨(some 21), .copy (.t 1), none, 49184, []⟩,
 ⟨(some 22), .copy (.t 5), none, 49192, []⟩,
 ⟨(some 23), .iaddr 5 (.t 21) (.t 22), none, 49200, [4, 5]⟩,
 ⟨(some 24), .load true 5 (.t 23), none, 49208, [6, 4, 5]⟩,
 ⟨(some 25), .eqc true [1, 2, 1, 1, 0] (.t 20) (.t 24), none, 49216, [3, 2, 0, 1, 7, 6, 4, 5]⟩])
 (.cond (.t 25)
 (.seq
 (.region 7 false [
 ⟨(some 4), .copy (.c (.bool false)), none, 57344, []⟩])
 .ret)
 .skip)))
 (.region 5 false [
 ⟨(some 15), .copy (.t 5), none, 40960, []⟩,
 ⟨(some 16), .bin .add (.t 15) (.c (.int .i64 1)), none, 40968, [0]⟩,
 ⟨(some 5), .copy (.t 16), none, 40976, [1, 0]⟩]))))))
 (.seq
 (.region 8 false [
 ⟨(some 4), .copy (.c (.bool true)), none, 65536, []⟩])
 .ret))))
theorem vf17 : VF Try.prog 17 = some (26, vc17, [.tmp 4]) := by kernel_rfl
/-- downspout/downspoutref32.Same -/
def vc19 : VCode :=
 (.seq
 (.region 0 false [
 ⟨(some 2), .box (.t 0), none, 0, []⟩,
 ⟨(some 3), .box (.t 1), none, 8, []⟩,
 ⟨(some 4), .copy (.c (.bool false)), none, 16, []⟩])
 (.seq
 (.region 1 false [
 ⟨(some 5), .faddr 0 (.t 2), none, 8192, []⟩,
 ⟨(some 6), .load false 1 (.t 5), none, 8200, [0]⟩,
 ⟨(some 7), .faddr 0 (.t 3), none, 8208, []⟩,
 ⟨(some 8), .load false 1 (.t 7), none, 8216, [2]⟩,
 ⟨(some 9), .call (.c (.fn 17 [])) [(.t 6), (.t 8)], none, 8224, [1, 0, 3, 2]⟩,
 ⟨(some 10), .copy (.t 9), none, 8232, [4, 1, 0, 3, 2]⟩,
 ⟨(some 11), .faddr 1 (.t 2), (some (5, 10, true)), 8240, [5, 4, 1, 0, 3, 2]⟩,
 ⟨(some 12), .load false 1 (.t 11), (some (5, 10, true)), 8248, [6, 5, 4, 1, 0, 3, 2]⟩,
 ⟨(some 13), .faddr 1 (.t 3), (some (5, 10, true)), 8256, [5, 4, 1, 0, 3, 2]⟩,
 ⟨(some 14), .load false 1 (.t 13), (some (5, 10, true)), 8264, [8, 5, 4, 1, 0, 3, 2]⟩,
 ⟨(some 15), .call (.c (.fn 17 [])) [(.t 12), (.t 14)], (some (5, 10, true)), 8272, [7, 6, 5, 4, 1, 0, 3, 2, 9, 8]⟩,
 ⟨(some 16), .pick (.t 10) (.t 15) (.c (.bool false)), none, 8280, [5, 4, 1, 0, 3, 2, 10, 7, 6, 9, 8]⟩,
 ⟨(some 4), .copy (.t 16), none, 8288, [11, 5, 4, 1, 0, 3, 2, 10, 7, 6, 9, 8]⟩])
 .ret))
theorem vf19 : VF Try.prog 19 = some (17, vc19, [.tmp 4]) := by kernel_rfl
/-- downspout/downspoutref32.Find -/
def vc32 : VCode :=
 (.seq
 (.region 0 false [
 ⟨(some 3), .box (.t 1), none, 0, []⟩,
 ⟨(some 4), .copy (.c (.int .i64 0)), none, 8, []⟩])
 (.seq
 (.seq
 (.region 1 false [
 ⟨(some 5), .copy (.c (.int .i64 0)), none, 8192, []⟩])
 (.block 0
 (.loop
 (.seq
 (.seq
 (.region 2 false [
 ⟨(some 6), .copy (.t 5), none, 16384, []⟩,
 ⟨(some 7), .copy (.t 0), none, 16392, []⟩,
 ⟨(some 8), .len (.t 7), none, 16400, [1]⟩,
 ⟨(some 9), .bin .lss (.t 6) (.t 8), none, 16408, [0, 2, 1]⟩])
 (.cond (.t 9)
 .skip
 (.exit 0)))
 (.seq
 (.block 1
 (.seq
 (.region 4 true [
 ⟨(some 12), .copy (.t 0), none, 32768, []⟩,
 ⟨(some 13), .copy (.t 5), none, 32776, []⟩,
 ⟨(some 14), .iaddr 5 (.t 12) (.t 13), none, 32784, [0, 1]⟩,
 ⟨(some 15), .load true 5 (.t 14), none, 32792, [2, 0, 1]⟩,
 ⟨(some 16), .load true 5 (.t 3), none, 32800, []⟩,
 ⟨(some 17), .eqc false [1, 2, 1, 1, 0] (.t 15) (.t 16), none, 32808, [3, 2, 0, 1, 4]⟩])
 (.cond (.t 17)
 (.seq
 (.region 5 false [
 ⟨(some 18), .copy (.t 5), none, 40960, []⟩,
 ⟨(some 4), .copy (.t 18), none, 40968, [0]⟩])
 .ret)
 .skip)))
 (.region 3 false [
 ⟨(some 10), .copy (.t 5), none, 24576, []⟩,
 ⟨(some 11), .bin .add (.t 10) (.c (.int .i64 1)), none, 24584, [0]⟩,
 ⟨(some 5), .copy (.t 11), none, 24592, [1, 0]⟩]))))))
 (.seq
 (.region 6 false [
 ⟨(some 4), .copy (.c (.int .i64 (-1))), none, 49152, []⟩])
 .ret)))
theorem vf32 : VF Try.prog 32 = some (19, vc32, [.tmp 4]) := by kernel_rfl
/-- downspout/downspoutref32.without -/
def vc50 : VCode :=
 (.seq
 (.region 0 false [
 ⟨(some 4), .copy (.c .nils), none, 0, []⟩])
 (.seq
 (.region 1 true [
 ⟨(some 5), .copy (.t 0), none, 8192, []⟩,
 ⟨(some 6), .copy (.t 1), none, 8200, []⟩,
 ⟨(some 7), .slsl 5 (.t 5) none (some (.t 6)) none, none, 8208, [0, 1]⟩,
 ⟨(some 8), .call (.c (.fn 47 [])) [(.t 7)], none, 8216, [2, 0, 1]⟩,
 ⟨(some 9), .copy (.t 0), none, 8224, []⟩,
 ⟨(some 10), .copy (.t 1), none, 8232, []⟩,
 ⟨(some 11), .bin .add (.t 10) (.c (.int .i64 1)), none, 8240, [5]⟩,
 ⟨(some 12), .slsl 5 (.t 9) (some (.t 11)) none none, none, 8248, [4, 6, 5]⟩,
 ⟨(some 13), .append 5 48 [(.int .i64 0), (.str []), (.int .i64 0), (.int .i64 0), (.bool false)] (.t 8) (.t 12), none, 8256, [3, 2, 0, 1, 7, 4, 6, 5]⟩,
 ⟨(some 4), .copy (.t 13), none, 8264, [8, 3, 2, 0, 1, 7, 4, 6, 5]⟩])
 .ret))
theorem vf50 : VF Try.prog 50 = some (14, vc50, [.tmp 4]) := by kernel_rfl
/-- downspout/downspoutref32.others -/
def vc52 : VCode :=
 (.seq
 (.region 0 false [
 ⟨(some 4), .copy (.c .nils), none, 0, []⟩])
 (.seq
 (.region 1 false [
 ⟨(some 7), .bslice 5 [(.int .i64 0), (.str []), (.int .i64 0), (.int .i64 0), (.bool false)] 0 [], none, 8192, []⟩,
 ⟨(some 5), .copy (.t 7), none, 8200, [0]⟩])
 (.seq
 (.seq
 (.region 2 false [
 ⟨(some 6), .copy (.c (.int .i64 0)), none, 16384, []⟩])
 (.block 0
 (.loop
 (.seq
 (.seq
 (.region 3 false [
 ⟨(some 8), .copy (.t 6), none, 24576, []⟩,
 ⟨(some 9), .copy (.t 0), none, 24584, []⟩,
 ⟨(some 10), .len (.t 9), none, 24592, [1]⟩,
 ⟨(some 11), .bin .lss (.t 8) (.t 10), none, 24600, [0, 2, 1]⟩])
 (.cond (.t 11)
 .skip
 (.exit 0)))
 (.seq
 (.block 1
 (.seq
 (.region 5 false [
 ⟨(some 14), .copy (.t 0), none, 40960, []⟩,
 ⟨(some 15), .copy (.t 6), none, 40968, []⟩,
 ⟨(some 16), .iaddr 5 (.t 14) (.t 15), none, 40976, [0, 1]⟩,
 ⟨(some 17), .faddr 0 (.t 16), none, 40984, [2, 0, 1]⟩,
 ⟨(some 18), .load false 1 (.t 17), none, 40992, [3, 2, 0, 1]⟩,
 ⟨(some 19), .copy (.t 1), none, 41000, []⟩,
 ⟨(some 20), .bin .neq (.t 18) (.t 19), none, 41008, [4, 3, 2, 0, 1, 5]⟩])
 (.cond (.t 20)
 (.region 6 false [
 ⟨(some 21), .copy (.t 5), none, 49152, []⟩,
 ⟨(some 22), .copy (.t 0), none, 49160, []⟩,
 ⟨(some 23), .copy (.t 6), none, 49168, []⟩,
 ⟨(some 24), .iaddr 5 (.t 22) (.t 23), none, 49176, [1, 2]⟩,
 ⟨(some 25), .load true 5 (.t 24), none, 49184, [3, 1, 2]⟩,
 ⟨(some 26), .bslice 5 [(.int .i64 0), (.str []), (.int .i64 0), (.int .i64 0), (.bool false)] 1 [(0, (.t 25))], none, 49192, [4, 3, 1, 2]⟩,
 ⟨(some 27), .append 5 48 [(.int .i64 0), (.str []), (.int .i64 0), (.int .i64 0), (.bool false)] (.t 21) (.t 26), none, 49200, [0, 5, 4, 3, 1, 2]⟩,
 ⟨(some 5), .copy (.t 27), none, 49208, [6, 0, 5, 4, 3, 1, 2]⟩])
 .skip)))
 (.region 4 false [
 ⟨(some 12), .copy (.t 6), none, 32768, []⟩,
 ⟨(some 13), .bin .add (.t 12) (.c (.int .i64 1)), none, 32776, [0]⟩,
 ⟨(some 6), .copy (.t 13), none, 32784, [1, 0]⟩]))))))
 (.seq
 (.region 7 false [
 ⟨(some 28), .copy (.t 5), none, 57344, []⟩,
 ⟨(some 4), .copy (.t 28), none, 57352, [0]⟩])
 .ret))))
theorem vf52 : VF Try.prog 52 = some (29, vc52, [.tmp 4]) := by kernel_rfl
/-- downspout/downspoutref32.Allows -/
def vc27 : VCode :=
 (.seq
 (.region 0 false [
 ⟨(some 2), .box (.t 0), none, 0, []⟩,
 ⟨(some 3), .box (.t 1), none, 8, []⟩,
 ⟨(some 4), .copy (.c (.bool false)), none, 16, []⟩])
 (.seq
 (.region 1 false [
 ⟨(some 5), .load true 5 (.t 3), none, 8192, []⟩,
 ⟨(some 6), .call (.c (.fn 48 [])) [(.t 5)], none, 8200, [0]⟩,
 ⟨(some 7), .copy (.t 6), none, 8208, [1, 0]⟩,
 ⟨(some 8), .faddr 0 (.t 2), (some (2, 7, true)), 8216, [2, 1, 0]⟩,
 ⟨(some 9), .load false 1 (.t 8), (some (2, 7, true)), 8224, [3, 2, 1, 0]⟩,
 ⟨(some 10), .load true 5 (.t 3), (some (2, 7, true)), 8232, [2, 1, 0]⟩,
 ⟨(some 11), .call (.c (.fn 31 [])) [(.t 9), (.t 10)], (some (2, 7, true)), 8240, [4, 3, 2, 1, 0, 5]⟩,
 ⟨(some 12), .not (.t 11), (some (2, 7, true)), 8248, [6, 4, 3, 2, 1, 0, 5]⟩,
 ⟨(some 13), .pick (.t 7) (.t 12) (.c (.bool false)), none, 8256, [2, 1, 0, 7, 6, 4, 3, 5]⟩,
 ⟨(some 14), .copy (.t 13), none, 8264, [8, 2, 1, 0, 7, 6, 4, 3, 5]⟩,
 ⟨(some 15), .faddr 1 (.t 2), (some (9, 14, true)), 8272, [9, 8, 2, 1, 0, 7, 6, 4, 3, 5]⟩,
 ⟨(some 16), .load false 1 (.t 15), (some (9, 14, true)), 8280, [10, 9, 8, 2, 1, 0, 7, 6, 4, 3, 5]⟩,
 ⟨(some 17), .load true 5 (.t 3), (some (9, 14, true)), 8288, [9, 8, 2, 1, 0, 7, 6, 4, 3, 5]⟩,
 ⟨(some 18), .call (.c (.fn 31 [])) [(.t 16), (.t 17)], (some (9, 14, true)), 8296, [11, 10, 9, 8, 2, 1, 0, 7, 6, 4, 3, 5, 12]⟩,
 ⟨(some 19), .not (.t 18), (some (9, 14, true)), 8304, [13, 11, 10, 9, 8, 2, 1, 0, 7, 6, 4, 3, 5, 12]⟩,
 ⟨(some 20), .pick (.t 14) (.t 19) (.c (.bool false)), none, 8312, [9, 8, 2, 1, 0, 7, 6, 4, 3, 5, 14, 13, 11, 10, 12]⟩,
 ⟨(some 4), .copy (.t 20), none, 8320, [15, 9, 8, 2, 1, 0, 7, 6, 4, 3, 5, 14, 13, 11, 10, 12]⟩])
 .ret))
theorem vf27 : VF Try.prog 27 = some (21, vc27, [.tmp 4]) := by kernel_rfl
/-- downspout/downspoutref32.grant -/
def vc49 : VCode :=
 (.seq
 (.region 0 false [
 ⟨(some 1), .box (.t 0), none, 0, []⟩,
 ⟨(some 2), .alloc [.nils, .nils, .nils, (.int .i64 0)], none, 8, []⟩])
 (.seq
 (.region 1 false [
 ⟨(some 6), .faddr 0 (.t 1), none, 8192, []⟩,
 ⟨(some 7), .load false 1 (.t 6), none, 8200, [0]⟩,
 ⟨(some 8), .call (.c (.fn 47 [])) [(.t 7)], none, 8208, [1, 0]⟩,
 ⟨(some 9), .build [.nils, .nils] [(0, 1, (.t 8))], none, 8216, [2, 1, 0]⟩,
 ⟨(some 10), .build [.nils, .nils, .nils, (.int .i64 0)] [(0, 2, (.t 9))], none, 8224, [3, 2, 1, 0]⟩,
 ⟨(some 3), .alloc [.nils, .nils, .nils, (.int .i64 0)], none, 8232, []⟩,
 ⟨none, .store 4 (.t 3) (.t 10), none, 8240, [5, 4, 3, 2, 1, 0]⟩])
 (.seq
 (.seq
 (.region 2 false [
 ⟨(some 4), .copy (.c (.int .i64 0)), none, 16384, []⟩])
 (.block 0
 (.loop
 (.seq
 (.seq
 (.region 3 false [
 ⟨(some 11), .copy (.t 4), none, 24576, []⟩,
 ⟨(some 12), .faddr 1 (.t 1), none, 24584, []⟩,
 ⟨(some 13), .load false 1 (.t 12), none, 24592, [1]⟩,
 ⟨(some 14), .len (.t 13), none, 24600, [2, 1]⟩,
 ⟨(some 15), .bin .lss (.t 11) (.t 14), none, 24608, [0, 3, 2, 1]⟩])
 (.cond (.t 15)
 .skip
 (.exit 0)))
 (.seq
 (.block 1
 (.seq
 (.region 5 false [
 ⟨(some 18), .faddr 1 (.t 1), none, 40960, []⟩,
 ⟨(some 19), .load false 1 (.t 18), none, 40968, [0]⟩,
 ⟨(some 20), .copy (.t 4), none, 40976, []⟩,
 ⟨(some 21), .iaddr 5 (.t 19) (.t 20), none, 40984, [1, 0, 2]⟩,
 ⟨(some 22), .load true 5 (.t 21), none, 40992, [3, 1, 0, 2]⟩,
 ⟨(some 5), .alloc [(.int .i64 0), (.str []), (.int .i64 0), (.int .i64 0), (.bool false)], none, 41000, []⟩,
 ⟨none, .store 5 (.t 5) (.t 22), none, 41008, [5, 4, 3, 1, 0, 2]⟩])
 (.seq
 (.region 6 false [
 ⟨(some 23), .faddr 0 (.t 3), none, 49152, []⟩,
 ⟨(some 24), .faddr 0 (.t 23), none, 49160, [0]⟩,
 ⟨(some 25), .load false 1 (.t 24), none, 49168, [1, 0]⟩,
 ⟨(some 26), .load true 5 (.t 5), none, 49176, []⟩,
 ⟨(some 27), .call (.c (.fn 31 [])) [(.t 25), (.t 26)], none, 49184, [2, 1, 0, 3]⟩,
 ⟨(some 28), .copy (.t 27), none, 49192, [4, 2, 1, 0, 3]⟩,
 ⟨(some 29), .faddr 0 (.t 3), (some (5, 28, false)), 49200, [5, 4, 2, 1, 0, 3]⟩,
 ⟨(some 30), .faddr 1 (.t 29), (some (5, 28, false)), 49208, [6, 5, 4, 2, 1, 0, 3]⟩,
 ⟨(some 31), .load false 1 (.t 30), (some (5, 28, false)), 49216, [7, 6, 5, 4, 2, 1, 0, 3]⟩,
 ⟨(some 32), .load true 5 (.t 5), (some (5, 28, false)), 49224, [5, 4, 2, 1, 0, 3]⟩,
 ⟨(some 33), .call (.c (.fn 31 [])) [(.t 31), (.t 32)], (some (5, 28, false)), 49232, [8, 7, 6, 5, 4, 2, 1, 0, 3, 9]⟩,
 ⟨(some 34), .pick (.t 28) (.c (.bool true)) (.t 33), none, 49240, [5, 4, 2, 1, 0, 3, 10, 8, 7, 6, 9]⟩])
 (.cond (.t 34)
 (.region 7 false [
 ⟨(some 35), .faddr 0 (.t 3), none, 57344, []⟩,
 ⟨(some 36), .faddr 1 (.t 35), none, 57352, [0]⟩,
 ⟨(some 37), .load false 1 (.t 36), none, 57360, [1, 0]⟩,
 ⟨(some 38), .load true 5 (.t 5), none, 57368, []⟩,
 ⟨(some 39), .bslice 5 [(.int .i64 0), (.str []), (.int .i64 0), (.int .i64 0), (.bool false)] 1 [(0, (.t 38))], none, 57376, [3]⟩,
 ⟨(some 40), .append 5 48 [(.int .i64 0), (.str []), (.int .i64 0), (.int .i64 0), (.bool false)] (.t 37) (.t 39), none, 57384, [2, 1, 0, 4, 3]⟩,
 ⟨(some 41), .faddr 0 (.t 3), none, 57392, [0, 1, 2, 3, 4, 5]⟩,
 ⟨(some 42), .faddr 1 (.t 41), none, 57400, [6, 0, 1, 2, 3, 4, 5]⟩,
 ⟨none, .store 1 (.t 42) (.t 40), none, 57408, [7, 6, 0, 1, 2, 3, 4, 5]⟩])
 (.seq
 (.region 8 false [
 ⟨(some 43), .faddr 0 (.t 3), none, 65536, []⟩,
 ⟨(some 44), .faddr 0 (.t 43), none, 65544, [0]⟩,
 ⟨(some 45), .load false 1 (.t 44), none, 65552, [1, 0]⟩,
 ⟨(some 46), .load true 5 (.t 5), none, 65560, []⟩,
 ⟨(some 47), .bslice 5 [(.int .i64 0), (.str []), (.int .i64 0), (.int .i64 0), (.bool false)] 1 [(0, (.t 46))], none, 65568, [3]⟩,
 ⟨(some 48), .append 5 48 [(.int .i64 0), (.str []), (.int .i64 0), (.int .i64 0), (.bool false)] (.t 45) (.t 47), none, 65576, [2, 1, 0, 4, 3]⟩,
 ⟨(some 49), .faddr 0 (.t 3), none, 65584, [0, 1, 2, 3, 4, 5]⟩,
 ⟨(some 50), .faddr 0 (.t 49), none, 65592, [6, 0, 1, 2, 3, 4, 5]⟩,
 ⟨none, .store 1 (.t 50) (.t 48), none, 65600, [7, 6, 0, 1, 2, 3, 4, 5]⟩])
 (.region 9 false [
 ⟨(some 51), .faddr 2 (.t 3), none, 73728, []⟩,
 ⟨(some 52), .load false 1 (.t 51), none, 73736, [0]⟩,
 ⟨(some 53), .load true 5 (.t 5), none, 73744, []⟩,
 ⟨(some 54), .bslice 5 [(.int .i64 0), (.str []), (.int .i64 0), (.int .i64 0), (.bool false)] 1 [(0, (.t 53))], none, 73752, [2]⟩,
 ⟨(some 55), .append 5 48 [(.int .i64 0), (.str []), (.int .i64 0), (.int .i64 0), (.bool false)] (.t 52) (.t 54), none, 73760, [1, 0, 3, 2]⟩,
 ⟨(some 56), .faddr 2 (.t 3), none, 73768, [0, 1, 2, 3, 4]⟩,
 ⟨none, .store 1 (.t 56) (.t 55), none, 73776, [5, 0, 1, 2, 3, 4]⟩]))))))
 (.region 4 false [
 ⟨(some 16), .copy (.t 4), none, 32768, []⟩,
 ⟨(some 17), .bin .add (.t 16) (.c (.int .i64 1)), none, 32776, [0]⟩,
 ⟨(some 4), .copy (.t 17), none, 32784, [1, 0]⟩]))))))
 (.seq
 (.region 10 false [
 ⟨(some 57), .load true 4 (.t 3), none, 81920, []⟩,
 ⟨none, .store 4 (.t 2) (.t 57), none, 81928, [0]⟩])
 .ret))))
theorem vf49 : VF Try.prog 49 = some (58, vc49, [.cell true 4 2]) := by kernel_rfl
abbrev encLs (l : LocksL) : List PV := [.sh false (l.held.map encL), .sh false (l.waits.map encL)]
abbrev encG (h w g : List LockL) (e : Int) : List PV := [.sh false (h.map encL), .sh false (w.map encL), .sh false (g.map encL), .int .i64 e]
theorem veqL (a b : LockL) {neg : Bool} {lvl site : Nat} {tf : TF} {hf : HF} {x y : VX} (hx : ev tf x = some (.agg (encL a)) := by rfl) (hy : ev tf y = some (.agg (encL b)) := by rfl) :
    vop lvl site tf hf (.eqc neg [1, 2, 1, 1, 0] x y) = some ⟨.bool (if neg then !decide (a = b) else decide (a = b)), [], []⟩ := by
  obtain ⟨a1, a2, a3, a4, a5⟩ := a
  obtain ⟨b1, b2, b3, b4, b5⟩ := b
  have h : (a1 == b1 && (a2 == b2 && (a3 == b3 && (a4 == b4 && a5 == b5)))) = decide ((⟨a1, a2, a3, a4, a5⟩ : LockL) = ⟨b1, b2, b3, b4, b5⟩) := by
    rw [Bool.eq_iff_iff]
    simp
  rw [← h]
  simp [vop, hx, hy, eqCells, eqCell, retV]
theorem sameLocks_vc {a b : List LockL} (ha : a.length ≤ 60000) (hb : b.length ≤ 60000) : VC Try.prog 17 [.sh false (a.map encL), .sh false (b.map encL)] [] (.bool (decide (a = b))) [] := by
  refine vc_of vf17 ?_ (Nat.le_of_ble_eq_true rfl) (by intro vs h; cases h)
  repeat first | refine o_copy ?_ | refine nl ?_ | refine ct_seq ?_ | refine rg ?_ | refine ct_block ?_ | refine bq ?_ | refine o_iaddr ?_ | refine o_iaddrO ?_ | refine o_iaddrR ?_ | refine o_add ?_ | refine o_cat ?_ | refine o_bin ?_ | refine o_lenq ?_ | refine o_len ?_ | refine o_loadsA ?_ | refine o_loadpA ?_ | refine o_eqc ?_
  refine cnd (fun h => ?_) (fun h => ct_skip ?_)
  · repeat first | refine o_copy ?_ | refine nl ?_ | refine ct_seq ?_ | refine rg ?_ | refine ct_block ?_ | refine bq ?_ | refine o_iaddr ?_ | refine o_iaddrO ?_ | refine o_iaddrR ?_ | refine o_add ?_ | refine o_cat ?_ | refine o_bin ?_ | refine o_lenq ?_ | refine o_len ?_ | refine o_loadsA ?_ | refine o_loadpA ?_ | refine o_eqc ?_
    refine ct_ret ⟨.inr rfl, oB ?_⟩
    symm
    rw [decide_eq_false_iff_not]
    rintro rfl
    simp at h
  have hab : a.length = b.length := by simp at h; omega
  repeat first | refine o_copy ?_ | refine nl ?_ | refine ct_seq ?_ | refine rg ?_ | refine ct_block ?_ | refine bq ?_ | refine o_iaddr ?_ | refine o_iaddrO ?_ | refine o_iaddrR ?_ | refine o_add ?_ | refine o_cat ?_ | refine o_bin ?_ | refine o_lenq ?_ | refine o_len ?_ | refine o_loadsA ?_ | refine o_loadpA ?_ | refine o_eqc ?_
  refine ct_loopG (fun (g : Nat) => [(0, .sh false (a.map encL)), (1, .sh false (b.map encL)), (5, .int .i64 g)]) (fun g => []) (fun g => a.length - g)
    (fun g => g ≤ a.length ∧ a.take g = b.take g) 0 goes ⟨Nat.zero_le _, rfl⟩ ?_
  rintro i ⟨hi, hv⟩
  repeat first | refine o_copy ?_ | refine nl ?_ | refine ct_seq ?_ | refine rg ?_ | refine ct_block ?_ | refine bq ?_ | refine o_iaddr ?_ | refine o_iaddrO ?_ | refine o_iaddrR ?_ | refine o_add ?_ | refine o_cat ?_ | refine o_bin ?_ | refine o_lenq ?_ | refine o_len ?_ | refine o_loadsA ?_ | refine o_loadpA ?_ | refine o_eqc ?_
  refine cnd (fun h => ct_skip ?_) (fun h => ct_exit ?_)
  · have hlt : i < a.length := by have h' := of_decide_eq_true h; simp only [List.length_map] at h'; omega
    obtain ⟨x, hx⟩ : ∃ x, a[i]? = some x := ⟨_, List.getElem?_eq_getElem hlt⟩
    obtain ⟨y, hy⟩ : ∃ y, b[i]? = some y := ⟨_, List.getElem?_eq_getElem (by omega)⟩
    have hxe := gm (enc := encL) (n := (i : Int)) hx (by omega)
    have hye := gm (enc := encL) (n := (i : Int)) hy (by omega)
    repeat first | refine o_copy ?_ | refine nl ?_ | refine ct_seq ?_ | refine rg ?_ | refine ct_block ?_ | refine bq ?_ | refine o_v (veqL x y) ?_ | refine o_iaddr ?_ | refine o_iaddrO ?_ | refine o_iaddrR ?_ | refine o_add ?_ | refine o_cat ?_ | refine o_bin ?_ | refine o_lenq ?_ | refine o_len ?_ | refine o_loadsA ?_ | refine o_loadpA ?_ | refine o_eqc ?_
    refine cnd (fun h2 => ?_) (fun h2 => ct_skip ?_)
    · repeat first | refine o_copy ?_ | refine nl ?_ | refine ct_seq ?_ | refine rg ?_ | refine ct_block ?_ | refine bq ?_ | refine o_iaddr ?_ | refine o_iaddrO ?_ | refine o_iaddrR ?_ | refine o_add ?_ | refine o_cat ?_ | refine o_bin ?_ | refine o_lenq ?_ | refine o_len ?_ | refine o_loadsA ?_ | refine o_loadpA ?_ | refine o_eqc ?_
      refine ct_ret ⟨.inr rfl, oB ?_⟩
      have h2 : ¬ x = y := by simpa using h2
      symm
      rw [decide_eq_false_iff_not]
      rintro rfl
      rw [hx] at hy
      exact h2 (by simpa using hy)
    · repeat first | refine o_copy ?_ | refine nl ?_ | refine ct_seq ?_ | refine rg ?_ | refine ct_block ?_ | refine bq ?_ | refine o_iaddr ?_ | refine o_iaddrO ?_ | refine o_iaddrR ?_ | refine o_add ?_ | refine o_cat ?_ | refine o_bin ?_ | refine o_lenq ?_ | refine o_len ?_ | refine o_loadsA ?_ | refine o_loadpA ?_ | refine o_eqc ?_
      have h2 : x = y := by simpa using h2
      refine agn (i + 1) ⟨by omega, ?_⟩ goes
      rw [List.take_add_one, List.take_add_one, hx, hy, hv, h2]
  · have hge : i = a.length := by have h' := of_decide_eq_false h; simp only [List.length_map] at h'; omega
    subst hge
    rw [List.take_length, hab, List.take_length] at hv
    repeat first | refine o_copy ?_ | refine nl ?_ | refine ct_seq ?_ | refine rg ?_ | refine ct_block ?_ | refine bq ?_ | refine o_iaddr ?_ | refine o_iaddrO ?_ | refine o_iaddrR ?_ | refine o_add ?_ | refine o_cat ?_ | refine o_bin ?_ | refine o_lenq ?_ | refine o_len ?_ | refine o_loadsA ?_ | refine o_loadpA ?_ | refine o_eqc ?_
    exact ct_ret ⟨.inr rfl, oB (decide_eq_true hv).symm⟩
theorem rsame_vc {a b : LocksL} (h1 : a.held.length ≤ 60000) (h2 : a.waits.length ≤ 60000) (h3 : b.held.length ≤ 60000) (h4 : b.waits.length ≤ 60000) : VC Try.prog 19 [.agg (encLs a), .agg (encLs b)] [] (.bool (decide (a = b))) [] := by
  refine vc_of vf19 ?_ (Nat.le_of_ble_eq_true rfl) (by intro vs h; cases h)
  have e : decide (a = b) = (decide (a.held = b.held) && decide (a.waits = b.waits)) := by
    rw [Bool.eq_iff_iff]
    obtain ⟨a1, a2⟩ := a
    obtain ⟨b1, b2⟩ := b
    simp
  rw [e]
  repeat' first | refine o_copy ?_ | refine nl ?_ | refine ct_seq ?_ | refine rg ?_ | refine ct_block ?_ | refine bq ?_ | refine ct_skip ?_ | refine ct_exit ?_ | refine rt_next ?_ | refine cndt ?_ | refine cndf ?_ | refine cv0 (sameLocks_vc h1 h3) ?_ | refine cv0 (sameLocks_vc h2 h4) ?_ | refine o_copy ?_ | refine o_loads ?_ | refine o_loadp ?_ | refine o_faddr ?_ | refine o_box ?_ | refine o_pickt ?_ | refine o_pickf ?_ | refine skF ?_ | refine skU ?_ | refine ct_ret ⟨.inr rfl, ?_⟩ | refine cnd (fun _ => ?_) (fun _ => ?_) | (refine glook (fun _ => ?_) (fun _ => ?_) <;> first | refine cv0 (sameLocks_vc h1 h3) ?_ | refine cv0 (sameLocks_vc h2 h4) ?_ | refine o_copy ?_ | refine o_loads ?_ | refine o_loadp ?_ | refine o_faddr ?_ | refine o_box ?_ | refine o_pickt ?_ | refine o_pickf ?_ | refine skF ?_ | refine skU ?_)
  all_goals refine oB ?_
  all_goals simp_all
/-- The place as a number, or -1. -/
def findI (l : List LockL) (x : LockL) : Int := if x ∈ l then (l.findIdx (· == x) : Nat) else -1
theorem rfind_vc {l : List LockL} (hl : l.length ≤ 60000) (x : LockL) : VC Try.prog 32 [.sh false (l.map encL), .agg (encL x)] [] (.int .i64 (findI l x)) [] := by
  refine vc_of vf32 ?_ (Nat.le_of_ble_eq_true rfl) (by intro vs h; cases h)
  repeat first | refine o_copy ?_ | refine nl ?_ | refine ct_seq ?_ | refine rg ?_ | refine ct_block ?_ | refine bq ?_ | refine o_iaddr ?_ | refine o_iaddrO ?_ | refine o_iaddrR ?_ | refine o_add ?_ | refine o_cat ?_ | refine o_bin ?_ | refine o_lenq ?_ | refine o_len ?_ | refine o_loadsA ?_ | refine o_loadpA ?_ | refine o_box ?_ | refine o_eqc ?_
  refine ct_loopG (fun (g : Nat) => [(0, .sh false (l.map encL)), (3, .ptr ⟨1, 0⟩ 1 0 0), (5, .int .i64 g)]) (fun g => [(⟨1, 0⟩, ⟨true, false, 5, [encL x]⟩)]) (fun g => l.length - g)
    (fun g => g ≤ l.length ∧ x ∉ l.take g) 0 goes ⟨Nat.zero_le _, by simp⟩ ?_
  rintro i ⟨hi, hv⟩
  repeat first | refine o_copy ?_ | refine nl ?_ | refine ct_seq ?_ | refine rg ?_ | refine ct_block ?_ | refine bq ?_ | refine o_iaddr ?_ | refine o_iaddrO ?_ | refine o_iaddrR ?_ | refine o_add ?_ | refine o_cat ?_ | refine o_bin ?_ | refine o_lenq ?_ | refine o_len ?_ | refine o_loadsA ?_ | refine o_loadpA ?_ | refine o_box ?_ | refine o_eqc ?_
  refine cnd (fun h => ct_skip ?_) (fun h => ct_exit ?_)
  · have hlt : i < l.length := by have h' := of_decide_eq_true h; simp only [List.length_map] at h'; omega
    obtain ⟨y, hy⟩ : ∃ y, l[i]? = some y := ⟨_, List.getElem?_eq_getElem hlt⟩
    have hxe := gm (enc := encL) (n := (i : Int)) hy (by omega)
    repeat first | refine o_copy ?_ | refine nl ?_ | refine ct_seq ?_ | refine rg ?_ | refine ct_block ?_ | refine bq ?_ | refine o_v (veqL y x) ?_ | refine o_iaddr ?_ | refine o_iaddrO ?_ | refine o_iaddrR ?_ | refine o_add ?_ | refine o_cat ?_ | refine o_bin ?_ | refine o_lenq ?_ | refine o_len ?_ | refine o_loadsA ?_ | refine o_loadpA ?_ | refine o_box ?_ | refine o_eqc ?_
    have hls : l = l.take i ++ y :: l.drop (i + 1) := by rw [← drop_get hy, List.take_append_drop]
    refine cnd (fun h2 => ?_) (fun h2 => ct_skip ?_)
    · repeat first | refine o_copy ?_ | refine nl ?_ | refine ct_seq ?_ | refine rg ?_ | refine ct_block ?_ | refine bq ?_ | refine o_iaddr ?_ | refine o_iaddrO ?_ | refine o_iaddrR ?_ | refine o_add ?_ | refine o_cat ?_ | refine o_bin ?_ | refine o_lenq ?_ | refine o_len ?_ | refine o_loadsA ?_ | refine o_loadpA ?_ | refine o_box ?_ | refine o_eqc ?_
      have h2 : y = x := by simpa using h2
      subst h2
      refine ct_ret ⟨.inr rfl, oI ?_⟩
      have hm : y ∈ l := List.mem_of_getElem? hy
      unfold findI
      rw [if_pos hm]
      have : l.findIdx (· == y) = i := by
        rw [hls, List.findIdx_append, if_neg]
        · simp [List.findIdx_cons]; omega
        · intro h4
          have h5 := List.findIdx_getElem (w := h4)
          simp only [beq_iff_eq] at h5
          exact hv (h5 ▸ List.getElem_mem _)
      rw [this]
    · repeat first | refine o_copy ?_ | refine nl ?_ | refine ct_seq ?_ | refine rg ?_ | refine ct_block ?_ | refine bq ?_ | refine o_iaddr ?_ | refine o_iaddrO ?_ | refine o_iaddrR ?_ | refine o_add ?_ | refine o_cat ?_ | refine o_bin ?_ | refine o_lenq ?_ | refine o_len ?_ | refine o_loadsA ?_ | refine o_loadpA ?_ | refine o_box ?_ | refine o_eqc ?_
      have h2 : ¬ y = x := by simpa using h2
      refine agn (i + 1) ⟨by omega, ?_⟩ goes
      rw [List.take_add_one, hy]
      simp only [Option.toList, List.mem_append, List.mem_singleton, not_or]
      exact ⟨hv, fun e => h2 e.symm⟩
  · have hge : i = l.length := by have h' := of_decide_eq_false h; simp only [List.length_map] at h'; omega
    subst hge
    rw [List.take_length] at hv
    repeat first | refine o_copy ?_ | refine nl ?_ | refine ct_seq ?_ | refine rg ?_ | refine ct_block ?_ | refine bq ?_ | refine o_iaddr ?_ | refine o_iaddrO ?_ | refine o_iaddrR ?_ | refine o_add ?_ | refine o_cat ?_ | refine o_bin ?_ | refine o_lenq ?_ | refine o_len ?_ | refine o_loadsA ?_ | refine o_loadpA ?_ | refine o_box ?_ | refine o_eqc ?_
    refine ct_ret ⟨.inr rfl, oI ?_⟩
    unfold findI
    rw [if_neg hv]
theorem slL (l : List LockL) (a b : Nat) (hab : a ≤ b) (hb : b ≤ l.length) {ex : Bool} {lvl site : Nat} {tf : TF} {hf : HF} {x y : VX} (hx : ev tf x = some (.sh ex (l.map encL)) := by rfl) (hy : ev tf y = some (.int .i64 (b : Nat)) := by rfl) (ha : a = 0 := by rfl) :
    vop lvl site tf hf (.slsl 5 x none (some y) none) = some ⟨.sh (ex && decide ((b : Int) = (l.map encL).length)) ((l.take b).map encL), [], []⟩ := by
  subst ha
  have := v_slsh (lvl := lvl) (site := site) (hf := hf) (esz := 5) (lo := none) (hi := some y) (mx := none) (a := 0) (z := b) (c := (l.map encL).length) hx rfl (by simp [optInt, hy]) rfl (by omega) (by omega) (by simp; omega) (by omega) (fun e he => by
    obtain ⟨j, _, rfl⟩ := List.mem_map.1 he
    rfl)
  rw [this]
  simp
theorem slR (l : List LockL) (a : Nat) (ha : a ≤ l.length) {ex : Bool} {lvl site : Nat} {tf : TF} {hf : HF} {x y : VX} (hx : ev tf x = some (.sh ex (l.map encL)) := by rfl) (hy : ev tf y = some (.int .i64 (a : Nat)) := by rfl) :
    vop lvl site tf hf (.slsl 5 x (some y) none none) = some ⟨.sh ex ((l.drop a).map encL), [], []⟩ := by
  have := v_slsh (lvl := lvl) (site := site) (hf := hf) (esz := 5) (lo := some y) (hi := none) (mx := none) (a := a) (z := (l.map encL).length) (c := (l.map encL).length) hx (by simp [optInt, hy]) rfl rfl (by omega) (by simp; omega) (by omega) (by omega) (fun e he => by
    obtain ⟨j, _, rfl⟩ := List.mem_map.1 he
    rfl)
  rw [this]
  simp
  rw [List.take_of_length_le (by simp)]
theorem rwithout_vc {l : List LockL} (hl : l.length ≤ 60000) {i : Nat} (hi : i < l.length) : VC Try.prog 50 [.sh false (l.map encL), .int .i64 i] [] (ownV ⟨0, 0⟩ ((withoutL l i).map encL)) [blkV 5 ((withoutL l i).map encL)] := by
  refine vc_of vf50 ?_ (Nat.le_of_ble_eq_true rfl) (by intro vs h; cases h)
  have hc := copied_vc (l := l.take i) (by simp; omega)
  have hw : IntKind.i64.wrap ((i : Int) + 1) = ((i + 1 : Nat) : Int) := wrap64 (by omega) (by omega)
  have h1 : (l.take i).length ≤ l.length := by rw [List.length_take]; omega
  have h2 : (l.drop (i + 1)).length ≤ l.length := by simp
  repeat first | refine o_copy ?_ | refine nl ?_ | refine ct_seq ?_ | refine rg ?_ | refine ct_block ?_ | refine bq ?_ | refine o_v (slL l 0 i (Nat.zero_le _) (by omega)) ?_ | refine cv hc ?_ | refine o_addE ?_ | refine o_v (slR l (i + 1) (by omega)) ?_ | refine o_v (vaps encL (l.take i) (l.drop (i + 1))) ?_ | refine o_add ?_ | refine o_cat ?_ | refine o_bin ?_
  exact ct_ret ⟨.inr rfl, oOwn rfl⟩
theorem rothers_vc {l : List LockL} (hl : l.length ≤ 60000) (o : Int) : VC Try.prog 52 [.sh false (l.map encL), .int .i64 o] [] (ownV ⟨0, 0⟩ ((othersL l o).map encL)) [blkV 5 ((othersL l o).map encL)] := by
  refine vc_of vf52 ?_ (Nat.le_of_ble_eq_true rfl) (by intro vs h; cases h)
  repeat first | refine o_copy ?_ | refine nl ?_ | refine ct_seq ?_ | refine rg ?_ | refine ct_block ?_ | refine bq ?_ | refine o_loads ?_ | refine o_loadp ?_ | refine o_faddr ?_ | refine o_iaddr ?_ | refine o_iaddrO ?_ | refine o_iaddrR ?_ | refine o_add ?_ | refine o_cat ?_ | refine o_bin ?_ | refine o_lenq ?_ | refine o_len ?_ | refine o_loadsA ?_ | refine o_loadpA ?_ | refine o_bslice ?_
  refine ct_loopG (fun (g : Nat × List LockL) => [(0, .sh false (l.map encL)), (1, .int .i64 o), (5, ownV ⟨1, 8192⟩ (g.2.map encL)), (6, .int .i64 g.1)]) (fun g => [(⟨1, 8192⟩, blkV 5 (g.2.map encL))]) (fun g => l.length - g.1)
    (fun g => g.1 ≤ l.length ∧ g.2 = othersL (l.take g.1) o) (0, []) goes ⟨Nat.zero_le _, rfl⟩ ?_
  rintro ⟨i, ys⟩ ⟨hi, hv⟩
  dsimp only at hi hv ⊢
  repeat first | refine o_copy ?_ | refine nl ?_ | refine ct_seq ?_ | refine rg ?_ | refine ct_block ?_ | refine bq ?_ | refine o_loads ?_ | refine o_loadp ?_ | refine o_faddr ?_ | refine o_iaddr ?_ | refine o_iaddrO ?_ | refine o_iaddrR ?_ | refine o_add ?_ | refine o_cat ?_ | refine o_bin ?_ | refine o_lenq ?_ | refine o_len ?_ | refine o_loadsA ?_ | refine o_loadpA ?_ | refine o_bslice ?_
  refine cnd (fun h => ct_skip ?_) (fun h => ct_exit ?_)
  · have hlt : i < l.length := by have h' := of_decide_eq_true h; simp only [List.length_map] at h'; omega
    obtain ⟨x, hx⟩ : ∃ y, l[i]? = some y := ⟨_, List.getElem?_eq_getElem hlt⟩
    have hxe := gm (enc := encL) (n := (i : Int)) hx (by omega)
    have hyl : ys.length ≤ l.length := by
      rw [hv]; unfold othersL
      exact Nat.le_trans (List.length_filter_le _ _) (by simp; omega)
    have hst : othersL (l.take (i + 1)) o = othersL (l.take i) o ++ (if x.own = o then [] else [x]) := by
      unfold othersL
      rw [List.take_add_one, hx, Option.toList, List.filter_append]
      by_cases h : x.own = o <;> simp [h]
    repeat first | refine o_copy ?_ | refine nl ?_ | refine ct_seq ?_ | refine rg ?_ | refine ct_block ?_ | refine bq ?_ | refine o_loads ?_ | refine o_loadp ?_ | refine o_faddr ?_ | refine o_iaddr ?_ | refine o_iaddrO ?_ | refine o_iaddrR ?_ | refine o_add ?_ | refine o_cat ?_ | refine o_bin ?_ | refine o_lenq ?_ | refine o_len ?_ | refine o_loadsA ?_ | refine o_loadpA ?_ | refine o_bslice ?_
    refine cnd (fun h2 => ?_) (fun h2 => ct_skip ?_)
    · have h2 : ¬ x.own = o := by simpa using h2
      rw [if_neg h2] at hst
      repeat first | refine o_copy ?_ | refine nl ?_ | refine ct_seq ?_ | refine rg ?_ | refine ct_block ?_ | refine bq ?_ | refine o_v (vap encL x) ?_ | refine o_loads ?_ | refine o_loadp ?_ | refine o_faddr ?_ | refine o_iaddr ?_ | refine o_iaddrO ?_ | refine o_iaddrR ?_ | refine o_add ?_ | refine o_cat ?_ | refine o_bin ?_ | refine o_lenq ?_ | refine o_len ?_ | refine o_loadsA ?_ | refine o_loadpA ?_ | refine o_bslice ?_
      exact agn (i + 1, ys ++ [x]) ⟨by simp only; omega, by simp only; rw [hst, hv]⟩ goes
    · have h2 : x.own = o := by simpa using h2
      rw [if_pos h2] at hst
      repeat first | refine o_copy ?_ | refine nl ?_ | refine ct_seq ?_ | refine rg ?_ | refine ct_block ?_ | refine bq ?_ | refine o_loads ?_ | refine o_loadp ?_ | refine o_faddr ?_ | refine o_iaddr ?_ | refine o_iaddrO ?_ | refine o_iaddrR ?_ | refine o_add ?_ | refine o_cat ?_ | refine o_bin ?_ | refine o_lenq ?_ | refine o_len ?_ | refine o_loadsA ?_ | refine o_loadpA ?_ | refine o_bslice ?_
      exact agn (i + 1, ys) ⟨by simp only; omega, by simp only; rw [hst, hv]; simp⟩ goes
  · have hge : i = l.length := by have h' := of_decide_eq_false h; simp only [List.length_map] at h'; omega
    subst hge
    rw [List.take_length] at hv
    subst hv
    repeat first | refine o_copy ?_ | refine nl ?_ | refine ct_seq ?_ | refine rg ?_ | refine ct_block ?_ | refine bq ?_ | refine o_loads ?_ | refine o_loadp ?_ | refine o_faddr ?_ | refine o_iaddr ?_ | refine o_iaddrO ?_ | refine o_iaddrR ?_ | refine o_add ?_ | refine o_cat ?_ | refine o_bin ?_ | refine o_lenq ?_ | refine o_len ?_ | refine o_loadsA ?_ | refine o_loadpA ?_ | refine o_bslice ?_
    exact ct_ret ⟨.inr rfl, oOwn rfl⟩
theorem rallows_vc {l : LocksL} (h1 : l.held.length ≤ 60000) (h2 : l.waits.length ≤ 60000) (x : LockL) : VC Try.prog 27 [.agg (encLs l), .agg (encL x)] [] (.bool (rallowsL l x)) [] := by
  refine vc_of vf27 ?_ (Nat.le_of_ble_eq_true rfl) (by intro vs h; cases h)
  repeat' first | refine o_copy ?_ | refine nl ?_ | refine ct_seq ?_ | refine rg ?_ | refine ct_block ?_ | refine bq ?_ | refine ct_skip ?_ | refine ct_exit ?_ | refine rt_next ?_ | refine cndt ?_ | refine cndf ?_ | refine cv0 (rright_vc x) ?_ | refine cv0 (rmeets_vc h1 x) ?_ | refine cv0 (rmeets_vc h2 x) ?_ | refine o_copy ?_ | refine o_loads ?_ | refine o_loadp ?_ | refine o_faddr ?_ | refine o_loadsA ?_ | refine o_loadpA ?_ | refine o_box ?_ | refine o_not ?_ | refine o_pickt ?_ | refine o_pickf ?_ | refine skF ?_ | refine skU ?_ | refine ct_ret ⟨.inr rfl, ?_⟩ | refine cnd (fun _ => ?_) (fun _ => ?_) | (refine glook (fun _ => ?_) (fun _ => ?_) <;> first | refine cv0 (rright_vc x) ?_ | refine cv0 (rmeets_vc h1 x) ?_ | refine cv0 (rmeets_vc h2 x) ?_ | refine o_copy ?_ | refine o_loads ?_ | refine o_loadp ?_ | refine o_faddr ?_ | refine o_loadsA ?_ | refine o_loadpA ?_ | refine o_box ?_ | refine o_not ?_ | refine o_pickt ?_ | refine o_pickf ?_ | refine skF ?_ | refine skU ?_)
  all_goals refine oB ?_
  all_goals simp_all [rallowsL]
end Go.Proofs
open Go.V Go.Pu
set_option linter.unusedVariables false
set_option linter.unusedSimpArgs false
set_option maxRecDepth 20000
namespace Go.Proofs
theorem grant_len (m : LockL → List LockL → Bool) : ∀ (r h w g : List LockL), (grantF m r h w g).1.length + (grantF m r h w g).2.1.length = h.length + w.length + r.length ∧ (grantF m r h w g).1.length = h.length + ((grantF m r h w g).2.2.length - g.length) ∧ g.length ≤ (grantF m r h w g).2.2.length
  | [], h, w, g => by simp [grantF]
  | x :: r, h, w, g => by
    rw [grantF]
    split
    · have := grant_len m r h (w ++ [x]) g
      simp only [List.length_append, List.length_cons, List.length_nil] at this ⊢
      omega
    · have := grant_len m r (h ++ [x]) w (g ++ [x])
      simp only [List.length_append, List.length_cons, List.length_nil] at this ⊢
      omega
theorem l_grn {hf : HF} {a b c : Bid} {h w g : List LockL} {e : Int} (ha : hf a = some (blkV 5 (h.map encL))) (hb : hf b = some (blkV 5 (w.map encL))) (hc : hf c = some (blkV 5 (g.map encL))) :
    lendV hf [] (.agg [ownV a (h.map encL), ownV b (w.map encL), ownV c (g.map encL), .int .i64 e]) = some ([a, b, c], .agg (encG h w g e)) := by
  have h1 : lendS hf [] (ownV a (h.map encL)) = some ([a], .sh false (h.map encL)) := l_own ha rfl
  have h2 : lendS hf [] (ownV b (w.map encL)) = some ([b], .sh false (w.map encL)) := l_own hb rfl
  have h3 : lendS hf [] (ownV c (g.map encL)) = some ([c], .sh false (g.map encL)) := l_own hc rfl
  simp only [lendV, lendSs]
  rw [h1, h2, h3]
  rfl
set_option maxHeartbeats 2000000 in
theorem rgrant_vc {l : LocksL} (hl : l.held.length + l.waits.length ≤ 20000) {h1 w1 g1 : List LockL} (hg : grantF rmt l.waits l.held [] [] = (h1, w1, g1)) : VC Try.prog 49 [.agg (encLs l)] [] (.agg (encG h1 w1 g1 0)) [] := by
  refine vc_close (hout := [blkV 5 (h1.map encL), blkV 5 (w1.map encL), blkV 5 (g1.map encL)]) (v := .agg [ownV ⟨0, 0⟩ (h1.map encL), ownV ⟨0, 1⟩ (w1.map encL), ownV ⟨0, 2⟩ (g1.map encL), .int .i64 0]) ?_ (l_grn rfl rfl rfl)
  refine vc_of vf49 ?_ (Nat.le_of_ble_eq_true rfl) (by intro vs h; cases h)
  repeat first | refine o_copy ?_ | refine nl ?_ | refine ct_seq ?_ | refine rg ?_ | refine ct_block ?_ | refine bq ?_ | refine cv (copied_vc (l := l.held) (by omega)) ?_ | refine o_loads ?_ | refine o_loadp ?_ | refine o_faddr ?_ | refine o_iaddr ?_ | refine o_iaddrO ?_ | refine o_iaddrR ?_ | refine o_add ?_ | refine o_cat ?_ | refine o_bin ?_ | refine o_lenq ?_ | refine o_len ?_ | refine o_loadsA ?_ | refine o_loadpA ?_ | refine o_box ?_ | refine o_alloc ?_ | refine o_bslice ?_ | refine o_store ?_ | refine o_pickt ?_ | refine o_pickf ?_ | refine o_build ?_ | refine skF ?_ | refine skU ?_
  refine ct_imp ((Imp.nilC (b := ⟨1, 7⟩) (b1 := ⟨1, 8232⟩) (esz := 5) 1 rfl rfl rfl (by decide)).trans (Imp.nilC (b := ⟨1, 9⟩) (b1 := ⟨1, 8232⟩) (esz := 5) 2 rfl rfl rfl (by decide))) ?_
  repeat first | refine o_copy ?_ | refine nl ?_ | refine ct_seq ?_ | refine rg ?_ | refine ct_block ?_ | refine bq ?_ | refine o_loads ?_ | refine o_loadp ?_ | refine o_faddr ?_ | refine o_iaddr ?_ | refine o_iaddrO ?_ | refine o_iaddrR ?_ | refine o_add ?_ | refine o_cat ?_ | refine o_bin ?_ | refine o_lenq ?_ | refine o_len ?_ | refine o_loadsA ?_ | refine o_loadpA ?_ | refine o_box ?_ | refine o_alloc ?_ | refine o_bslice ?_ | refine o_store ?_ | refine o_pickt ?_ | refine o_pickf ?_ | refine o_build ?_ | refine skF ?_ | refine skU ?_
  refine ct_loopG (fun (g : Nat × List LockL × List LockL × List LockL) => [(1, .ptr ⟨1, 0⟩ 1 0 0), (2, .ptr ⟨1, 8⟩ 1 0 0), (3, .ptr ⟨1, 8232⟩ 1 0 0), (4, .int .i64 g.1)])
    (fun g => [(⟨1, 0⟩, ⟨true, false, 2, [encLs l]⟩), (⟨1, 8⟩, ⟨true, false, 4, [[.nils, .nils, .nils, .int .i64 0]]⟩), (⟨1, 8232⟩, ⟨true, false, 4, [[ownV ⟨1, 8208⟩ (g.2.1.map encL), ownV ⟨1, 7⟩ (g.2.2.1.map encL), ownV ⟨1, 9⟩ (g.2.2.2.map encL), .int .i64 0]]⟩),
      (⟨1, 8208⟩, blkV 5 (g.2.1.map encL)), (⟨1, 7⟩, blkV 5 (g.2.2.1.map encL)), (⟨1, 9⟩, blkV 5 (g.2.2.2.map encL))]) (fun g => l.waits.length - g.1)
    (fun g => g.1 ≤ l.waits.length ∧ grantF rmt (l.waits.drop g.1) g.2.1 g.2.2.1 g.2.2.2 = (h1, w1, g1) ∧ g.2.1.length + g.2.2.1.length + g.2.2.2.length ≤ l.held.length + g.1 + g.1) (0, l.held, [], []) goesD ⟨Nat.zero_le _, hg, by simp⟩ ?_
  rintro ⟨i, h, w, g⟩ ⟨hi, hv, hn⟩
  dsimp only at hi hv hn ⊢
  repeat first | refine o_copy ?_ | refine nl ?_ | refine ct_seq ?_ | refine rg ?_ | refine ct_block ?_ | refine bq ?_ | refine o_loads ?_ | refine o_loadp ?_ | refine o_faddr ?_ | refine o_iaddr ?_ | refine o_iaddrO ?_ | refine o_iaddrR ?_ | refine o_add ?_ | refine o_cat ?_ | refine o_bin ?_ | refine o_lenq ?_ | refine o_len ?_ | refine o_loadsA ?_ | refine o_loadpA ?_ | refine o_box ?_ | refine o_alloc ?_ | refine o_bslice ?_ | refine o_store ?_ | refine o_pickt ?_ | refine o_pickf ?_ | refine o_build ?_ | refine skF ?_ | refine skU ?_
  refine cnd (fun hh => ct_skip ?_) (fun hh => ct_exit ?_)
  · have hlt : i < l.waits.length := by have h' := of_decide_eq_true hh; simp only [List.length_map] at h'; omega
    obtain ⟨x, hx⟩ : ∃ y, l.waits[i]? = some y := ⟨_, List.getElem?_eq_getElem hlt⟩
    have hxe := gm (enc := encL) (n := (i : Int)) hx (by omega)
    rw [drop_get hx, grantF] at hv
    have c1 := rmeets_vc (l := h) (by omega) x
    have c2 := rmeets_vc (l := w) (by omega) x
    cases hA : rmeetsL h x with
    | true =>
      rw [if_pos (by simp [rmt, hA])] at hv
      rw [hA] at c1
      repeat first | refine o_copy ?_ | refine nl ?_ | refine ct_seq ?_ | refine rg ?_ | refine ct_block ?_ | refine bq ?_ | refine cv0 c1 ?_ | refine o_loads ?_ | refine o_loadp ?_ | refine o_faddr ?_ | refine o_iaddr ?_ | refine o_iaddrO ?_ | refine o_iaddrR ?_ | refine o_add ?_ | refine o_cat ?_ | refine o_bin ?_ | refine o_lenq ?_ | refine o_len ?_ | refine o_loadsA ?_ | refine o_loadpA ?_ | refine o_box ?_ | refine o_alloc ?_ | refine o_bslice ?_ | refine o_store ?_ | refine o_pickt ?_ | refine o_pickf ?_ | refine o_build ?_ | refine skF ?_ | refine skU ?_
      refine cndt ?_
      repeat first | refine o_copy ?_ | refine nl ?_ | refine ct_seq ?_ | refine rg ?_ | refine ct_block ?_ | refine bq ?_ | refine o_v (vap encL x) ?_ | refine o_loads ?_ | refine o_loadp ?_ | refine o_faddr ?_ | refine o_iaddr ?_ | refine o_iaddrO ?_ | refine o_iaddrR ?_ | refine o_add ?_ | refine o_cat ?_ | refine o_bin ?_ | refine o_lenq ?_ | refine o_len ?_ | refine o_loadsA ?_ | refine o_loadpA ?_ | refine o_box ?_ | refine o_alloc ?_ | refine o_bslice ?_ | refine o_store ?_ | refine o_pickt ?_ | refine o_pickf ?_ | refine o_build ?_ | refine skF ?_ | refine skU ?_
      exact agn (i + 1, h, w ++ [x], g) ⟨by simp only; omega, hv, by simp only [List.length_append, List.length_cons, List.length_nil]; omega⟩ goesD
    | false =>
      rw [hA] at c1
      cases hB : rmeetsL w x with
      | true =>
        rw [if_pos (by simp [rmt, hB])] at hv
        rw [hB] at c2
        repeat first | refine o_copy ?_ | refine nl ?_ | refine ct_seq ?_ | refine rg ?_ | refine ct_block ?_ | refine bq ?_ | refine cv0 c1 ?_ | refine cv0 c2 ?_ | refine o_loads ?_ | refine o_loadp ?_ | refine o_faddr ?_ | refine o_iaddr ?_ | refine o_iaddrO ?_ | refine o_iaddrR ?_ | refine o_add ?_ | refine o_cat ?_ | refine o_bin ?_ | refine o_lenq ?_ | refine o_len ?_ | refine o_loadsA ?_ | refine o_loadpA ?_ | refine o_box ?_ | refine o_alloc ?_ | refine o_bslice ?_ | refine o_store ?_ | refine o_pickt ?_ | refine o_pickf ?_ | refine o_build ?_ | refine skF ?_ | refine skU ?_
        refine cndt ?_
        repeat first | refine o_copy ?_ | refine nl ?_ | refine ct_seq ?_ | refine rg ?_ | refine ct_block ?_ | refine bq ?_ | refine o_v (vap encL x) ?_ | refine o_loads ?_ | refine o_loadp ?_ | refine o_faddr ?_ | refine o_iaddr ?_ | refine o_iaddrO ?_ | refine o_iaddrR ?_ | refine o_add ?_ | refine o_cat ?_ | refine o_bin ?_ | refine o_lenq ?_ | refine o_len ?_ | refine o_loadsA ?_ | refine o_loadpA ?_ | refine o_box ?_ | refine o_alloc ?_ | refine o_bslice ?_ | refine o_store ?_ | refine o_pickt ?_ | refine o_pickf ?_ | refine o_build ?_ | refine skF ?_ | refine skU ?_
        exact agn (i + 1, h, w ++ [x], g) ⟨by simp only; omega, hv, by simp only [List.length_append, List.length_cons, List.length_nil]; omega⟩ goesD
      | false =>
        rw [if_neg (by simp [rmt, hA, hB])] at hv
        rw [hB] at c2
        repeat first | refine o_copy ?_ | refine nl ?_ | refine ct_seq ?_ | refine rg ?_ | refine ct_block ?_ | refine bq ?_ | refine cv0 c1 ?_ | refine cv0 c2 ?_ | refine o_loads ?_ | refine o_loadp ?_ | refine o_faddr ?_ | refine o_iaddr ?_ | refine o_iaddrO ?_ | refine o_iaddrR ?_ | refine o_add ?_ | refine o_cat ?_ | refine o_bin ?_ | refine o_lenq ?_ | refine o_len ?_ | refine o_loadsA ?_ | refine o_loadpA ?_ | refine o_box ?_ | refine o_alloc ?_ | refine o_bslice ?_ | refine o_store ?_ | refine o_pickt ?_ | refine o_pickf ?_ | refine o_build ?_ | refine skF ?_ | refine skU ?_
        refine cndf ?_
        repeat first | refine o_copy ?_ | refine nl ?_ | refine ct_seq ?_ | refine rg ?_ | refine ct_block ?_ | refine bq ?_ | refine o_v (vap encL x) ?_ | refine o_loads ?_ | refine o_loadp ?_ | refine o_faddr ?_ | refine o_iaddr ?_ | refine o_iaddrO ?_ | refine o_iaddrR ?_ | refine o_add ?_ | refine o_cat ?_ | refine o_bin ?_ | refine o_lenq ?_ | refine o_len ?_ | refine o_loadsA ?_ | refine o_loadpA ?_ | refine o_box ?_ | refine o_alloc ?_ | refine o_bslice ?_ | refine o_store ?_ | refine o_pickt ?_ | refine o_pickf ?_ | refine o_build ?_ | refine skF ?_ | refine skU ?_
        exact agn (i + 1, h ++ [x], w, g ++ [x]) ⟨by simp only; omega, hv, by simp only [List.length_append, List.length_cons, List.length_nil]; omega⟩ goesD
  · have hge : i = l.waits.length := by have h' := of_decide_eq_false hh; simp only [List.length_map] at h'; omega
    subst hge
    simp only [List.drop_length, grantF, Prod.mk.injEq] at hv
    obtain ⟨rfl, rfl, rfl⟩ := hv
    repeat first | refine o_copy ?_ | refine nl ?_ | refine ct_seq ?_ | refine rg ?_ | refine ct_block ?_ | refine bq ?_ | refine o_loads ?_ | refine o_loadp ?_ | refine o_faddr ?_ | refine o_iaddr ?_ | refine o_iaddrO ?_ | refine o_iaddrR ?_ | refine o_add ?_ | refine o_cat ?_ | refine o_bin ?_ | refine o_lenq ?_ | refine o_len ?_ | refine o_loadsA ?_ | refine o_loadpA ?_ | refine o_box ?_ | refine o_alloc ?_ | refine o_bslice ?_ | refine o_store ?_ | refine o_pickt ?_ | refine o_pickf ?_ | refine o_build ?_ | refine skF ?_ | refine skU ?_
    refine ct_ret ⟨.inr rfl, ?_⟩
    exact oG [⟨1, 8208⟩, ⟨1, 7⟩, ⟨1, 9⟩] (v' := .agg [ownV ⟨0, 0⟩ (h.map encL), ownV ⟨0, 1⟩ (w.map encL), ownV ⟨0, 2⟩ (g.map encL), .int .i64 0])
end Go.Proofs
open Go.V Go.Pu
set_option linter.unusedVariables false
set_option linter.unusedSimpArgs false
set_option maxRecDepth 20000
namespace Go.Proofs
/-- downspout/downspoutref32.next -/
def vc40 : VCode :=
 (.seq
 (.region 0 false [
 ⟨(some 2), .box (.t 0), none, 0, []⟩,
 ⟨(some 4), .copy (.c .nils), none, 8, []⟩])
 (.seq
 (.region 1 false [
 ⟨(some 9), .bslice 1 [(.int .i64 0)] 0 [], none, 8192, []⟩,
 ⟨(some 5), .copy (.t 9), none, 8200, [0]⟩])
 (.seq
 (.seq
 (.region 2 false [
 ⟨(some 6), .copy (.c (.int .i64 0)), none, 16384, []⟩])
 (.block 0
 (.loop
 (.seq
 (.seq
 (.region 3 false [
 ⟨(some 10), .copy (.t 6), none, 24576, []⟩,
 ⟨(some 11), .faddr 1 (.t 2), none, 24584, []⟩,
 ⟨(some 12), .load false 1 (.t 11), none, 24592, [1]⟩,
 ⟨(some 13), .len (.t 12), none, 24600, [2, 1]⟩,
 ⟨(some 14), .bin .lss (.t 10) (.t 13), none, 24608, [0, 3, 2, 1]⟩])
 (.cond (.t 14)
 .skip
 (.exit 0)))
 (.seq
 (.block 1
 (.seq
 (.seq
 (.region 5 false [
 ⟨(some 17), .faddr 1 (.t 2), none, 40960, []⟩,
 ⟨(some 18), .load false 1 (.t 17), none, 40968, [0]⟩,
 ⟨(some 19), .copy (.t 6), none, 40976, []⟩,
 ⟨(some 20), .iaddr 5 (.t 18) (.t 19), none, 40984, [1, 0, 2]⟩,
 ⟨(some 21), .faddr 0 (.t 20), none, 40992, [3, 1, 0, 2]⟩,
 ⟨(some 22), .load false 1 (.t 21), none, 41000, [4, 3, 1, 0, 2]⟩,
 ⟨(some 23), .copy (.t 1), none, 41008, []⟩,
 ⟨(some 24), .bin .neq (.t 22) (.t 23), none, 41016, [5, 4, 3, 1, 0, 2, 6]⟩])
 (.cond (.t 24)
 (.exit 1)
 .skip))
 (.seq
 (.region 6 true [
 ⟨(some 25), .faddr 0 (.t 2), none, 49152, []⟩,
 ⟨(some 26), .load false 1 (.t 25), none, 49160, [0]⟩,
 ⟨(some 27), .call (.c (.fn 47 [])) [(.t 26)], none, 49168, [1, 0]⟩,
 ⟨(some 28), .faddr 1 (.t 2), none, 49176, []⟩,
 ⟨(some 29), .load false 1 (.t 28), none, 49184, [3]⟩,
 ⟨(some 30), .copy (.t 6), none, 49192, []⟩,
 ⟨(some 31), .slsl 5 (.t 29) none (some (.t 30)) none, none, 49200, [4, 3, 5]⟩,
 ⟨(some 32), .append 5 48 [(.int .i64 0), (.str []), (.int .i64 0), (.int .i64 0), (.bool false)] (.t 27) (.t 31), none, 49208, [2, 1, 0, 6, 4, 3, 5]⟩,
 ⟨(some 7), .copy (.t 32), none, 49216, [7, 2, 1, 0, 6, 4, 3, 5]⟩])
 (.seq
 (.region 7 false [
 ⟨(some 8), .copy (.c (.int .i64 0)), none, 57344, []⟩])
 (.block 2
 (.loop
 (.seq
 (.seq
 (.region 8 false [
 ⟨(some 33), .copy (.t 8), none, 65536, []⟩,
 ⟨(some 34), .copy (.t 7), none, 65544, []⟩,
 ⟨(some 35), .len (.t 34), none, 65552, [1]⟩,
 ⟨(some 36), .bin .lss (.t 33) (.t 35), none, 65560, [0, 2, 1]⟩])
 (.cond (.t 36)
 .skip
 (.exit 2)))
 (.seq
 (.block 3
 (.seq
 (.region 10 true [
 ⟨(some 39), .copy (.t 7), none, 81920, []⟩,
 ⟨(some 40), .copy (.t 8), none, 81928, []⟩,
 ⟨(some 41), .iaddr 5 (.t 39) (.t 40), none, 81936, [0, 1]⟩,
 ⟨(some 42), .load true 5 (.t 41), none, 81944, [2, 0, 1]⟩,
 ⟨(some 43), .faddr 1 (.t 2), none, 81952, []⟩,
 ⟨(some 44), .load false 1 (.t 43), none, 81960, [4]⟩,
 ⟨(some 45), .copy (.t 6), none, 81968, []⟩,
 ⟨(some 46), .iaddr 5 (.t 44) (.t 45), none, 81976, [5, 4, 6]⟩,
 ⟨(some 47), .load true 5 (.t 46), none, 81984, [7, 5, 4, 6]⟩,
 ⟨(some 48), .call (.c (.fn 54 [])) [(.t 42), (.t 47)], none, 81992, [3, 2, 0, 1, 8, 7, 5, 4, 6]⟩])
 (.cond (.t 48)
 (.region 11 false [
 ⟨(some 49), .copy (.t 5), none, 90112, []⟩,
 ⟨(some 50), .copy (.t 7), none, 90120, []⟩,
 ⟨(some 51), .copy (.t 8), none, 90128, []⟩,
 ⟨(some 52), .iaddr 5 (.t 50) (.t 51), none, 90136, [1, 2]⟩,
 ⟨(some 53), .faddr 0 (.t 52), none, 90144, [3, 1, 2]⟩,
 ⟨(some 54), .load false 1 (.t 53), none, 90152, [4, 3, 1, 2]⟩,
 ⟨(some 55), .bslice 1 [(.int .i64 0)] 1 [(0, (.t 54))], none, 90160, [5, 4, 3, 1, 2]⟩,
 ⟨(some 56), .append 1 8 [(.int .i64 0)] (.t 49) (.t 55), none, 90168, [0, 6, 5, 4, 3, 1, 2]⟩,
 ⟨(some 5), .copy (.t 56), none, 90176, [7, 0, 6, 5, 4, 3, 1, 2]⟩])
 .skip)))
 (.region 9 false [
 ⟨(some 37), .copy (.t 8), none, 73728, []⟩,
 ⟨(some 38), .bin .add (.t 37) (.c (.int .i64 1)), none, 73736, [0]⟩,
 ⟨(some 8), .copy (.t 38), none, 73744, [1, 0]⟩])))))))))
 (.region 4 false [
 ⟨(some 15), .copy (.t 6), none, 32768, []⟩,
 ⟨(some 16), .bin .add (.t 15) (.c (.int .i64 1)), none, 32776, [0]⟩,
 ⟨(some 6), .copy (.t 16), none, 32784, [1, 0]⟩]))))))
 (.seq
 (.region 12 false [
 ⟨(some 57), .copy (.t 5), none, 98304, []⟩,
 ⟨(some 4), .copy (.t 57), none, 98312, [0]⟩])
 .ret))))
theorem vf40 : VF Try.prog 40 = some (58, vc40, [.tmp 4]) := by kernel_rfl
/-- downspout/downspoutref32.Circle -/
def vc18 : VCode :=
 (.seq
 (.region 0 false [
 ⟨(some 2), .box (.t 0), none, 0, []⟩,
 ⟨(some 4), .copy (.c (.bool false)), none, 8, []⟩])
 (.seq
 (.region 1 false [
 ⟨(some 8), .load true 2 (.t 2), none, 8192, []⟩,
 ⟨(some 9), .copy (.t 1), none, 8200, []⟩,
 ⟨(some 10), .call (.c (.fn 40 [])) [(.t 8), (.t 9)], none, 8208, [0, 1]⟩,
 ⟨(some 11), .bslice 1 [(.int .i64 0)] 0 [], none, 8216, []⟩,
 ⟨(some 5), .copy (.t 10), none, 8224, [2, 0, 1]⟩,
 ⟨(some 6), .copy (.t 11), none, 8232, [3, 4, 2, 0, 1]⟩])
 (.seq
 (.block 0
 (.loop
 (.seq
 (.seq
 (.region 2 false [
 ⟨(some 12), .copy (.t 5), none, 16384, []⟩,
 ⟨(some 13), .len (.t 12), none, 16392, [0]⟩,
 ⟨(some 14), .bin .gtr (.t 13) (.c (.int .i64 0)), none, 16400, [1, 0]⟩])
 (.cond (.t 14)
 .skip
 (.exit 0)))
 (.block 1
 (.seq
 (.region 3 false [
 ⟨(some 15), .copy (.t 5), none, 24576, []⟩,
 ⟨(some 16), .iaddr 1 (.t 15) (.c (.int .i64 0)), none, 24584, [0]⟩,
 ⟨(some 17), .load false 1 (.t 16), none, 24592, [1, 0]⟩,
 ⟨(some 7), .copy (.t 17), none, 24600, [2, 1, 0]⟩])
 (.seq
 (.region 4 false [
 ⟨(some 18), .copy (.t 5), none, 32768, []⟩,
 ⟨(some 19), .slsl 1 (.t 18) (some (.c (.int .i64 1))) none none, none, 32776, [0]⟩,
 ⟨(some 5), .copy (.t 19), none, 32784, [1, 0]⟩])
 (.seq
 (.seq
 (.region 5 false [
 ⟨(some 20), .copy (.t 7), none, 40960, []⟩,
 ⟨(some 21), .copy (.t 1), none, 40968, []⟩,
 ⟨(some 22), .bin .eql (.t 20) (.t 21), none, 40976, [0, 1]⟩])
 (.cond (.t 22)
 (.seq
 (.region 6 false [
 ⟨(some 4), .copy (.c (.bool true)), none, 49152, []⟩])
 .ret)
 .skip))
 (.seq
 (.region 7 false [
 ⟨(some 23), .copy (.t 6), none, 57344, []⟩,
 ⟨(some 24), .copy (.t 7), none, 57352, []⟩,
 ⟨(some 25), .call (.c (.fn 41 [])) [(.t 23), (.t 24)], none, 57360, [0, 1]⟩,
 ⟨(some 26), .not (.t 25), none, 57368, [2, 0, 1]⟩])
 (.cond (.t 26)
 (.seq
 (.region 8 false [
 ⟨(some 27), .copy (.t 6), none, 65536, []⟩,
 ⟨(some 28), .copy (.t 7), none, 65544, []⟩,
 ⟨(some 29), .bslice 1 [(.int .i64 0)] 1 [(0, (.t 28))], none, 65552, [1]⟩,
 ⟨(some 30), .append 1 8 [(.int .i64 0)] (.t 27) (.t 29), none, 65560, [0, 2, 1]⟩,
 ⟨(some 6), .copy (.t 30), none, 65568, [3, 0, 2, 1]⟩])
 (.region 9 true [
 ⟨(some 31), .bslice 1 [(.int .i64 0)] 0 [], none, 73728, []⟩,
 ⟨(some 32), .copy (.t 5), none, 73736, []⟩,
 ⟨(some 33), .append 1 8 [(.int .i64 0)] (.t 31) (.t 32), none, 73744, [0, 1]⟩,
 ⟨(some 34), .load true 2 (.t 2), none, 73752, []⟩,
 ⟨(some 35), .copy (.t 7), none, 73760, []⟩,
 ⟨(some 36), .call (.c (.fn 40 [])) [(.t 34), (.t 35)], none, 73768, [3, 4, 2, 0, 1]⟩,
 ⟨(some 37), .append 1 8 [(.int .i64 0)] (.t 33) (.t 36), none, 73776, [2, 0, 1, 5, 3, 4]⟩,
 ⟨(some 5), .copy (.t 37), none, 73784, [6, 2, 0, 1, 5, 3, 4]⟩]))
 .skip)))))))))
 (.seq
 (.region 10 false [
 ⟨(some 4), .copy (.c (.bool false)), none, 81920, []⟩])
 .ret))))
theorem vf18 : VF Try.prog 18 = some (38, vc18, [.tmp 4]) := by kernel_rfl
set_option maxHeartbeats 4000000 in
theorem rnext_vc {l : LocksL} (hl : l.held.length + l.waits.length ≤ 20000) (o : Int) : VC Try.prog 40 [.agg (encLs l), .int .i64 o] [] (ownV ⟨0, 0⟩ ((nextL l o).map encI)) [blkV 1 ((nextL l o).map encI)] := by
  have hlen := nextL_len l o
  have hb : (nextL l o).length ≤ 400000000 := Nat.le_trans hlen (Nat.le_trans (Nat.mul_le_mul (show l.waits.length ≤ 20000 by omega) hl) (by omega))
  clear hlen
  refine vc_of vf40 ?_ (Nat.le_of_ble_eq_true rfl) (by intro vs h; cases h)
  repeat first | refine o_copy ?_ | refine nl ?_ | refine ct_seq ?_ | refine rg ?_ | refine ct_block ?_ | refine bq ?_ | refine o_loads ?_ | refine o_loadp ?_ | refine o_faddr ?_ | refine o_iaddr ?_ | refine o_iaddrO ?_ | refine o_iaddrR ?_ | refine o_add ?_ | refine o_cat ?_ | refine o_bin ?_ | refine o_lenq ?_ | refine o_len ?_ | refine o_loadsA ?_ | refine o_loadpA ?_ | refine o_box ?_ | refine o_bslice ?_
  refine ct_loopG (fun (g : Nat × List Int) => [(1, .int .i64 o), (2, .ptr ⟨1, 0⟩ 1 0 0), (5, ownV ⟨1, 8192⟩ (g.2.map encI)), (6, .int .i64 g.1)])
    (fun g => [(⟨1, 0⟩, ⟨true, false, 2, [encLs l]⟩), (⟨1, 8192⟩, blkV 1 (g.2.map encI))]) (fun g => l.waits.length - g.1)
    (fun g => g.1 ≤ l.waits.length ∧ g.2 ++ nextW rconfL l.held o (l.waits.take g.1) (l.waits.drop g.1) = nextL l o) (0, []) goesD ⟨Nat.zero_le _, rfl⟩ ?_
  rintro ⟨i, out⟩ ⟨hi, hv⟩
  dsimp only at hi hv ⊢
  have ho : out.length ≤ (nextL l o).length := by rw [← hv]; simp
  repeat first | refine o_copy ?_ | refine nl ?_ | refine ct_seq ?_ | refine rg ?_ | refine ct_block ?_ | refine bq ?_ | refine o_loads ?_ | refine o_loadp ?_ | refine o_faddr ?_ | refine o_iaddr ?_ | refine o_iaddrO ?_ | refine o_iaddrR ?_ | refine o_add ?_ | refine o_cat ?_ | refine o_bin ?_ | refine o_lenq ?_ | refine o_len ?_ | refine o_loadsA ?_ | refine o_loadpA ?_ | refine o_box ?_ | refine o_bslice ?_
  refine cnd (fun hh => ct_skip ?_) (fun hh => ct_exit ?_)
  · have hlt : i < l.waits.length := by have h' := of_decide_eq_true hh; simp only [List.length_map] at h'; omega
    obtain ⟨x, hx⟩ : ∃ y, l.waits[i]? = some y := ⟨_, List.getElem?_eq_getElem hlt⟩
    have hxe := gm (enc := encL) (n := (i : Int)) hx (by omega)
    have htk : l.waits.take (i + 1) = l.waits.take i ++ [x] := by rw [List.take_add_one, hx]; rfl
    rw [drop_get hx, nextW, ← htk] at hv
    repeat first | refine o_copy ?_ | refine nl ?_ | refine ct_seq ?_ | refine rg ?_ | refine ct_block ?_ | refine bq ?_ | refine o_loads ?_ | refine o_loadp ?_ | refine o_faddr ?_ | refine o_iaddr ?_ | refine o_iaddrO ?_ | refine o_iaddrR ?_ | refine o_add ?_ | refine o_cat ?_ | refine o_bin ?_ | refine o_lenq ?_ | refine o_len ?_ | refine o_loadsA ?_ | refine o_loadpA ?_ | refine o_box ?_ | refine o_bslice ?_
    refine cnd (fun h2 => ct_exit ?_) (fun h2 => ct_skip ?_)
    · have h2 : ¬ x.own = o := by simpa using h2
      rw [if_neg h2, List.nil_append] at hv
      repeat first | refine o_copy ?_ | refine nl ?_ | refine ct_seq ?_ | refine rg ?_ | refine ct_block ?_ | refine bq ?_ | refine o_loads ?_ | refine o_loadp ?_ | refine o_faddr ?_ | refine o_iaddr ?_ | refine o_iaddrO ?_ | refine o_iaddrR ?_ | refine o_add ?_ | refine o_cat ?_ | refine o_bin ?_ | refine o_lenq ?_ | refine o_len ?_ | refine o_loadsA ?_ | refine o_loadpA ?_ | refine o_box ?_ | refine o_bslice ?_
      exact agn (i + 1, out) ⟨by simp only; omega, hv⟩ goesD
    · have h2 : x.own = o := by simpa using h2
      rw [if_pos h2] at hv
      have hc := copied_vc (l := l.held) (by omega)
      have h1 : (l.waits.take i).length ≤ l.waits.length := by rw [List.length_take]; omega
      have hbl : (l.held ++ l.waits.take i).length ≤ 20000 := by rw [List.length_append]; omega
      refine ct_seq (rg ?_)
      repeat first | refine o_copy ?_ | refine o_v (slL l.waits 0 i (Nat.zero_le _) (by omega)) ?_ | refine cv hc ?_ | refine o_v (vaps encL l.held (l.waits.take i)) ?_ | refine o_loads ?_ | refine o_loadp ?_ | refine o_faddr ?_ | refine o_iaddr ?_ | refine o_iaddrO ?_ | refine o_iaddrR ?_ | refine o_add ?_ | refine o_cat ?_ | refine o_bin ?_ | refine o_lenq ?_ | refine o_len ?_ | refine o_loadsA ?_ | refine o_loadpA ?_ | refine o_box ?_ | refine o_bslice ?_
      refine nl ?_
      repeat first | refine o_copy ?_ | refine nl ?_ | refine ct_seq ?_ | refine rg ?_ | refine ct_block ?_ | refine bq ?_ | refine o_loads ?_ | refine o_loadp ?_ | refine o_faddr ?_ | refine o_iaddr ?_ | refine o_iaddrO ?_ | refine o_iaddrR ?_ | refine o_add ?_ | refine o_cat ?_ | refine o_bin ?_ | refine o_lenq ?_ | refine o_len ?_ | refine o_loadsA ?_ | refine o_loadpA ?_ | refine o_box ?_ | refine o_bslice ?_
      refine ct_loopG (fun (g : Nat × List Int) => [(1, .int .i64 o), (2, .ptr ⟨1, 0⟩ 1 0 0), (5, ownV ⟨1, 8192⟩ (g.2.map encI)), (6, .int .i64 i), (7, ownV ⟨1, 49168⟩ ((l.held ++ l.waits.take i).map encL)), (8, .int .i64 g.1)])
        (fun g => [(⟨1, 0⟩, ⟨true, false, 2, [encLs l]⟩), (⟨1, 8192⟩, blkV 1 (g.2.map encI)), (⟨1, 49168⟩, blkV 5 ((l.held ++ l.waits.take i).map encL))]) (fun g => (l.held ++ l.waits.take i).length - g.1)
        (fun g => g.1 ≤ (l.held ++ l.waits.take i).length ∧ g.2 ++ ((((l.held ++ l.waits.take i).drop g.1).filter fun y => rconfL y x).map (·.own) ++ nextW rconfL l.held o (l.waits.take (i + 1)) (l.waits.drop (i + 1))) = nextL l o) (0, out) goesD ⟨Nat.zero_le _, by simpa using hv⟩ ?_
      rintro ⟨k, out2⟩ ⟨hk, hw⟩
      dsimp only at hk hw ⊢
      have ho2 : out2.length ≤ (nextL l o).length := by rw [← hw]; simp
      repeat first | refine o_copy ?_ | refine nl ?_ | refine ct_seq ?_ | refine rg ?_ | refine ct_block ?_ | refine bq ?_ | refine o_loads ?_ | refine o_loadp ?_ | refine o_faddr ?_ | refine o_iaddr ?_ | refine o_iaddrO ?_ | refine o_iaddrR ?_ | refine o_add ?_ | refine o_cat ?_ | refine o_bin ?_ | refine o_lenq ?_ | refine o_len ?_ | refine o_loadsA ?_ | refine o_loadpA ?_ | refine o_box ?_ | refine o_bslice ?_
      refine cnd (fun h3 => ct_skip ?_) (fun h3 => ct_exit ?_)
      · have hlt2 : k < (l.held ++ l.waits.take i).length := by have h' := of_decide_eq_true h3; simp only [List.length_map] at h'; omega
        obtain ⟨y, hy⟩ : ∃ y, (l.held ++ l.waits.take i)[k]? = some y := ⟨_, List.getElem?_eq_getElem hlt2⟩
        have hye := gm (enc := encL) (n := (k : Int)) hy (by omega)
        have hlt3 : (k : Int) < (((l.held ++ l.waits.take i).map encL).length : Nat) := by rw [List.length_map]; omega
        rw [drop_get hy, List.filter_cons] at hw
        have hrc := rconf_vc y x
        cases hcf : rconfL y x with
        | true =>
          rw [hcf] at hrc
          rw [hcf] at hw
          repeat first | refine o_copy ?_ | refine nl ?_ | refine ct_seq ?_ | refine rg ?_ | refine ct_block ?_ | refine bq ?_ | refine cv0 hrc ?_ | refine o_loads ?_ | refine o_loadp ?_ | refine o_faddr ?_ | refine o_iaddr ?_ | refine o_iaddrO ?_ | refine o_iaddrR ?_ | refine o_add ?_ | refine o_cat ?_ | refine o_bin ?_ | refine o_lenq ?_ | refine o_len ?_ | refine o_loadsA ?_ | refine o_loadpA ?_ | refine o_box ?_ | refine o_bslice ?_
          refine cndt ?_
          repeat first | refine o_copy ?_ | refine nl ?_ | refine ct_seq ?_ | refine rg ?_ | refine ct_block ?_ | refine bq ?_ | refine o_v (vap encI y.own) ?_ | refine o_loads ?_ | refine o_loadp ?_ | refine o_faddr ?_ | refine o_iaddr ?_ | refine o_iaddrO ?_ | refine o_iaddrR ?_ | refine o_add ?_ | refine o_cat ?_ | refine o_bin ?_ | refine o_lenq ?_ | refine o_len ?_ | refine o_loadsA ?_ | refine o_loadpA ?_ | refine o_box ?_ | refine o_bslice ?_
          exact agn (k + 1, out2 ++ [y.own]) ⟨by simp only; omega, by simpa using hw⟩ goesD
        | false =>
          rw [hcf] at hrc
          rw [hcf] at hw
          repeat first | refine o_copy ?_ | refine nl ?_ | refine ct_seq ?_ | refine rg ?_ | refine ct_block ?_ | refine bq ?_ | refine cv0 hrc ?_ | refine o_loads ?_ | refine o_loadp ?_ | refine o_faddr ?_ | refine o_iaddr ?_ | refine o_iaddrO ?_ | refine o_iaddrR ?_ | refine o_add ?_ | refine o_cat ?_ | refine o_bin ?_ | refine o_lenq ?_ | refine o_len ?_ | refine o_loadsA ?_ | refine o_loadpA ?_ | refine o_box ?_ | refine o_bslice ?_
          refine cndf (ct_skip ?_)
          repeat first | refine o_copy ?_ | refine nl ?_ | refine ct_seq ?_ | refine rg ?_ | refine ct_block ?_ | refine bq ?_ | refine o_loads ?_ | refine o_loadp ?_ | refine o_faddr ?_ | refine o_iaddr ?_ | refine o_iaddrO ?_ | refine o_iaddrR ?_ | refine o_add ?_ | refine o_cat ?_ | refine o_bin ?_ | refine o_lenq ?_ | refine o_len ?_ | refine o_loadsA ?_ | refine o_loadpA ?_ | refine o_box ?_ | refine o_bslice ?_
          exact agn (k + 1, out2) ⟨by simp only; omega, by simpa using hw⟩ goesD
      · have hge : k = (l.held ++ l.waits.take i).length := by have h' := of_decide_eq_false h3; simp only [List.length_map] at h'; omega
        subst hge
        simp only [List.drop_length, List.filter_nil, List.map_nil, List.nil_append] at hw
        repeat first | refine o_copy ?_ | refine nl ?_ | refine ct_seq ?_ | refine rg ?_ | refine ct_block ?_ | refine bq ?_ | refine o_loads ?_ | refine o_loadp ?_ | refine o_faddr ?_ | refine o_iaddr ?_ | refine o_iaddrO ?_ | refine o_iaddrR ?_ | refine o_add ?_ | refine o_cat ?_ | refine o_bin ?_ | refine o_lenq ?_ | refine o_len ?_ | refine o_loadsA ?_ | refine o_loadpA ?_ | refine o_box ?_ | refine o_bslice ?_
        exact agn (i + 1, out2) ⟨by simp only; omega, hw⟩ goesD
  · have hge : i = l.waits.length := by have h' := of_decide_eq_false hh; simp only [List.length_map] at h'; omega
    subst hge
    simp only [List.drop_length, nextW, List.append_nil] at hv
    subst hv
    repeat first | refine o_copy ?_ | refine nl ?_ | refine ct_seq ?_ | refine rg ?_ | refine ct_block ?_ | refine bq ?_ | refine o_loads ?_ | refine o_loadp ?_ | refine o_faddr ?_ | refine o_iaddr ?_ | refine o_iaddrO ?_ | refine o_iaddrR ?_ | refine o_add ?_ | refine o_cat ?_ | refine o_bin ?_ | refine o_lenq ?_ | refine o_len ?_ | refine o_loadsA ?_ | refine o_loadpA ?_ | refine o_box ?_ | refine o_bslice ?_
    exact ct_ret ⟨.inr rfl, oOwn rfl⟩
theorem unk_nil {os ks : List Int} : unk os ks ≤ os.length := List.length_filter_le _ _
set_option maxHeartbeats 4000000 in
theorem rcircle_vc {l : LocksL} (hl : l.held.length + l.waits.length ≤ 20000) (o : Int) : VC Try.prog 18 [.agg (encLs l), .int .i64 o] [] (.bool (cycB rconfL l o)) [] := by
  have hnl : ∀ x, (nextL l x).length ≤ 400000000 := fun x => Nat.le_trans (nextL_len l x) (Nat.le_trans (Nat.mul_le_mul (show l.waits.length ≤ 20000 by omega) hl) (by omega))
  have hu0 : ∀ ks, unk (ownersL l) ks ≤ 20000 := fun ks => Nat.le_trans unk_nil (by simp [ownersL]; omega)
  refine vc_of vf18 ?_ (Nat.le_of_ble_eq_true rfl) (by intro vs h; cases h)
  repeat first | refine o_copy ?_ | refine nl ?_ | refine ct_seq ?_ | refine rg ?_ | refine ct_block ?_ | refine bq ?_ | refine cv (rnext_vc hl o) ?_ | refine o_loads ?_ | refine o_loadp ?_ | refine o_iaddr ?_ | refine o_iaddrO ?_ | refine o_iaddrR ?_ | refine o_bin ?_ | refine o_lenq ?_ | refine o_len ?_ | refine o_loadsA ?_ | refine o_loadpA ?_ | refine o_box ?_ | refine o_bslice ?_ | refine o_not ?_
  refine ct_loopG (fun (g : List Int × List Int) => [(1, .int .i64 o), (2, .ptr ⟨1, 0⟩ 1 0 0), (5, .sh false (g.1.map encI)), (6, ownV ⟨1, 8216⟩ (g.2.map encI))])
    (fun g => [(⟨1, 0⟩, ⟨true, false, 2, [encLs l]⟩), (⟨1, 8216⟩, blkV 1 (g.2.map encI))]) (fun g => unk (ownersL l) g.2 * 400000001 + g.1.length)
    (fun g => Bfs l o g.1 g.2 ∧ g.1.length + unk (ownersL l) g.2 * 400000001 ≤ 20001 * 400000001 ∧ g.2.length + unk (ownersL l) g.2 ≤ 20000) (nextL l o, []) ((Imp.wr (t := 5) rfl (l_own rfl rfl)).trans goesD) ⟨Bfs.start l o, ?_, ?_⟩ ?_
  · have := hnl o; have := hu0 []; simp only; omega
  · have := hu0 []; simpa using this
  rintro ⟨todo, ks⟩ ⟨hB, h1, h2⟩
  dsimp only at hB h1 h2 ⊢
  repeat first | refine o_copy ?_ | refine nl ?_ | refine ct_seq ?_ | refine rg ?_ | refine ct_block ?_ | refine bq ?_ | refine o_loads ?_ | refine o_loadp ?_ | refine o_iaddr ?_ | refine o_iaddrO ?_ | refine o_iaddrR ?_ | refine o_bin ?_ | refine o_lenq ?_ | refine o_len ?_ | refine o_loadsA ?_ | refine o_loadpA ?_ | refine o_box ?_ | refine o_bslice ?_ | refine o_not ?_
  refine cnd (fun hh => ct_skip ?_) (fun hh => ct_exit ?_)
  · cases todo with
    | nil => simp at hh
    | cons x todo =>
    have hsl : ∀ {lvl site : Nat} {tf : TF} {hf : HF}, ev tf (.t 18) = some (.sh false ((x :: todo).map encI)) → vop lvl site tf hf (.slsl 1 (.t 18) (some (.c (.int .i64 1))) none none) = some ⟨.sh false (todo.map encI), [], []⟩ := by
      intro lvl site tf hf he
      have := v_slsh (lvl := lvl) (site := site) (hf := hf) (esz := 1) (lo := some (.c (.int .i64 1))) (hi := none) (mx := none) (a := 1) (z := ((x :: todo).map encI).length) (c := ((x :: todo).map encI).length) he rfl rfl rfl (by omega) (by simp; omega) (by omega) (by omega) (fun e he => by
        obtain ⟨j, _, rfl⟩ := List.mem_map.1 he
        rfl)
      rw [this]
      simp
      exact List.take_of_length_le (by simp)
    repeat first | refine o_copy ?_ | refine nl ?_ | refine ct_seq ?_ | refine rg ?_ | refine ct_block ?_ | refine bq ?_ | refine o_v (hsl rfl) ?_ | refine o_loads ?_ | refine o_loadp ?_ | refine o_iaddr ?_ | refine o_iaddrO ?_ | refine o_iaddrR ?_ | refine o_bin ?_ | refine o_lenq ?_ | refine o_len ?_ | refine o_loadsA ?_ | refine o_loadpA ?_ | refine o_box ?_ | refine o_bslice ?_ | refine o_not ?_
    refine cnd (fun h3 => ?_) (fun h3 => ct_skip ?_)
    · have h3 : x = o := by simpa using h3
      subst h3
      repeat first | refine o_copy ?_ | refine nl ?_ | refine ct_seq ?_ | refine rg ?_ | refine ct_block ?_ | refine bq ?_ | refine o_loads ?_ | refine o_loadp ?_ | refine o_iaddr ?_ | refine o_iaddrO ?_ | refine o_iaddrR ?_ | refine o_bin ?_ | refine o_lenq ?_ | refine o_len ?_ | refine o_loadsA ?_ | refine o_loadpA ?_ | refine o_box ?_ | refine o_bslice ?_ | refine o_not ?_
      exact ct_ret ⟨.inr rfl, oB hB.found.symm⟩
    · have h3 : ¬ x = o := by simpa using h3
      have hhas := has_vc (l := ks) (by omega) x
      cases hk : ks.contains x with
      | true =>
        rw [hk] at hhas
        repeat first | refine o_copy ?_ | refine nl ?_ | refine ct_seq ?_ | refine rg ?_ | refine ct_block ?_ | refine bq ?_ | refine cv0 hhas ?_ | refine o_loads ?_ | refine o_loadp ?_ | refine o_iaddr ?_ | refine o_iaddrO ?_ | refine o_iaddrR ?_ | refine o_bin ?_ | refine o_lenq ?_ | refine o_len ?_ | refine o_loadsA ?_ | refine o_loadpA ?_ | refine o_box ?_ | refine o_bslice ?_ | refine o_not ?_
        refine cndf (ct_skip ?_)
        simp only [List.length_cons] at h1
        exact agn (Q := fun _ _ => True) (todo, ks) ⟨hB.old hk, by simp only; omega, h2⟩ goesD (by simp only [List.length_cons]; omega)
      | false =>
        rw [hk] at hhas
        have hlt := unk_lt hB.owner hk
        have hnx := hnl x
        have hcn := rnext_vc hl x
        simp only [List.length_cons] at h1
        repeat first | refine o_copy ?_ | refine nl ?_ | refine ct_seq ?_ | refine rg ?_ | refine ct_block ?_ | refine bq ?_ | refine cv0 hhas ?_ | refine o_loads ?_ | refine o_loadp ?_ | refine o_iaddr ?_ | refine o_iaddrO ?_ | refine o_iaddrR ?_ | refine o_bin ?_ | refine o_lenq ?_ | refine o_len ?_ | refine o_loadsA ?_ | refine o_loadpA ?_ | refine o_box ?_ | refine o_bslice ?_ | refine o_not ?_
        refine cndt ?_
        repeat first | refine o_copy ?_ | refine nl ?_ | refine ct_seq ?_ | refine rg ?_ | refine ct_block ?_ | refine bq ?_ | refine o_v (vap encI x) ?_ | refine o_loads ?_ | refine o_loadp ?_ | refine o_iaddr ?_ | refine o_iaddrO ?_ | refine o_iaddrR ?_ | refine o_bin ?_ | refine o_lenq ?_ | refine o_len ?_ | refine o_loadsA ?_ | refine o_loadpA ?_ | refine o_box ?_ | refine o_bslice ?_ | refine o_not ?_
        repeat first | refine o_copy ?_ | refine nl ?_ | refine ct_seq ?_ | refine rg ?_ | refine ct_block ?_ | refine bq ?_ | refine o_v (vaps encI [] todo) ?_ | refine cv hcn ?_ | refine o_v (vaps encI todo (nextL l x)) ?_ | refine o_loads ?_ | refine o_loadp ?_ | refine o_iaddr ?_ | refine o_iaddrO ?_ | refine o_iaddrR ?_ | refine o_bin ?_ | refine o_lenq ?_ | refine o_len ?_ | refine o_loadsA ?_ | refine o_loadpA ?_ | refine o_box ?_ | refine o_bslice ?_ | refine o_not ?_
        exact agn (Q := fun _ _ => True) (todo ++ nextL l x, ks ++ [x]) ⟨hB.new h3, by simp only [List.length_append]; omega, by simp only [List.length_append, List.length_cons, List.length_nil]; omega⟩ ((Imp.wr (t := 5) rfl (l_own rfl rfl)).trans goesD) (by simp only [List.length_append, List.length_cons]; omega)
  · have h0 : todo = [] := by
      have h' := of_decide_eq_false hh
      simp only [List.length_map] at h'
      exact List.eq_nil_of_length_eq_zero (by omega)
    subst h0
    repeat first | refine o_copy ?_ | refine nl ?_ | refine ct_seq ?_ | refine rg ?_ | refine ct_block ?_ | refine bq ?_ | refine o_loads ?_ | refine o_loadp ?_ | refine o_iaddr ?_ | refine o_iaddrO ?_ | refine o_iaddrR ?_ | refine o_bin ?_ | refine o_lenq ?_ | refine o_len ?_ | refine o_loadsA ?_ | refine o_loadpA ?_ | refine o_box ?_ | refine o_bslice ?_ | refine o_not ?_
    exact ct_ret ⟨.inr rfl, oB hB.none.symm⟩
end Go.Proofs
open Go.V Go.Pu
set_option linter.unusedVariables false
set_option linter.unusedSimpArgs false
set_option maxRecDepth 20000
namespace Go.Proofs
/-- downspout/downspoutref32.Take -/
def vc24 : VCode :=
 (.seq
 (.region 0 false [
 ⟨(some 2), .box (.t 0), none, 0, []⟩,
 ⟨(some 3), .box (.t 1), none, 8, []⟩,
 ⟨(some 4), .alloc [.nils, .nils, (.bool false), (.int .i64 0)], none, 16, []⟩])
 (.seq
 (.seq
 (.region 1 false [
 ⟨(some 6), .load true 5 (.t 3), none, 8192, []⟩,
 ⟨(some 7), .call (.c (.fn 48 [])) [(.t 6)], none, 8200, [0]⟩,
 ⟨(some 8), .not (.t 7), none, 8208, [1, 0]⟩])
 (.cond (.t 8)
 (.seq
 (.region 2 false [
 ⟨(some 9), .load true 2 (.t 2), none, 16384, []⟩,
 ⟨(some 10), .build [.nils, .nils, (.bool false), (.int .i64 0)] [(0, 2, (.t 9)), (3, 1, (.c (.int .i64 1)))], none, 16392, [0]⟩,
 ⟨none, .store 4 (.t 4) (.t 10), none, 16400, [1, 0]⟩])
 .ret)
 .skip))
 (.seq
 (.seq
 (.region 3 false [
 ⟨(some 11), .faddr 0 (.t 2), none, 24576, []⟩,
 ⟨(some 12), .load false 1 (.t 11), none, 24584, [0]⟩,
 ⟨(some 13), .len (.t 12), none, 24592, [1, 0]⟩,
 ⟨(some 14), .faddr 1 (.t 2), none, 24600, []⟩,
 ⟨(some 15), .load false 1 (.t 14), none, 24608, [3]⟩,
 ⟨(some 16), .len (.t 15), none, 24616, [4, 3]⟩,
 ⟨(some 17), .bin .add (.t 13) (.t 16), none, 24624, [2, 1, 0, 5, 4, 3]⟩,
 ⟨(some 18), .bin .geq (.t 17) (.c (.int .i64 32)), none, 24632, [6, 2, 1, 0, 5, 4, 3]⟩])
 (.cond (.t 18)
 (.seq
 (.region 4 false [
 ⟨(some 19), .load true 2 (.t 2), none, 32768, []⟩,
 ⟨(some 20), .build [.nils, .nils, (.bool false), (.int .i64 0)] [(0, 2, (.t 19)), (3, 1, (.c (.int .i64 322)))], none, 32776, [0]⟩,
 ⟨none, .store 4 (.t 4) (.t 20), none, 32784, [1, 0]⟩])
 .ret)
 .skip))
 (.seq
 (.region 5 true [
 ⟨(some 21), .faddr 0 (.t 2), none, 40960, []⟩,
 ⟨(some 22), .load false 1 (.t 21), none, 40968, [0]⟩,
 ⟨(some 23), .call (.c (.fn 47 [])) [(.t 22)], none, 40976, [1, 0]⟩,
 ⟨(some 24), .faddr 1 (.t 2), none, 40984, []⟩,
 ⟨(some 25), .load false 1 (.t 24), none, 40992, [3]⟩,
 ⟨(some 26), .call (.c (.fn 47 [])) [(.t 25)], none, 41000, [4, 3, 2, 1, 0]⟩,
 ⟨(some 27), .build [.nils, .nils] [(0, 1, (.t 23)), (1, 1, (.t 26))], none, 41008, [2, 1, 0, 5, 4, 3]⟩,
 ⟨(some 5), .alloc [.nils, .nils], none, 41016, []⟩,
 ⟨none, .store 2 (.t 5) (.t 27), none, 41024, [7, 6, 2, 1, 0, 5, 4, 3]⟩])
 (.seq
 (.seq
 (.region 6 false [
 ⟨(some 28), .load true 2 (.t 2), none, 49152, []⟩,
 ⟨(some 29), .load true 5 (.t 3), none, 49160, []⟩,
 ⟨(some 30), .call (.c (.fn 27 [])) [(.t 28), (.t 29)], none, 49168, [0, 1]⟩])
 (.cond (.t 30)
 (.seq
 (.region 7 false [
 ⟨(some 31), .faddr 0 (.t 5), none, 57344, []⟩,
 ⟨(some 32), .load false 1 (.t 31), none, 57352, [0]⟩,
 ⟨(some 33), .load true 5 (.t 3), none, 57360, []⟩,
 ⟨(some 34), .bslice 5 [(.int .i64 0), (.str []), (.int .i64 0), (.int .i64 0), (.bool false)] 1 [(0, (.t 33))], none, 57368, [2]⟩,
 ⟨(some 35), .append 5 48 [(.int .i64 0), (.str []), (.int .i64 0), (.int .i64 0), (.bool false)] (.t 32) (.t 34), none, 57376, [1, 0, 3, 2]⟩,
 ⟨(some 36), .faddr 0 (.t 5), none, 57384, [0, 1, 2, 3, 4]⟩,
 ⟨none, .store 1 (.t 36) (.t 35), none, 57392, [5, 0, 1, 2, 3, 4]⟩])
 (.seq
 (.region 8 false [
 ⟨(some 37), .load true 2 (.t 5), none, 65536, []⟩,
 ⟨(some 38), .build [.nils, .nils, (.bool false), (.int .i64 0)] [(0, 2, (.t 37)), (2, 1, (.c (.bool true)))], none, 65544, [0]⟩,
 ⟨none, .store 4 (.t 4) (.t 38), none, 65552, [1, 0]⟩])
 .ret))
 .skip))
 (.seq
 (.region 9 false [
 ⟨(some 39), .faddr 1 (.t 5), none, 73728, []⟩,
 ⟨(some 40), .load false 1 (.t 39), none, 73736, [0]⟩,
 ⟨(some 41), .load true 5 (.t 3), none, 73744, []⟩,
 ⟨(some 42), .bslice 5 [(.int .i64 0), (.str []), (.int .i64 0), (.int .i64 0), (.bool false)] 1 [(0, (.t 41))], none, 73752, [2]⟩,
 ⟨(some 43), .append 5 48 [(.int .i64 0), (.str []), (.int .i64 0), (.int .i64 0), (.bool false)] (.t 40) (.t 42), none, 73760, [1, 0, 3, 2]⟩,
 ⟨(some 44), .faddr 1 (.t 5), none, 73768, [0, 1, 2, 3, 4]⟩,
 ⟨none, .store 1 (.t 44) (.t 43), none, 73776, [5, 0, 1, 2, 3, 4]⟩])
 (.seq
 (.seq
 (.region 10 false [
 ⟨(some 45), .load true 2 (.t 5), none, 81920, []⟩,
 ⟨(some 46), .faddr 0 (.t 3), none, 81928, []⟩,
 ⟨(some 47), .load false 1 (.t 46), none, 81936, [1]⟩,
 ⟨(some 48), .call (.c (.fn 18 [])) [(.t 45), (.t 47)], none, 81944, [0, 2, 1]⟩])
 (.cond (.t 48)
 (.seq
 (.region 11 false [
 ⟨(some 49), .load true 2 (.t 2), none, 90112, []⟩,
 ⟨(some 50), .build [.nils, .nils, (.bool false), (.int .i64 0)] [(0, 2, (.t 49)), (3, 1, (.c (.int .i64 321)))], none, 90120, [0]⟩,
 ⟨none, .store 4 (.t 4) (.t 50), none, 90128, [1, 0]⟩])
 .ret)
 .skip))
 (.seq
 (.region 12 false [
 ⟨(some 51), .load true 2 (.t 5), none, 98304, []⟩,
 ⟨(some 52), .build [.nils, .nils, (.bool false), (.int .i64 0)] [(0, 2, (.t 51))], none, 98312, [0]⟩,
 ⟨none, .store 4 (.t 4) (.t 52), none, 98320, [1, 0]⟩])
 .ret))))))))
theorem vf24 : VF Try.prog 24 = some (53, vc24, [.cell true 4 4]) := by kernel_rfl
/-- downspout/downspoutref32.Drop -/
def vc26 : VCode :=
 (.seq
 (.region 0 false [
 ⟨(some 2), .box (.t 0), none, 0, []⟩,
 ⟨(some 3), .box (.t 1), none, 8, []⟩,
 ⟨(some 4), .alloc [.nils, .nils, .nils, (.int .i64 0)], none, 16, []⟩])
 (.seq
 (.region 1 true [
 ⟨(some 7), .faddr 0 (.t 2), none, 8192, []⟩,
 ⟨(some 8), .load false 1 (.t 7), none, 8200, [0]⟩,
 ⟨(some 9), .load true 5 (.t 3), none, 8208, []⟩,
 ⟨(some 10), .call (.c (.fn 32 [])) [(.t 8), (.t 9)], none, 8216, [1, 0, 2]⟩,
 ⟨(some 11), .faddr 1 (.t 2), none, 8224, []⟩,
 ⟨(some 12), .load false 1 (.t 11), none, 8232, [4]⟩,
 ⟨(some 13), .load true 5 (.t 3), none, 8240, []⟩,
 ⟨(some 14), .call (.c (.fn 32 [])) [(.t 12), (.t 13)], none, 8248, [5, 4, 6, 3, 1, 0, 2]⟩,
 ⟨(some 5), .copy (.t 10), none, 8256, [3, 1, 0, 2, 7, 5, 4, 6]⟩,
 ⟨(some 6), .copy (.t 14), none, 8264, [7, 5, 4, 6, 3, 1, 0, 2, 8]⟩])
 (.seq
 (.seq
 (.region 2 false [
 ⟨(some 15), .copy (.t 5), none, 16384, []⟩,
 ⟨(some 16), .bin .geq (.t 15) (.c (.int .i64 0)), none, 16392, [0]⟩])
 (.cond (.t 16)
 (.seq
 (.region 3 true [
 ⟨(some 17), .faddr 0 (.t 2), none, 24576, []⟩,
 ⟨(some 18), .load false 1 (.t 17), none, 24584, [0]⟩,
 ⟨(some 19), .copy (.t 5), none, 24592, []⟩,
 ⟨(some 20), .call (.c (.fn 50 [])) [(.t 18), (.t 19)], none, 24600, [1, 0, 2]⟩,
 ⟨(some 21), .faddr 1 (.t 2), none, 24608, []⟩,
 ⟨(some 22), .load false 1 (.t 21), none, 24616, [4]⟩,
 ⟨(some 23), .build [.nils, .nils] [(0, 1, (.t 20)), (1, 1, (.t 22))], none, 24624, [3, 1, 0, 2, 5, 4]⟩,
 ⟨(some 24), .call (.c (.fn 49 [])) [(.t 23)], none, 24632, [6, 3, 1, 0, 2, 5, 4]⟩,
 ⟨none, .store 4 (.t 4) (.t 24), none, 24640, [7, 6, 3, 1, 0, 2, 5, 4]⟩])
 .ret)
 .skip))
 (.seq
 (.seq
 (.region 4 false [
 ⟨(some 25), .copy (.t 6), none, 32768, []⟩,
 ⟨(some 26), .bin .geq (.t 25) (.c (.int .i64 0)), none, 32776, [0]⟩])
 (.cond (.t 26)
 (.seq
 (.region 5 true [
 ⟨(some 27), .faddr 0 (.t 2), none, 40960, []⟩,
 ⟨(some 28), .load false 1 (.t 27), none, 40968, [0]⟩,
 ⟨(some 29), .faddr 1 (.t 2), none, 40976, []⟩,
 ⟨(some 30), .load false 1 (.t 29), none, 40984, [2]⟩,
 ⟨(some 31), .copy (.t 6), none, 40992, []⟩,
 ⟨(some 32), .call (.c (.fn 50 [])) [(.t 30), (.t 31)], none, 41000, [3, 2, 4]⟩,
 ⟨(some 33), .build [.nils, .nils] [(0, 1, (.t 28)), (1, 1, (.t 32))], none, 41008, [1, 0, 5, 3, 2, 4]⟩,
 ⟨(some 34), .call (.c (.fn 49 [])) [(.t 33)], none, 41016, [6, 1, 0, 5, 3, 2, 4]⟩,
 ⟨none, .store 4 (.t 4) (.t 34), none, 41024, [7, 6, 1, 0, 5, 3, 2, 4]⟩])
 .ret)
 .skip))
 (.seq
 (.region 6 false [
 ⟨(some 35), .load true 2 (.t 2), none, 49152, []⟩,
 ⟨(some 36), .build [.nils, .nils, .nils, (.int .i64 0)] [(0, 2, (.t 35)), (3, 1, (.c (.int .i64 330)))], none, 49160, [0]⟩,
 ⟨none, .store 4 (.t 4) (.t 36), none, 49168, [1, 0]⟩])
 .ret)))))
theorem vf26 : VF Try.prog 26 = some (37, vc26, [.cell true 4 4]) := by kernel_rfl
/-- downspout/downspoutref32.Leave -/
def vc29 : VCode :=
 (.seq
 (.region 0 false [
 ⟨(some 2), .box (.t 0), none, 0, []⟩,
 ⟨(some 4), .alloc [.nils, .nils, .nils, (.int .i64 0)], none, 8, []⟩])
 (.seq
 (.region 1 true [
 ⟨(some 5), .faddr 0 (.t 2), none, 8192, []⟩,
 ⟨(some 6), .load false 1 (.t 5), none, 8200, [0]⟩,
 ⟨(some 7), .copy (.t 1), none, 8208, []⟩,
 ⟨(some 8), .call (.c (.fn 52 [])) [(.t 6), (.t 7)], none, 8216, [1, 0, 2]⟩,
 ⟨(some 9), .faddr 1 (.t 2), none, 8224, []⟩,
 ⟨(some 10), .load false 1 (.t 9), none, 8232, [4]⟩,
 ⟨(some 11), .copy (.t 1), none, 8240, []⟩,
 ⟨(some 12), .call (.c (.fn 52 [])) [(.t 10), (.t 11)], none, 8248, [5, 4, 6, 3, 1, 0, 2]⟩,
 ⟨(some 13), .build [.nils, .nils] [(0, 1, (.t 8)), (1, 1, (.t 12))], none, 8256, [3, 1, 0, 2, 7, 5, 4, 6]⟩,
 ⟨(some 14), .call (.c (.fn 49 [])) [(.t 13)], none, 8264, [8, 3, 1, 0, 2, 7, 5, 4, 6]⟩,
 ⟨none, .store 4 (.t 4) (.t 14), none, 8272, [9, 8, 3, 1, 0, 2, 7, 5, 4, 6]⟩])
 .ret))
theorem vf29 : VF Try.prog 29 = some (15, vc29, [.cell true 4 4]) := by kernel_rfl
abbrev encT (t : LocksL × Bool × Int) : List PV := [.sh false (t.1.held.map encL), .sh false (t.1.waits.map encL), .bool t.2.1, .int .i64 t.2.2]
abbrev encGr (g : GrL) : List PV := encG g.l.held g.l.waits g.g g.e
theorem l_tk {hf : HF} {a b : Bid} {h w : List LockL} {t : Bool} {e : Int} (ha : hf a = some (blkV 5 (h.map encL))) (hb : hf b = some (blkV 5 (w.map encL))) :
    lendV hf [] (.agg [ownV a (h.map encL), ownV b (w.map encL), .bool t, .int .i64 e]) = some ([a, b], .agg (encT (⟨h, w⟩, t, e))) := by
  have h1 : lendS hf [] (ownV a (h.map encL)) = some ([a], .sh false (h.map encL)) := l_own ha rfl
  have h2 : lendS hf [] (ownV b (w.map encL)) = some ([b], .sh false (w.map encL)) := l_own hb rfl
  simp only [lendV, lendSs]
  rw [h1, h2]
  rfl
theorem l_lsX {hf : HF} {a b : Bid} {h w : List LockL} {q : PV} (hq : closed q = true) (ha : hf a = some (blkV 5 (h.map encL))) (hb : hf b = some (blkV 5 (w.map encL))) :
    lendVs hf [] [.agg [ownV a (h.map encL), ownV b (w.map encL)], q] = some ([a, b], [.agg (encLs ⟨h, w⟩), q]) := by
  have h1 : lendS hf [] (ownV a (h.map encL)) = some ([a], .sh false (h.map encL)) := l_own ha rfl
  have h2 : lendS hf [] (ownV b (w.map encL)) = some ([b], .sh false (w.map encL)) := l_own hb rfl
  have h3 : lendV hf [] q = some ([], q) := l_closed hq
  rw [lendVs, lendVs, h3]
  simp only [lendV, lendSs]
  rw [h1, h2]
  rfl
theorem l_lsA {hf : HF} {a b : Bid} {h w : List LockL} {cs : List PV} (hq : cs.all closed = true) (ha : hf a = some (blkV 5 (h.map encL))) (hb : hf b = some (blkV 5 (w.map encL))) :
    lendVs hf [] [.agg [ownV a (h.map encL), ownV b (w.map encL)], .agg cs] = some ([a, b], [.agg (encLs ⟨h, w⟩), .agg cs]) := by
  have h1 : lendS hf [] (ownV a (h.map encL)) = some ([a], .sh false (h.map encL)) := l_own ha rfl
  have h2 : lendS hf [] (ownV b (w.map encL)) = some ([b], .sh false (w.map encL)) := l_own hb rfl
  have h3 : ∀ cs : List PV, cs.all closed = true → lendSs hf [] cs = some ([], cs) := by
    intro cs
    induction cs with
    | nil => intro _; rfl
    | cons c cs ih =>
      intro hc
      simp only [List.all_cons, Bool.and_eq_true] at hc
      have h4 : lendS hf [] c = some ([], c) := by
        have := l_closed (hf := hf) (lent := []) hc.1
        cases c <;> first | exact this | (simp [closed] at hc; done)
      simp only [lendSs, h4, ih hc.2, Option.bind_some, Option.map_some, List.append_nil]
  have h5 : lendV hf [] (.agg cs) = some ([], .agg cs) := by simp only [lendV, h3 cs hq, Option.map_some]
  rw [lendVs, lendVs, h5]
  simp only [lendV, lendSs]
  rw [h1, h2]
  rfl
set_option maxHeartbeats 4000000 in
theorem rtake_vc {l : LocksL} (hl : l.held.length + l.waits.length ≤ 10000) (x : LockL) : VC Try.prog 24 [.agg (encLs l), .agg (encL x)] [] (.agg (encT (rtakeL l x))) [] := by
  have hr := rright_vc x
  have hwh : (l.held.map encL).length = l.held.length := List.length_map _
  have hww : (l.waits.map encL).length = l.waits.length := List.length_map _
  cases h0 : rightL x with
  | false =>
    have e : rtakeL l x = (l, false, 1) := by unfold rtakeL takeG; rw [if_pos h0]
    rw [e]
    rw [h0] at hr
    refine vc_of vf24 ?_ (Nat.le_of_ble_eq_true rfl) (by intro vs h; cases h)
    repeat first | refine o_copy ?_ | refine nl ?_ | refine ct_seq ?_ | refine rg ?_ | refine ct_block ?_ | refine bq ?_ | refine cv0 hr ?_ | refine o_loads ?_ | refine o_loadp ?_ | refine o_faddr ?_ | refine o_add ?_ | refine o_cat ?_ | refine o_bin ?_ | refine o_lenq ?_ | refine o_len ?_ | refine o_loadsA ?_ | refine o_loadpA ?_ | refine o_box ?_ | refine o_alloc ?_ | refine o_bslice ?_ | refine o_store ?_ | refine o_not ?_ | refine o_build ?_
    refine cndt ?_
    repeat first | refine o_copy ?_ | refine nl ?_ | refine ct_seq ?_ | refine rg ?_ | refine ct_block ?_ | refine bq ?_ | refine o_loads ?_ | refine o_loadp ?_ | refine o_faddr ?_ | refine o_add ?_ | refine o_cat ?_ | refine o_bin ?_ | refine o_lenq ?_ | refine o_len ?_ | refine o_loadsA ?_ | refine o_loadpA ?_ | refine o_box ?_ | refine o_alloc ?_ | refine o_bslice ?_ | refine o_store ?_ | refine o_not ?_ | refine o_build ?_
    exact ct_ret ⟨.inr rfl, oAny rfl⟩
  | true =>
  rw [h0] at hr
  by_cases h1 : 32 ≤ l.held.length + l.waits.length
  · have e : rtakeL l x = (l, false, 322) := by unfold rtakeL takeG; rw [if_neg (by simp [h0]), if_pos h1]
    rw [e]
    have g1 : decide (((l.held.map encL).length : Int) + ((l.waits.map encL).length : Int) ≥ 32) = true := by rw [hwh, hww]; simp; omega
    refine vc_of vf24 ?_ (Nat.le_of_ble_eq_true rfl) (by intro vs h; cases h)
    repeat first | refine o_copy ?_ | refine nl ?_ | refine ct_seq ?_ | refine rg ?_ | refine ct_block ?_ | refine bq ?_ | refine cv0 hr ?_ | refine o_loads ?_ | refine o_loadp ?_ | refine o_faddr ?_ | refine o_add ?_ | refine o_cat ?_ | refine o_bin ?_ | refine o_lenq ?_ | refine o_len ?_ | refine o_loadsA ?_ | refine o_loadpA ?_ | refine o_box ?_ | refine o_alloc ?_ | refine o_bslice ?_ | refine o_store ?_ | refine o_not ?_ | refine o_build ?_
    refine cndf (ct_skip ?_)
    repeat first | refine o_copy ?_ | refine nl ?_ | refine ct_seq ?_ | refine rg ?_ | refine ct_block ?_ | refine bq ?_ | refine o_loads ?_ | refine o_loadp ?_ | refine o_faddr ?_ | refine o_add ?_ | refine o_cat ?_ | refine o_bin ?_ | refine o_lenq ?_ | refine o_len ?_ | refine o_loadsA ?_ | refine o_loadpA ?_ | refine o_box ?_ | refine o_alloc ?_ | refine o_bslice ?_ | refine o_store ?_ | refine o_not ?_ | refine o_build ?_
    refine cndt ?_
    repeat first | refine o_copy ?_ | refine nl ?_ | refine ct_seq ?_ | refine rg ?_ | refine ct_block ?_ | refine bq ?_ | refine o_loads ?_ | refine o_loadp ?_ | refine o_faddr ?_ | refine o_add ?_ | refine o_cat ?_ | refine o_bin ?_ | refine o_lenq ?_ | refine o_len ?_ | refine o_loadsA ?_ | refine o_loadpA ?_ | refine o_box ?_ | refine o_alloc ?_ | refine o_bslice ?_ | refine o_store ?_ | refine o_not ?_ | refine o_build ?_
    exact ct_ret ⟨.inr rfl, oAny rfl⟩
  have g1 : decide (((l.held.map encL).length : Int) + ((l.waits.map encL).length : Int) ≥ 32) = false := by rw [hwh, hww]; simp; omega
  have ha := rallows_vc (l := l) (by omega) (by omega) x
  have hch := copied_vc (l := l.held) (by omega)
  have hcw := copied_vc (l := l.waits) (by omega)
  cases h2 : rallowsL l x with
  | true =>
    have e : rtakeL l x = (⟨l.held ++ [x], l.waits⟩, true, 0) := by unfold rtakeL takeG; rw [if_neg (by simp [h0]), if_neg h1, if_pos h2]
    rw [e]
    rw [h2] at ha
    refine vc_close (hout := [blkV 5 ((l.held ++ [x]).map encL), blkV 5 (l.waits.map encL)]) (v := .agg [ownV ⟨0, 0⟩ ((l.held ++ [x]).map encL), ownV ⟨0, 1⟩ (l.waits.map encL), .bool true, .int .i64 0]) ?_ (l_tk rfl rfl)
    refine vc_of vf24 ?_ (Nat.le_of_ble_eq_true rfl) (by intro vs h; cases h)
    repeat first | refine o_copy ?_ | refine nl ?_ | refine ct_seq ?_ | refine rg ?_ | refine ct_block ?_ | refine bq ?_ | refine cv0 hr ?_ | refine o_loads ?_ | refine o_loadp ?_ | refine o_faddr ?_ | refine o_add ?_ | refine o_cat ?_ | refine o_bin ?_ | refine o_lenq ?_ | refine o_len ?_ | refine o_loadsA ?_ | refine o_loadpA ?_ | refine o_box ?_ | refine o_alloc ?_ | refine o_bslice ?_ | refine o_store ?_ | refine o_not ?_ | refine o_build ?_
    refine cndf (ct_skip ?_)
    repeat first | refine o_copy ?_ | refine nl ?_ | refine ct_seq ?_ | refine rg ?_ | refine ct_block ?_ | refine bq ?_ | refine o_loads ?_ | refine o_loadp ?_ | refine o_faddr ?_ | refine o_add ?_ | refine o_cat ?_ | refine o_bin ?_ | refine o_lenq ?_ | refine o_len ?_ | refine o_loadsA ?_ | refine o_loadpA ?_ | refine o_box ?_ | refine o_alloc ?_ | refine o_bslice ?_ | refine o_store ?_ | refine o_not ?_ | refine o_build ?_
    refine cndf (ct_skip ?_)
    repeat first | refine o_copy ?_ | refine nl ?_ | refine ct_seq ?_ | refine rg ?_ | refine ct_block ?_ | refine bq ?_ | refine cv hch ?_ | refine cv hcw ?_ | refine cv0 ha ?_ | refine o_loads ?_ | refine o_loadp ?_ | refine o_faddr ?_ | refine o_add ?_ | refine o_cat ?_ | refine o_bin ?_ | refine o_lenq ?_ | refine o_len ?_ | refine o_loadsA ?_ | refine o_loadpA ?_ | refine o_box ?_ | refine o_alloc ?_ | refine o_bslice ?_ | refine o_store ?_ | refine o_not ?_ | refine o_build ?_
    refine cndt ?_
    repeat first | refine o_copy ?_ | refine nl ?_ | refine ct_seq ?_ | refine rg ?_ | refine ct_block ?_ | refine bq ?_ | refine o_v (vap encL x) ?_ | refine o_loads ?_ | refine o_loadp ?_ | refine o_faddr ?_ | refine o_add ?_ | refine o_cat ?_ | refine o_bin ?_ | refine o_lenq ?_ | refine o_len ?_ | refine o_loadsA ?_ | refine o_loadpA ?_ | refine o_box ?_ | refine o_alloc ?_ | refine o_bslice ?_ | refine o_store ?_ | refine o_not ?_ | refine o_build ?_
    refine ct_ret ⟨.inr rfl, ?_⟩
    exact oG [⟨1, 40976⟩, ⟨1, 41000⟩] (v' := .agg [ownV ⟨0, 0⟩ ((l.held ++ [x]).map encL), ownV ⟨0, 1⟩ (l.waits.map encL), .bool true, .int .i64 0])
  | false =>
  rw [h2] at ha
  have hcc := rcircle_vc (l := ⟨l.held, l.waits ++ [x]⟩) (by simp; omega) x.own
  cases h3 : cycB rconfL ⟨l.held, l.waits ++ [x]⟩ x.own with
  | true =>
    have e : rtakeL l x = (l, false, 321) := by unfold rtakeL takeG; rw [if_neg (by simp [h0]), if_neg h1, if_neg (by simp [h2]), if_pos h3]
    rw [e]
    rw [h3] at hcc
    refine vc_of vf24 ?_ (Nat.le_of_ble_eq_true rfl) (by intro vs h; cases h)
    repeat first | refine o_copy ?_ | refine nl ?_ | refine ct_seq ?_ | refine rg ?_ | refine ct_block ?_ | refine bq ?_ | refine cv0 hr ?_ | refine o_loads ?_ | refine o_loadp ?_ | refine o_faddr ?_ | refine o_add ?_ | refine o_cat ?_ | refine o_bin ?_ | refine o_lenq ?_ | refine o_len ?_ | refine o_loadsA ?_ | refine o_loadpA ?_ | refine o_box ?_ | refine o_alloc ?_ | refine o_bslice ?_ | refine o_store ?_ | refine o_not ?_ | refine o_build ?_
    refine cndf (ct_skip ?_)
    repeat first | refine o_copy ?_ | refine nl ?_ | refine ct_seq ?_ | refine rg ?_ | refine ct_block ?_ | refine bq ?_ | refine o_loads ?_ | refine o_loadp ?_ | refine o_faddr ?_ | refine o_add ?_ | refine o_cat ?_ | refine o_bin ?_ | refine o_lenq ?_ | refine o_len ?_ | refine o_loadsA ?_ | refine o_loadpA ?_ | refine o_box ?_ | refine o_alloc ?_ | refine o_bslice ?_ | refine o_store ?_ | refine o_not ?_ | refine o_build ?_
    refine cndf (ct_skip ?_)
    repeat first | refine o_copy ?_ | refine nl ?_ | refine ct_seq ?_ | refine rg ?_ | refine ct_block ?_ | refine bq ?_ | refine cv hch ?_ | refine cv hcw ?_ | refine cv0 ha ?_ | refine o_loads ?_ | refine o_loadp ?_ | refine o_faddr ?_ | refine o_add ?_ | refine o_cat ?_ | refine o_bin ?_ | refine o_lenq ?_ | refine o_len ?_ | refine o_loadsA ?_ | refine o_loadpA ?_ | refine o_box ?_ | refine o_alloc ?_ | refine o_bslice ?_ | refine o_store ?_ | refine o_not ?_ | refine o_build ?_
    refine cndf (ct_skip ?_)
    repeat first | refine o_copy ?_ | refine nl ?_ | refine ct_seq ?_ | refine rg ?_ | refine ct_block ?_ | refine bq ?_ | refine o_v (vap encL x) ?_ | refine cv0 hcc (h3 := by exact l_lsX rfl rfl rfl) ?_ | refine o_loads ?_ | refine o_loadp ?_ | refine o_faddr ?_ | refine o_add ?_ | refine o_cat ?_ | refine o_bin ?_ | refine o_lenq ?_ | refine o_len ?_ | refine o_loadsA ?_ | refine o_loadpA ?_ | refine o_box ?_ | refine o_alloc ?_ | refine o_bslice ?_ | refine o_store ?_ | refine o_not ?_ | refine o_build ?_
    refine cndt ?_
    repeat first | refine o_copy ?_ | refine nl ?_ | refine ct_seq ?_ | refine rg ?_ | refine ct_block ?_ | refine bq ?_ | refine o_loads ?_ | refine o_loadp ?_ | refine o_faddr ?_ | refine o_add ?_ | refine o_cat ?_ | refine o_bin ?_ | refine o_lenq ?_ | refine o_len ?_ | refine o_loadsA ?_ | refine o_loadpA ?_ | refine o_box ?_ | refine o_alloc ?_ | refine o_bslice ?_ | refine o_store ?_ | refine o_not ?_ | refine o_build ?_
    exact ct_ret ⟨.inr rfl, oAny rfl⟩
  | false =>
    have e : rtakeL l x = (⟨l.held, l.waits ++ [x]⟩, false, 0) := by unfold rtakeL takeG; rw [if_neg (by simp [h0]), if_neg h1, if_neg (by simp [h2]), if_neg (by simp [h3])]
    rw [e]
    rw [h3] at hcc
    refine vc_close (hout := [blkV 5 (l.held.map encL), blkV 5 ((l.waits ++ [x]).map encL)]) (v := .agg [ownV ⟨0, 0⟩ (l.held.map encL), ownV ⟨0, 1⟩ ((l.waits ++ [x]).map encL), .bool false, .int .i64 0]) ?_ (l_tk rfl rfl)
    refine vc_of vf24 ?_ (Nat.le_of_ble_eq_true rfl) (by intro vs h; cases h)
    repeat first | refine o_copy ?_ | refine nl ?_ | refine ct_seq ?_ | refine rg ?_ | refine ct_block ?_ | refine bq ?_ | refine cv0 hr ?_ | refine o_loads ?_ | refine o_loadp ?_ | refine o_faddr ?_ | refine o_add ?_ | refine o_cat ?_ | refine o_bin ?_ | refine o_lenq ?_ | refine o_len ?_ | refine o_loadsA ?_ | refine o_loadpA ?_ | refine o_box ?_ | refine o_alloc ?_ | refine o_bslice ?_ | refine o_store ?_ | refine o_not ?_ | refine o_build ?_
    refine cndf (ct_skip ?_)
    repeat first | refine o_copy ?_ | refine nl ?_ | refine ct_seq ?_ | refine rg ?_ | refine ct_block ?_ | refine bq ?_ | refine o_loads ?_ | refine o_loadp ?_ | refine o_faddr ?_ | refine o_add ?_ | refine o_cat ?_ | refine o_bin ?_ | refine o_lenq ?_ | refine o_len ?_ | refine o_loadsA ?_ | refine o_loadpA ?_ | refine o_box ?_ | refine o_alloc ?_ | refine o_bslice ?_ | refine o_store ?_ | refine o_not ?_ | refine o_build ?_
    refine cndf (ct_skip ?_)
    repeat first | refine o_copy ?_ | refine nl ?_ | refine ct_seq ?_ | refine rg ?_ | refine ct_block ?_ | refine bq ?_ | refine cv hch ?_ | refine cv hcw ?_ | refine cv0 ha ?_ | refine o_loads ?_ | refine o_loadp ?_ | refine o_faddr ?_ | refine o_add ?_ | refine o_cat ?_ | refine o_bin ?_ | refine o_lenq ?_ | refine o_len ?_ | refine o_loadsA ?_ | refine o_loadpA ?_ | refine o_box ?_ | refine o_alloc ?_ | refine o_bslice ?_ | refine o_store ?_ | refine o_not ?_ | refine o_build ?_
    refine cndf (ct_skip ?_)
    repeat first | refine o_copy ?_ | refine nl ?_ | refine ct_seq ?_ | refine rg ?_ | refine ct_block ?_ | refine bq ?_ | refine o_v (vap encL x) ?_ | refine cv0 hcc (h3 := by exact l_lsX rfl rfl rfl) ?_ | refine o_loads ?_ | refine o_loadp ?_ | refine o_faddr ?_ | refine o_add ?_ | refine o_cat ?_ | refine o_bin ?_ | refine o_lenq ?_ | refine o_len ?_ | refine o_loadsA ?_ | refine o_loadpA ?_ | refine o_box ?_ | refine o_alloc ?_ | refine o_bslice ?_ | refine o_store ?_ | refine o_not ?_ | refine o_build ?_
    refine cndf (ct_skip ?_)
    repeat first | refine o_copy ?_ | refine nl ?_ | refine ct_seq ?_ | refine rg ?_ | refine ct_block ?_ | refine bq ?_ | refine o_loads ?_ | refine o_loadp ?_ | refine o_faddr ?_ | refine o_add ?_ | refine o_cat ?_ | refine o_bin ?_ | refine o_lenq ?_ | refine o_len ?_ | refine o_loadsA ?_ | refine o_loadpA ?_ | refine o_box ?_ | refine o_alloc ?_ | refine o_bslice ?_ | refine o_store ?_ | refine o_not ?_ | refine o_build ?_
    refine ct_ret ⟨.inr rfl, ?_⟩
    exact oG [⟨1, 40976⟩, ⟨1, 41000⟩] (v' := .agg [ownV ⟨0, 0⟩ (l.held.map encL), ownV ⟨0, 1⟩ ((l.waits ++ [x]).map encL), .bool false, .int .i64 0])
end Go.Proofs
open Go.V Go.Pu
set_option linter.unusedVariables false
set_option linter.unusedSimpArgs false
set_option maxRecDepth 20000
namespace Go.Proofs
theorem all2_refl : ∀ {l : List PV}, All2 PLe l l
  | [] => .nil
  | _ :: _ => .cons (PLe.refl _) all2_refl
theorem grG_vc {l : LocksL} (hl : l.held.length + l.waits.length ≤ 20000) : VC Try.prog 49 [.agg (encLs l)] [] (.agg (encGr (grG rmt l))) [] := by
  rcases hr : grantF rmt l.waits l.held [] [] with ⟨h, w, g⟩
  have := rgrant_vc hl hr
  have e : grG rmt l = ⟨⟨h, w⟩, g, 0⟩ := by unfold grG; rw [hr]
  rw [e]
  exact this
theorem l_c {hf : HF} {q : PV} (hq : closed q = true) : lendS hf [] q = some ([], q) := by
  have := l_closed (hf := hf) (lent := []) hq
  cases q <;> first | exact this | (simp [closed] at hq; done)
theorem l_mix1 {hf : HF} {a : Bid} {h w : List LockL} (ha : hf a = some (blkV 5 (h.map encL))) :
    lendVs hf [] [.agg [ownV a (h.map encL), .sh false (w.map encL)]] = some ([a], [.agg (encLs ⟨h, w⟩)]) := by
  have h1 : lendS hf [] (ownV a (h.map encL)) = some ([a], .sh false (h.map encL)) := l_own ha rfl
  have h2 : lendS hf [] (.sh false (w.map encL)) = some ([], .sh false (w.map encL)) := l_c rfl
  simp only [lendVs, lendV, lendSs]
  rw [h1, h2]
  rfl
theorem l_mix2 {hf : HF} {b : Bid} {h w : List LockL} (hb : hf b = some (blkV 5 (w.map encL))) :
    lendVs hf [] [.agg [.sh false (h.map encL), ownV b (w.map encL)]] = some ([b], [.agg (encLs ⟨h, w⟩)]) := by
  have h1 : lendS hf [] (ownV b (w.map encL)) = some ([b], .sh false (w.map encL)) := l_own hb rfl
  have h2 : lendS hf [] (.sh false (h.map encL)) = some ([], .sh false (h.map encL)) := l_c rfl
  simp only [lendVs, lendV, lendSs]
  rw [h1, h2]
  rfl
theorem l_own2 {hf : HF} {a b : Bid} {h w : List LockL} (ha : hf a = some (blkV 5 (h.map encL))) (hb : hf b = some (blkV 5 (w.map encL))) :
    lendVs hf [] [.agg [ownV a (h.map encL), ownV b (w.map encL)]] = some ([a, b], [.agg (encLs ⟨h, w⟩)]) := by
  have h1 : lendS hf [] (ownV a (h.map encL)) = some ([a], .sh false (h.map encL)) := l_own ha rfl
  have h2 : lendS hf [] (ownV b (w.map encL)) = some ([b], .sh false (w.map encL)) := l_own hb rfl
  simp only [lendVs, lendV, lendSs]
  rw [h1, h2]
  rfl
theorem findI_mem {l : List LockL} {x : LockL} (h : x ∈ l) : findI l x = ((l.findIdx (· == x) : Nat) : Int) ∧ l.findIdx (· == x) < l.length := by
  unfold findI
  rw [if_pos h]
  exact ⟨rfl, List.findIdx_lt_length_of_exists ⟨x, h, by simp⟩⟩
theorem findI_not {l : List LockL} {x : LockL} (h : x ∉ l) : findI l x = -1 := by unfold findI; rw [if_neg h]
theorem without_len {l : List LockL} {i : Nat} (h : i < l.length) : (withoutL l i).length + 1 = l.length := by
  unfold withoutL
  simp
  omega
set_option maxHeartbeats 4000000 in
theorem rdrop_vc {l : LocksL} (hl : l.held.length + l.waits.length ≤ 10000) (x : LockL) : VC Try.prog 26 [.agg (encLs l), .agg (encL x)] [] (.agg (encGr (dropG rmt l x))) [] := by
  have hf1 := rfind_vc (l := l.held) (by omega) x
  have hf2 := rfind_vc (l := l.waits) (by omega) x
  by_cases h1 : x ∈ l.held
  · have e : dropG rmt l x = grG rmt ⟨outL l.held x, l.waits⟩ := by unfold dropG; rw [if_pos h1]
    rw [e]
    obtain ⟨e1, e2⟩ := findI_mem h1
    have hw := rwithout_vc (l := l.held) (by omega) e2
    have hlen := without_len e2
    have hg := grG_vc (l := ⟨outL l.held x, l.waits⟩) (by simp only [outL]; omega)
    rw [e1] at hf1
    have g1 : decide (((l.held.findIdx (· == x) : Nat) : Int) ≥ 0) = true := by simp
    refine vc_of vf26 ?_ (Nat.le_of_ble_eq_true rfl) (by intro vs h; cases h)
    repeat first | refine o_copy ?_ | refine nl ?_ | refine ct_seq ?_ | refine rg ?_ | refine ct_block ?_ | refine bq ?_ | refine cv0 hf1 ?_ | refine cv0 hf2 ?_ | refine o_loads ?_ | refine o_loadp ?_ | refine o_faddr ?_ | refine o_bin ?_ | refine o_loadsA ?_ | refine o_loadpA ?_ | refine o_box ?_ | refine o_alloc ?_ | refine o_store ?_ | refine o_build ?_
    refine cndt ?_
    repeat first | refine o_copy ?_ | refine nl ?_ | refine ct_seq ?_ | refine rg ?_ | refine ct_block ?_ | refine bq ?_ | refine cv hw ?_ | refine cf hg (h3 := by exact l_mix1 rfl) ?_ | refine o_loads ?_ | refine o_loadp ?_ | refine o_faddr ?_ | refine o_bin ?_ | refine o_loadsA ?_ | refine o_loadpA ?_ | refine o_box ?_ | refine o_alloc ?_ | refine o_store ?_ | refine o_build ?_
    exact ct_ret ⟨.inr rfl, oAny rfl⟩
  · have e1 := findI_not h1
    rw [e1] at hf1
    by_cases h2 : x ∈ l.waits
    · have e : dropG rmt l x = grG rmt ⟨l.held, outL l.waits x⟩ := by unfold dropG; rw [if_neg h1, if_pos h2]
      rw [e]
      obtain ⟨e3, e4⟩ := findI_mem h2
      have hw := rwithout_vc (l := l.waits) (by omega) e4
      have hlen := without_len e4
      have hg := grG_vc (l := ⟨l.held, outL l.waits x⟩) (by simp only [outL]; omega)
      rw [e3] at hf2
      have g1 : decide (((l.waits.findIdx (· == x) : Nat) : Int) ≥ 0) = true := by simp
      refine vc_of vf26 ?_ (Nat.le_of_ble_eq_true rfl) (by intro vs h; cases h)
      repeat first | refine o_copy ?_ | refine nl ?_ | refine ct_seq ?_ | refine rg ?_ | refine ct_block ?_ | refine bq ?_ | refine cv0 hf1 ?_ | refine cv0 hf2 ?_ | refine o_loads ?_ | refine o_loadp ?_ | refine o_faddr ?_ | refine o_bin ?_ | refine o_loadsA ?_ | refine o_loadpA ?_ | refine o_box ?_ | refine o_alloc ?_ | refine o_store ?_ | refine o_build ?_
      refine cndf (ct_skip ?_)
      repeat first | refine o_copy ?_ | refine nl ?_ | refine ct_seq ?_ | refine rg ?_ | refine ct_block ?_ | refine bq ?_ | refine o_loads ?_ | refine o_loadp ?_ | refine o_faddr ?_ | refine o_bin ?_ | refine o_loadsA ?_ | refine o_loadpA ?_ | refine o_box ?_ | refine o_alloc ?_ | refine o_store ?_ | refine o_build ?_
      refine cndt ?_
      repeat first | refine o_copy ?_ | refine nl ?_ | refine ct_seq ?_ | refine rg ?_ | refine ct_block ?_ | refine bq ?_ | refine cv hw ?_ | refine cf hg (h3 := by exact l_mix2 rfl) ?_ | refine o_loads ?_ | refine o_loadp ?_ | refine o_faddr ?_ | refine o_bin ?_ | refine o_loadsA ?_ | refine o_loadpA ?_ | refine o_box ?_ | refine o_alloc ?_ | refine o_store ?_ | refine o_build ?_
      exact ct_ret ⟨.inr rfl, oAny rfl⟩
    · have e : dropG rmt l x = ⟨l, [], 330⟩ := by unfold dropG; rw [if_neg h1, if_neg h2]
      rw [e]
      rw [findI_not h2] at hf2
      refine vc_weak (v := .agg [.sh false (l.held.map encL), .sh false (l.waits.map encL), .nils, .int .i64 330]) ?_ all2_refl ?_
      · refine vc_of vf26 ?_ (Nat.le_of_ble_eq_true rfl) (by intro vs h; cases h)
        repeat first | refine o_copy ?_ | refine nl ?_ | refine ct_seq ?_ | refine rg ?_ | refine ct_block ?_ | refine bq ?_ | refine cv0 hf1 ?_ | refine cv0 hf2 ?_ | refine o_loads ?_ | refine o_loadp ?_ | refine o_faddr ?_ | refine o_bin ?_ | refine o_loadsA ?_ | refine o_loadpA ?_ | refine o_box ?_ | refine o_alloc ?_ | refine o_store ?_ | refine o_build ?_
        refine cndf (ct_skip ?_)
        repeat first | refine o_copy ?_ | refine nl ?_ | refine ct_seq ?_ | refine rg ?_ | refine ct_block ?_ | refine bq ?_ | refine o_loads ?_ | refine o_loadp ?_ | refine o_faddr ?_ | refine o_bin ?_ | refine o_loadsA ?_ | refine o_loadpA ?_ | refine o_box ?_ | refine o_alloc ?_ | refine o_store ?_ | refine o_build ?_
        refine cndf (ct_skip ?_)
        repeat first | refine o_copy ?_ | refine nl ?_ | refine ct_seq ?_ | refine rg ?_ | refine ct_block ?_ | refine bq ?_ | refine o_loads ?_ | refine o_loadp ?_ | refine o_faddr ?_ | refine o_bin ?_ | refine o_loadsA ?_ | refine o_loadpA ?_ | refine o_box ?_ | refine o_alloc ?_ | refine o_store ?_ | refine o_build ?_
        exact ct_ret ⟨.inr rfl, oAny rfl⟩
      · exact PLe.agg (.cons (SLe.refl _) (.cons (SLe.refl _) (.cons (CLe.nils.s rfl) (.cons (SLe.refl _) .nil))))
theorem rleave_vc {l : LocksL} (hl : l.held.length + l.waits.length ≤ 10000) (o : Int) : VC Try.prog 29 [.agg (encLs l), .int .i64 o] [] (.agg (encGr (leaveG rmt l o))) [] := by
  have h1 := rothers_vc (l := l.held) (by omega) o
  have h2 := rothers_vc (l := l.waits) (by omega) o
  have g1 : (othersL l.held o).length ≤ l.held.length := List.length_filter_le _ _
  have g2 : (othersL l.waits o).length ≤ l.waits.length := List.length_filter_le _ _
  have hg := grG_vc (l := ⟨othersL l.held o, othersL l.waits o⟩) (by simp only; omega)
  refine vc_of vf29 ?_ (Nat.le_of_ble_eq_true rfl) (by intro vs h; cases h)
  repeat first | refine o_copy ?_ | refine nl ?_ | refine ct_seq ?_ | refine rg ?_ | refine ct_block ?_ | refine bq ?_ | refine cv h1 ?_ | refine cv h2 ?_ | refine cf hg (h3 := by exact l_own2 rfl rfl) ?_ | refine o_loads ?_ | refine o_loadp ?_ | refine o_faddr ?_ | refine o_box ?_ | refine o_alloc ?_ | refine o_store ?_ | refine o_build ?_
  exact ct_ret ⟨.inr rfl, oAny rfl⟩
end Go.Proofs
