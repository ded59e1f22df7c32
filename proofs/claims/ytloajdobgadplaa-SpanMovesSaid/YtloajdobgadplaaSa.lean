/- Sa -/
import Derived.Test.YtloajdobgadplaaProg
import Derived.Test.YtloajdobgadplaaVD
import Derived.Test.YtloajdobgadplaaPu
open Go.V
namespace Go.Proofs
theorem sanity_vc : VC Try.prog 11 [] [] (.bool true) [] := run_ok noCall_good noX_good 30 _ _ _ _ _ (by kernel_rfl : run Try.prog noCall noX 300 30 11 [] [] = some (.bool true, []))
end Go.Proofs
open Go.V Go.Pu
set_option linter.unusedVariables false
set_option linter.unusedSimpArgs false
set_option maxRecDepth 20000
namespace Go.Proofs
/-- downspout/span.Has -/
def vc21 : VCode :=
  (.seq
   (.region 0 false [
     ⟨(some 2), .box (.t 0), none, 0, []⟩,
     ⟨(some 4), .copy (.c (.bool false)), none, 8, []⟩])
   (.seq
    (.region 1 false [
      ⟨(some 5), .copy (.t 1), none, 8192, []⟩,
      ⟨(some 6), .faddr 0 (.t 2), none, 8200, []⟩,
      ⟨(some 7), .load false 1 (.t 6), none, 8208, [1]⟩,
      ⟨(some 8), .bin .geq (.t 5) (.t 7), none, 8216, [0, 2, 1]⟩,
      ⟨(some 9), .copy (.t 8), none, 8224, [3, 0, 2, 1]⟩,
      ⟨(some 10), .faddr 1 (.t 2), (some (4, 9, true)), 8232, [4, 3, 0, 2, 1]⟩,
      ⟨(some 11), .load false 1 (.t 10), (some (4, 9, true)), 8240, [5, 4, 3, 0, 2, 1]⟩,
      ⟨(some 12), .bin .eql (.t 11) (.c (.str [])), (some (4, 9, true)), 8248, [6, 5, 4, 3, 0, 2, 1]⟩,
      ⟨(some 13), .copy (.t 12), (some (4, 9, true)), 8256, [7, 6, 5, 4, 3, 0, 2, 1]⟩,
      ⟨(some 14), .copy (.t 1), (some (8, 13, false)), 8264, [8, 7, 6, 5, 4, 3, 0, 2, 1]⟩,
      ⟨(some 15), .faddr 1 (.t 2), (some (8, 13, false)), 8272, [8, 7, 6, 5, 4, 3, 0, 2, 1]⟩,
      ⟨(some 16), .load false 1 (.t 15), (some (8, 13, false)), 8280, [10, 8, 7, 6, 5, 4, 3, 0, 2, 1]⟩,
      ⟨(some 17), .bin .lss (.t 14) (.t 16), (some (8, 13, false)), 8288, [9, 8, 7, 6, 5, 4, 3, 0, 2, 1, 11, 10]⟩,
      ⟨(some 18), .pick (.t 13) (.c (.bool true)) (.t 17), (some (4, 9, true)), 8296, [8, 7, 6, 5, 4, 3, 0, 2, 1, 12, 9, 11, 10]⟩,
      ⟨(some 19), .pick (.t 9) (.t 18) (.c (.bool false)), none, 8304, [4, 3, 0, 2, 1, 13, 8, 7, 6, 5, 12, 9, 11, 10]⟩,
      ⟨(some 4), .copy (.t 19), none, 8312, [14, 4, 3, 0, 2, 1, 13, 8, 7, 6, 5, 12, 9, 11, 10]⟩])
    .ret))
theorem vf21 : VF Try.prog 21 = some (20, vc21, [.tmp 4]) := by kernel_rfl
/-- downspout/downspoutref02.Has -/
def vc22 : VCode :=
  (.seq
   (.region 0 false [
     ⟨(some 2), .box (.t 0), none, 0, []⟩,
     ⟨(some 4), .copy (.c (.bool false)), none, 8, []⟩])
   (.seq
    (.region 1 false [
      ⟨(some 5), .copy (.t 1), none, 8192, []⟩,
      ⟨(some 6), .faddr 0 (.t 2), none, 8200, []⟩,
      ⟨(some 7), .load false 1 (.t 6), none, 8208, [1]⟩,
      ⟨(some 8), .bin .geq (.t 5) (.t 7), none, 8216, [0, 2, 1]⟩,
      ⟨(some 9), .copy (.t 8), none, 8224, [3, 0, 2, 1]⟩,
      ⟨(some 10), .faddr 1 (.t 2), (some (4, 9, true)), 8232, [4, 3, 0, 2, 1]⟩,
      ⟨(some 11), .load false 1 (.t 10), (some (4, 9, true)), 8240, [5, 4, 3, 0, 2, 1]⟩,
      ⟨(some 12), .bin .eql (.t 11) (.c (.str [])), (some (4, 9, true)), 8248, [6, 5, 4, 3, 0, 2, 1]⟩,
      ⟨(some 13), .copy (.t 12), (some (4, 9, true)), 8256, [7, 6, 5, 4, 3, 0, 2, 1]⟩,
      ⟨(some 14), .copy (.t 1), (some (8, 13, false)), 8264, [8, 7, 6, 5, 4, 3, 0, 2, 1]⟩,
      ⟨(some 15), .faddr 1 (.t 2), (some (8, 13, false)), 8272, [8, 7, 6, 5, 4, 3, 0, 2, 1]⟩,
      ⟨(some 16), .load false 1 (.t 15), (some (8, 13, false)), 8280, [10, 8, 7, 6, 5, 4, 3, 0, 2, 1]⟩,
      ⟨(some 17), .bin .lss (.t 14) (.t 16), (some (8, 13, false)), 8288, [9, 8, 7, 6, 5, 4, 3, 0, 2, 1, 11, 10]⟩,
      ⟨(some 18), .pick (.t 13) (.c (.bool true)) (.t 17), (some (4, 9, true)), 8296, [8, 7, 6, 5, 4, 3, 0, 2, 1, 12, 9, 11, 10]⟩,
      ⟨(some 19), .pick (.t 9) (.t 18) (.c (.bool false)), none, 8304, [4, 3, 0, 2, 1, 13, 8, 7, 6, 5, 12, 9, 11, 10]⟩,
      ⟨(some 4), .copy (.t 19), none, 8312, [14, 4, 3, 0, 2, 1, 13, 8, 7, 6, 5, 12, 9, 11, 10]⟩])
    .ret))
theorem vf22 : VF Try.prog 22 = some (20, vc22, [.tmp 4]) := by kernel_rfl
/-- downspout/span.Empty -/
def vc23 : VCode :=
  (.seq
   (.region 0 false [
     ⟨(some 1), .box (.t 0), none, 0, []⟩,
     ⟨(some 2), .copy (.c (.bool false)), none, 8, []⟩])
   (.seq
    (.region 1 false [
      ⟨(some 3), .faddr 1 (.t 1), none, 8192, []⟩,
      ⟨(some 4), .load false 1 (.t 3), none, 8200, [0]⟩,
      ⟨(some 5), .bin .neq (.t 4) (.c (.str [])), none, 8208, [1, 0]⟩,
      ⟨(some 6), .copy (.t 5), none, 8216, [2, 1, 0]⟩,
      ⟨(some 7), .faddr 1 (.t 1), (some (3, 6, true)), 8224, [3, 2, 1, 0]⟩,
      ⟨(some 8), .load false 1 (.t 7), (some (3, 6, true)), 8232, [4, 3, 2, 1, 0]⟩,
      ⟨(some 9), .faddr 0 (.t 1), (some (3, 6, true)), 8240, [3, 2, 1, 0]⟩,
      ⟨(some 10), .load false 1 (.t 9), (some (3, 6, true)), 8248, [6, 3, 2, 1, 0]⟩,
      ⟨(some 11), .bin .leq (.t 8) (.t 10), (some (3, 6, true)), 8256, [5, 4, 3, 2, 1, 0, 7, 6]⟩,
      ⟨(some 12), .pick (.t 6) (.t 11) (.c (.bool false)), none, 8264, [3, 2, 1, 0, 8, 5, 4, 7, 6]⟩,
      ⟨(some 2), .copy (.t 12), none, 8272, [9, 3, 2, 1, 0, 8, 5, 4, 7, 6]⟩])
    .ret))
theorem vf23 : VF Try.prog 23 = some (13, vc23, [.tmp 2]) := by kernel_rfl
/-- downspout/downspoutref02.Empty -/
def vc24 : VCode :=
  (.seq
   (.region 0 false [
     ⟨(some 1), .box (.t 0), none, 0, []⟩,
     ⟨(some 2), .copy (.c (.bool false)), none, 8, []⟩])
   (.seq
    (.region 1 false [
      ⟨(some 3), .faddr 1 (.t 1), none, 8192, []⟩,
      ⟨(some 4), .load false 1 (.t 3), none, 8200, [0]⟩,
      ⟨(some 5), .bin .neq (.t 4) (.c (.str [])), none, 8208, [1, 0]⟩,
      ⟨(some 6), .copy (.t 5), none, 8216, [2, 1, 0]⟩,
      ⟨(some 7), .faddr 1 (.t 1), (some (3, 6, true)), 8224, [3, 2, 1, 0]⟩,
      ⟨(some 8), .load false 1 (.t 7), (some (3, 6, true)), 8232, [4, 3, 2, 1, 0]⟩,
      ⟨(some 9), .faddr 0 (.t 1), (some (3, 6, true)), 8240, [3, 2, 1, 0]⟩,
      ⟨(some 10), .load false 1 (.t 9), (some (3, 6, true)), 8248, [6, 3, 2, 1, 0]⟩,
      ⟨(some 11), .bin .leq (.t 8) (.t 10), (some (3, 6, true)), 8256, [5, 4, 3, 2, 1, 0, 7, 6]⟩,
      ⟨(some 12), .pick (.t 6) (.t 11) (.c (.bool false)), none, 8264, [3, 2, 1, 0, 8, 5, 4, 7, 6]⟩,
      ⟨(some 2), .copy (.t 12), none, 8272, [9, 3, 2, 1, 0, 8, 5, 4, 7, 6]⟩])
    .ret))
theorem vf24 : VF Try.prog 24 = some (13, vc24, [.tmp 2]) := by kernel_rfl
/-- downspout/span.One -/
def vc17 : VCode :=
  (.seq
   (.region 0 false [
     ⟨(some 2), .alloc [(.str []), (.str [])], none, 0, []⟩])
   (.seq
    (.region 1 false [
      ⟨(some 3), .copy (.t 0), none, 8192, []⟩,
      ⟨(some 4), .copy (.t 0), none, 8200, []⟩,
      ⟨(some 5), .bin .add (.t 4) (.c (.str [0])), none, 8208, [1]⟩,
      ⟨(some 6), .build [(.str []), (.str [])] [(0, 1, (.t 3)), (1, 1, (.t 5))], none, 8216, [0, 2, 1]⟩,
      ⟨none, .store 2 (.t 2) (.t 6), none, 8224, [3, 0, 2, 1]⟩])
    .ret))
theorem vf17 : VF Try.prog 17 = some (7, vc17, [.cell true 2 2]) := by kernel_rfl
/-- downspout/downspoutref02.One -/
def vc18 : VCode :=
  (.seq
   (.region 0 false [
     ⟨(some 2), .alloc [(.str []), (.str [])], none, 0, []⟩])
   (.seq
    (.region 1 false [
      ⟨(some 3), .copy (.t 0), none, 8192, []⟩,
      ⟨(some 4), .copy (.t 0), none, 8200, []⟩,
      ⟨(some 5), .bin .add (.t 4) (.c (.str [0])), none, 8208, [1]⟩,
      ⟨(some 6), .build [(.str []), (.str [])] [(0, 1, (.t 3)), (1, 1, (.t 5))], none, 8216, [0, 2, 1]⟩,
      ⟨none, .store 2 (.t 2) (.t 6), none, 8224, [3, 0, 2, 1]⟩])
    .ret))
theorem vf18 : VF Try.prog 18 = some (7, vc18, [.cell true 2 2]) := by kernel_rfl
/-- downspout/downspoutlaw02.sp -/
def vc19 : VCode :=
  (.seq
   (.region 0 false [
     ⟨(some 4), .alloc [(.str []), (.str [])], none, 0, []⟩])
   (.seq
    (.region 1 false [
      ⟨(some 5), .copy (.t 0), none, 8192, []⟩,
      ⟨(some 6), .copy (.t 1), none, 8200, []⟩,
      ⟨(some 7), .build [(.str []), (.str [])] [(0, 1, (.t 5)), (1, 1, (.t 6))], none, 8208, [0, 1]⟩,
      ⟨none, .store 2 (.t 4) (.t 7), none, 8216, [2, 0, 1]⟩])
    .ret))
theorem vf19 : VF Try.prog 19 = some (8, vc19, [.cell true 2 4]) := by kernel_rfl
/-- downspout/downspoutref02.None -/
def vc42 : VCode :=
  (.seq
   (.region 0 false [
     ⟨(some 0), .alloc [(.str []), (.str [])], none, 0, []⟩])
   (.seq
    (.region 1 false [
      ⟨(some 1), .build [(.str []), (.str [])] [(0, 1, (.c (.str [97]))), (1, 1, (.c (.str [97])))], none, 8192, []⟩,
      ⟨none, .store 2 (.t 0) (.t 1), none, 8200, [0]⟩])
    .ret))
theorem vf42 : VF Try.prog 42 = some (2, vc42, [.cell true 2 0]) := by kernel_rfl
/-- (downspout/span.end).compare -/
def vc43 : VCode :=
  (.seq
   (.region 0 false [
     ⟨(some 4), .copy (.c (.int .i64 0)), none, 0, []⟩])
   (.seq
    (.block 0
     (.seq
      (.region 1 false [
        ⟨(some 6), .copy (.t 0), none, 8192, []⟩,
        ⟨(some 7), .copy (.t 1), none, 8200, []⟩,
        ⟨(some 8), .bin .eql (.t 6) (.t 7), none, 8208, [0, 1]⟩,
        ⟨(some 5), .copy (.t 8), none, 8216, [2, 0, 1]⟩])
      (.cond (.t 5)
       (.seq
        (.region 2 false [
          ⟨(some 4), .copy (.c (.int .i64 0)), none, 16384, []⟩])
        .ret)
       (.seq
        (.region 3 false [
          ⟨(some 10), .copy (.t 0), none, 24576, []⟩,
          ⟨(some 11), .bin .eql (.t 10) (.c (.str [])), none, 24584, [0]⟩,
          ⟨(some 9), .copy (.t 11), none, 24592, [1, 0]⟩])
        (.cond (.t 9)
         (.seq
          (.region 4 false [
            ⟨(some 4), .copy (.c (.int .i64 1)), none, 32768, []⟩])
          .ret)
         (.seq
          (.region 5 false [
            ⟨(some 13), .copy (.t 1), none, 40960, []⟩,
            ⟨(some 14), .bin .eql (.t 13) (.c (.str [])), none, 40968, [0]⟩,
            ⟨(some 12), .copy (.t 14), none, 40976, [1, 0]⟩])
          (.cond (.t 12)
           (.seq
            (.region 6 false [
              ⟨(some 4), .copy (.c (.int .i64 (-1))), none, 49152, []⟩])
            .ret)
           .skip)))))))
    (.seq
     (.region 7 false [
       ⟨(some 15), .copy (.t 0), none, 57344, []⟩,
       ⟨(some 16), .copy (.t 1), none, 57352, []⟩,
       ⟨(some 17), .call (.c (.fn 53 [])) [(.t 15), (.t 16)], none, 57360, [0, 1]⟩,
       ⟨(some 4), .copy (.t 17), none, 57368, [2, 0, 1]⟩])
     .ret)))
theorem vf43 : VF Try.prog 43 = some (18, vc43, [.tmp 4]) := by kernel_rfl
/-- cmp.Compare[downspout/span.end] -/
def vc53 : VCode :=
  (.seq
   (.region 0 false [
     ⟨(some 4), .copy (.c (.int .i64 0)), none, 0, []⟩])
   (.seq
    (.region 1 false [
      ⟨(some 7), .copy (.t 0), none, 8192, []⟩,
      ⟨(some 8), .call (.c (.fn 59 [])) [(.t 7)], none, 8200, [0]⟩,
      ⟨(some 5), .copy (.t 8), none, 8208, [1, 0]⟩])
    (.seq
     (.region 2 false [
       ⟨(some 9), .copy (.t 1), none, 16384, []⟩,
       ⟨(some 10), .call (.c (.fn 59 [])) [(.t 9)], none, 16392, [0]⟩,
       ⟨(some 6), .copy (.t 10), none, 16400, [1, 0]⟩])
     (.seq
      (.seq
       (.region 3 false [
         ⟨(some 11), .copy (.t 5), none, 24576, []⟩])
       (.cond (.t 11)
        (.seq
         (.seq
          (.region 4 false [
            ⟨(some 12), .copy (.t 6), none, 32768, []⟩])
          (.cond (.t 12)
           (.seq
            (.region 5 false [
              ⟨(some 4), .copy (.c (.int .i64 0)), none, 40960, []⟩])
            .ret)
           .skip))
         (.seq
          (.region 6 false [
            ⟨(some 4), .copy (.c (.int .i64 (-1))), none, 49152, []⟩])
          .ret))
        .skip))
      (.seq
       (.seq
        (.region 7 false [
          ⟨(some 13), .copy (.t 6), none, 57344, []⟩])
        (.cond (.t 13)
         (.seq
          (.region 8 false [
            ⟨(some 4), .copy (.c (.int .i64 1)), none, 65536, []⟩])
          .ret)
         .skip))
       (.seq
        (.seq
         (.region 9 false [
           ⟨(some 14), .copy (.t 0), none, 73728, []⟩,
           ⟨(some 15), .copy (.t 1), none, 73736, []⟩,
           ⟨(some 16), .bin .lss (.t 14) (.t 15), none, 73744, [0, 1]⟩])
         (.cond (.t 16)
          (.seq
           (.region 10 false [
             ⟨(some 4), .copy (.c (.int .i64 (-1))), none, 81920, []⟩])
           .ret)
          .skip))
        (.seq
         (.seq
          (.region 11 false [
            ⟨(some 17), .copy (.t 0), none, 90112, []⟩,
            ⟨(some 18), .copy (.t 1), none, 90120, []⟩,
            ⟨(some 19), .bin .gtr (.t 17) (.t 18), none, 90128, [0, 1]⟩])
          (.cond (.t 19)
           (.seq
            (.region 12 false [
              ⟨(some 4), .copy (.c (.int .i64 1)), none, 98304, []⟩])
            .ret)
           .skip))
         (.seq
          (.region 13 false [
            ⟨(some 4), .copy (.c (.int .i64 0)), none, 106496, []⟩])
          .ret))))))))
theorem vf53 : VF Try.prog 53 = some (20, vc53, [.tmp 4]) := by kernel_rfl
/-- cmp.isNaN[downspout/span.end] -/
def vc59 : VCode :=
  (.seq
   (.region 0 false [
     ⟨(some 2), .copy (.c (.bool false)), none, 0, []⟩])
   (.seq
    (.region 1 false [
      ⟨(some 3), .copy (.t 0), none, 8192, []⟩,
      ⟨(some 4), .copy (.t 0), none, 8200, []⟩,
      ⟨(some 5), .bin .neq (.t 3) (.t 4), none, 8208, [0, 1]⟩,
      ⟨(some 2), .copy (.t 5), none, 8216, [2, 0, 1]⟩])
    .ret))
theorem vf59 : VF Try.prog 59 = some (6, vc59, [.tmp 2]) := by kernel_rfl
/-- cmp.Compare[string] -/
def vc48 : VCode :=
  (.seq
   (.region 0 false [
     ⟨(some 4), .copy (.c (.int .i64 0)), none, 0, []⟩])
   (.seq
    (.region 1 false [
      ⟨(some 7), .copy (.t 0), none, 8192, []⟩,
      ⟨(some 8), .call (.c (.fn 57 [])) [(.t 7)], none, 8200, [0]⟩,
      ⟨(some 5), .copy (.t 8), none, 8208, [1, 0]⟩])
    (.seq
     (.region 2 false [
       ⟨(some 9), .copy (.t 1), none, 16384, []⟩,
       ⟨(some 10), .call (.c (.fn 57 [])) [(.t 9)], none, 16392, [0]⟩,
       ⟨(some 6), .copy (.t 10), none, 16400, [1, 0]⟩])
     (.seq
      (.seq
       (.region 3 false [
         ⟨(some 11), .copy (.t 5), none, 24576, []⟩])
       (.cond (.t 11)
        (.seq
         (.seq
          (.region 4 false [
            ⟨(some 12), .copy (.t 6), none, 32768, []⟩])
          (.cond (.t 12)
           (.seq
            (.region 5 false [
              ⟨(some 4), .copy (.c (.int .i64 0)), none, 40960, []⟩])
            .ret)
           .skip))
         (.seq
          (.region 6 false [
            ⟨(some 4), .copy (.c (.int .i64 (-1))), none, 49152, []⟩])
          .ret))
        .skip))
      (.seq
       (.seq
        (.region 7 false [
          ⟨(some 13), .copy (.t 6), none, 57344, []⟩])
        (.cond (.t 13)
         (.seq
          (.region 8 false [
            ⟨(some 4), .copy (.c (.int .i64 1)), none, 65536, []⟩])
          .ret)
         .skip))
       (.seq
        (.seq
         (.region 9 false [
           ⟨(some 14), .copy (.t 0), none, 73728, []⟩,
           ⟨(some 15), .copy (.t 1), none, 73736, []⟩,
           ⟨(some 16), .bin .lss (.t 14) (.t 15), none, 73744, [0, 1]⟩])
         (.cond (.t 16)
          (.seq
           (.region 10 false [
             ⟨(some 4), .copy (.c (.int .i64 (-1))), none, 81920, []⟩])
           .ret)
          .skip))
        (.seq
         (.seq
          (.region 11 false [
            ⟨(some 17), .copy (.t 0), none, 90112, []⟩,
            ⟨(some 18), .copy (.t 1), none, 90120, []⟩,
            ⟨(some 19), .bin .gtr (.t 17) (.t 18), none, 90128, [0, 1]⟩])
          (.cond (.t 19)
           (.seq
            (.region 12 false [
              ⟨(some 4), .copy (.c (.int .i64 1)), none, 98304, []⟩])
            .ret)
           .skip))
         (.seq
          (.region 13 false [
            ⟨(some 4), .copy (.c (.int .i64 0)), none, 106496, []⟩])
          .ret))))))))
theorem vf48 : VF Try.prog 48 = some (20, vc48, [.tmp 4]) := by kernel_rfl
/-- cmp.isNaN[string] -/
def vc57 : VCode :=
  (.seq
   (.region 0 false [
     ⟨(some 2), .copy (.c (.bool false)), none, 0, []⟩])
   (.seq
    (.region 1 false [
      ⟨(some 3), .copy (.t 0), none, 8192, []⟩,
      ⟨(some 4), .copy (.t 0), none, 8200, []⟩,
      ⟨(some 5), .bin .neq (.t 3) (.t 4), none, 8208, [0, 1]⟩,
      ⟨(some 2), .copy (.t 5), none, 8216, [2, 0, 1]⟩])
    .ret))
theorem vf57 : VF Try.prog 57 = some (6, vc57, [.tmp 2]) := by kernel_rfl
/-- slices.MinFunc[[]downspout/span.end,downspout/span.end] -/
def vc52 : VCode :=
  (.seq
   (.region 0 false [
     ⟨(some 4), .copy (.c (.str [])), none, 0, []⟩])
   (.seq
    (.seq
     (.region 1 false [
       ⟨(some 7), .copy (.t 0), none, 8192, []⟩,
       ⟨(some 8), .len (.t 7), none, 8200, [0]⟩,
       ⟨(some 9), .bin .lss (.t 8) (.c (.int .i64 1)), none, 8208, [1, 0]⟩])
     (.cond (.t 9)
      (.region 2 false [
        ⟨(some 10), .bad, none, 16384, []⟩,
        ⟨none, .bad, none, 16392, [0]⟩])
      .skip))
    (.seq
     (.region 3 false [
       ⟨(some 11), .copy (.t 0), none, 24576, []⟩,
       ⟨(some 12), .iaddr 1 (.t 11) (.c (.int .i64 0)), none, 24584, [0]⟩,
       ⟨(some 13), .load false 1 (.t 12), none, 24592, [1, 0]⟩,
       ⟨(some 5), .copy (.t 13), none, 24600, [2, 1, 0]⟩])
     (.seq
      (.seq
       (.region 4 false [
         ⟨(some 6), .copy (.c (.int .i64 1)), none, 32768, []⟩])
       (.block 0
        (.loop
         (.seq
          (.seq
           (.region 5 false [
             ⟨(some 14), .copy (.t 6), none, 40960, []⟩,
             ⟨(some 15), .copy (.t 0), none, 40968, []⟩,
             ⟨(some 16), .len (.t 15), none, 40976, [1]⟩,
             ⟨(some 17), .bin .lss (.t 14) (.t 16), none, 40984, [0, 2, 1]⟩])
           (.cond (.t 17)
            .skip
            (.exit 0)))
          (.seq
           (.block 1
            (.seq
             (.region 7 false [
               ⟨(some 20), .copy (.t 1), none, 57344, []⟩,
               ⟨(some 21), .copy (.t 0), none, 57352, []⟩,
               ⟨(some 22), .copy (.t 6), none, 57360, []⟩,
               ⟨(some 23), .iaddr 1 (.t 21) (.t 22), none, 57368, [1, 2]⟩,
               ⟨(some 24), .load false 1 (.t 23), none, 57376, [3, 1, 2]⟩,
               ⟨(some 25), .copy (.t 5), none, 57384, []⟩,
               ⟨(some 26), .call (.t 20) [(.t 24), (.t 25)], none, 57392, [0, 4, 3, 1, 2, 5]⟩,
               ⟨(some 27), .bin .lss (.t 26) (.c (.int .i64 0)), none, 57400, [6, 0, 4, 3, 1, 2, 5]⟩])
             (.cond (.t 27)
              (.region 8 false [
                ⟨(some 28), .copy (.t 0), none, 65536, []⟩,
                ⟨(some 29), .copy (.t 6), none, 65544, []⟩,
                ⟨(some 30), .iaddr 1 (.t 28) (.t 29), none, 65552, [0, 1]⟩,
                ⟨(some 31), .load false 1 (.t 30), none, 65560, [2, 0, 1]⟩,
                ⟨(some 5), .copy (.t 31), none, 65568, [3, 2, 0, 1]⟩])
              .skip)))
           (.region 6 false [
             ⟨(some 18), .copy (.t 6), none, 49152, []⟩,
             ⟨(some 19), .bin .add (.t 18) (.c (.int .i64 1)), none, 49160, [0]⟩,
             ⟨(some 6), .copy (.t 19), none, 49168, [1, 0]⟩]))))))
      (.seq
       (.region 9 false [
         ⟨(some 32), .copy (.t 5), none, 73728, []⟩,
         ⟨(some 4), .copy (.t 32), none, 73736, [0]⟩])
       .ret)))))
theorem vf52 : VF Try.prog 52 = some (33, vc52, [.tmp 4]) := by kernel_rfl
/-- downspout/span.least -/
def vc40 : VCode :=
  (.seq
   (.region 0 false [
     ⟨(some 2), .copy (.c (.str [])), none, 0, []⟩])
   (.seq
    (.region 1 false [
      ⟨(some 3), .copy (.t 0), none, 8192, []⟩,
      ⟨(some 4), .call (.c (.fn 52 [])) [(.t 3), (.c (.fn 43 []))], none, 8200, [0]⟩,
      ⟨(some 2), .copy (.t 4), none, 8208, [1, 0]⟩])
    .ret))
theorem vf40 : VF Try.prog 40 = some (5, vc40, [.tmp 2]) := by kernel_rfl
/-- downspout/span.Meet -/
def vc25 : VCode :=
  (.seq
   (.region 0 false [
     ⟨(some 2), .box (.t 0), none, 0, []⟩,
     ⟨(some 3), .box (.t 1), none, 8, []⟩,
     ⟨(some 4), .alloc [(.str []), (.str [])], none, 16, []⟩])
   (.seq
    (.region 1 true [
      ⟨(some 6), .faddr 0 (.t 2), none, 8192, []⟩,
      ⟨(some 7), .load false 1 (.t 6), none, 8200, [0]⟩,
      ⟨(some 8), .faddr 0 (.t 3), none, 8208, []⟩,
      ⟨(some 9), .load false 1 (.t 8), none, 8216, [2]⟩,
      ⟨(some 10), .minmax true (.t 7) (.t 9), none, 8224, [1, 0, 3, 2]⟩,
      ⟨(some 11), .faddr 1 (.t 2), none, 8232, []⟩,
      ⟨(some 12), .load false 1 (.t 11), none, 8240, [5]⟩,
      ⟨(some 13), .faddr 1 (.t 3), none, 8248, []⟩,
      ⟨(some 14), .load false 1 (.t 13), none, 8256, [7]⟩,
      ⟨(some 15), .bslice 1 [(.str [])] 2 [(0, (.t 12)), (1, (.t 14))], none, 8264, [6, 5, 8, 7]⟩,
      ⟨(some 16), .call (.c (.fn 40 [])) [(.t 15)], none, 8272, [9, 6, 5, 8, 7]⟩,
      ⟨(some 17), .build [(.str []), (.str [])] [(0, 1, (.t 10)), (1, 1, (.t 16))], none, 8280, [4, 1, 0, 3, 2, 10, 9, 6, 5, 8, 7]⟩,
      ⟨(some 5), .alloc [(.str []), (.str [])], none, 8288, []⟩,
      ⟨none, .store 2 (.t 5) (.t 17), none, 8296, [12, 11, 4, 1, 0, 3, 2, 10, 9, 6, 5, 8, 7]⟩])
    (.seq
     (.seq
      (.region 2 false [
        ⟨(some 18), .load true 2 (.t 5), none, 16384, []⟩,
        ⟨(some 19), .call (.c (.fn 23 [])) [(.t 18)], none, 16392, [0]⟩])
      (.cond (.t 19)
       (.seq
        (.region 3 false [
          ⟨(some 20), .build [(.str []), (.str [])] [(0, 1, (.c (.str [97]))), (1, 1, (.c (.str [97])))], none, 24576, []⟩,
          ⟨none, .store 2 (.t 4) (.t 20), none, 24584, [0]⟩])
        .ret)
       .skip))
     (.seq
      (.region 4 false [
        ⟨(some 21), .load true 2 (.t 5), none, 32768, []⟩,
        ⟨none, .store 2 (.t 4) (.t 21), none, 32776, [0]⟩])
      .ret))))
theorem vf25 : VF Try.prog 25 = some (22, vc25, [.cell true 2 4]) := by kernel_rfl
/-- downspout/span.Covers -/
def vc27 : VCode :=
  (.seq
   (.region 0 false [
     ⟨(some 2), .box (.t 0), none, 0, []⟩,
     ⟨(some 3), .box (.t 1), none, 8, []⟩,
     ⟨(some 4), .copy (.c (.bool false)), none, 16, []⟩])
   (.seq
    (.region 1 false [
      ⟨(some 5), .load true 2 (.t 3), none, 8192, []⟩,
      ⟨(some 6), .call (.c (.fn 23 [])) [(.t 5)], none, 8200, [0]⟩,
      ⟨(some 7), .copy (.t 6), none, 8208, [1, 0]⟩,
      ⟨(some 8), .load true 2 (.t 2), (some (2, 7, false)), 8216, [2, 1, 0]⟩,
      ⟨(some 9), .faddr 0 (.t 3), (some (2, 7, false)), 8224, [2, 1, 0]⟩,
      ⟨(some 10), .load false 1 (.t 9), (some (2, 7, false)), 8232, [4, 2, 1, 0]⟩,
      ⟨(some 11), .call (.c (.fn 21 [])) [(.t 8), (.t 10)], (some (2, 7, false)), 8240, [3, 2, 1, 0, 5, 4]⟩,
      ⟨(some 12), .copy (.t 11), (some (2, 7, false)), 8248, [6, 3, 2, 1, 0, 5, 4]⟩,
      ⟨(some 13), .faddr 1 (.t 2), (some (7, 12, true)), 8256, [7, 6, 3, 2, 1, 0, 5, 4]⟩,
      ⟨(some 14), .load false 1 (.t 13), (some (7, 12, true)), 8264, [8, 7, 6, 3, 2, 1, 0, 5, 4]⟩,
      ⟨(some 15), .faddr 1 (.t 3), (some (7, 12, true)), 8272, [7, 6, 3, 2, 1, 0, 5, 4]⟩,
      ⟨(some 16), .load false 1 (.t 15), (some (7, 12, true)), 8280, [10, 7, 6, 3, 2, 1, 0, 5, 4]⟩,
      ⟨(some 17), .call (.c (.fn 43 [])) [(.t 14), (.t 16)], (some (7, 12, true)), 8288, [9, 8, 7, 6, 3, 2, 1, 0, 5, 4, 11, 10]⟩,
      ⟨(some 18), .bin .geq (.t 17) (.c (.int .i64 0)), (some (7, 12, true)), 8296, [12, 9, 8, 7, 6, 3, 2, 1, 0, 5, 4, 11, 10]⟩,
      ⟨(some 19), .pick (.t 12) (.t 18) (.c (.bool false)), (some (2, 7, false)), 8304, [7, 6, 3, 2, 1, 0, 5, 4, 13, 12, 9, 8, 11, 10]⟩,
      ⟨(some 20), .pick (.t 7) (.c (.bool true)) (.t 19), none, 8312, [2, 1, 0, 14, 7, 6, 3, 5, 4, 13, 12, 9, 8, 11, 10]⟩,
      ⟨(some 4), .copy (.t 20), none, 8320, [15, 2, 1, 0, 14, 7, 6, 3, 5, 4, 13, 12, 9, 8, 11, 10]⟩])
    .ret))
theorem vf27 : VF Try.prog 27 = some (21, vc27, [.tmp 4]) := by kernel_rfl
/-- downspout/downspoutref02.Less -/
def vc41 : VCode :=
  (.seq
   (.region 0 false [
     ⟨(some 4), .copy (.c (.bool false)), none, 0, []⟩])
   (.seq
    (.region 1 false [
      ⟨(some 5), .copy (.t 0), none, 8192, []⟩,
      ⟨(some 6), .bin .neq (.t 5) (.c (.str [])), none, 8200, [0]⟩,
      ⟨(some 7), .copy (.t 6), none, 8208, [1, 0]⟩,
      ⟨(some 8), .copy (.t 1), (some (2, 7, true)), 8216, [2, 1, 0]⟩,
      ⟨(some 9), .bin .eql (.t 8) (.c (.str [])), (some (2, 7, true)), 8224, [3, 2, 1, 0]⟩,
      ⟨(some 10), .copy (.t 9), (some (2, 7, true)), 8232, [4, 3, 2, 1, 0]⟩,
      ⟨(some 11), .copy (.t 0), (some (5, 10, false)), 8240, [5, 4, 3, 2, 1, 0]⟩,
      ⟨(some 12), .copy (.t 1), (some (5, 10, false)), 8248, [5, 4, 3, 2, 1, 0]⟩,
      ⟨(some 13), .bin .lss (.t 11) (.t 12), (some (5, 10, false)), 8256, [6, 5, 4, 3, 2, 1, 0, 7]⟩,
      ⟨(some 14), .pick (.t 10) (.c (.bool true)) (.t 13), (some (2, 7, true)), 8264, [5, 4, 3, 2, 1, 0, 8, 6, 7]⟩,
      ⟨(some 15), .pick (.t 7) (.t 14) (.c (.bool false)), none, 8272, [2, 1, 0, 9, 5, 4, 3, 8, 6, 7]⟩,
      ⟨(some 4), .copy (.t 15), none, 8280, [10, 2, 1, 0, 9, 5, 4, 3, 8, 6, 7]⟩])
    .ret))
theorem vf41 : VF Try.prog 41 = some (16, vc41, [.tmp 4]) := by kernel_rfl
/-- downspout/downspoutref02.Meet -/
def vc26 : VCode :=
  (.seq
   (.region 0 false [
     ⟨(some 2), .box (.t 0), none, 0, []⟩,
     ⟨(some 3), .box (.t 1), none, 8, []⟩,
     ⟨(some 4), .alloc [(.str []), (.str [])], none, 16, []⟩])
   (.seq
    (.region 1 false [
      ⟨(some 6), .faddr 0 (.t 2), none, 8192, []⟩,
      ⟨(some 7), .load false 1 (.t 6), none, 8200, [0]⟩,
      ⟨(some 8), .faddr 0 (.t 3), none, 8208, []⟩,
      ⟨(some 9), .load false 1 (.t 8), none, 8216, [2]⟩,
      ⟨(some 10), .minmax true (.t 7) (.t 9), none, 8224, [1, 0, 3, 2]⟩,
      ⟨(some 11), .faddr 1 (.t 2), none, 8232, []⟩,
      ⟨(some 12), .load false 1 (.t 11), none, 8240, [5]⟩,
      ⟨(some 13), .build [(.str []), (.str [])] [(0, 1, (.t 10)), (1, 1, (.t 12))], none, 8248, [4, 1, 0, 3, 2, 6, 5]⟩,
      ⟨(some 5), .alloc [(.str []), (.str [])], none, 8256, []⟩,
      ⟨none, .store 2 (.t 5) (.t 13), none, 8264, [8, 7, 4, 1, 0, 3, 2, 6, 5]⟩])
    (.seq
     (.seq
      (.region 2 false [
        ⟨(some 14), .faddr 1 (.t 3), none, 16384, []⟩,
        ⟨(some 15), .load false 1 (.t 14), none, 16392, [0]⟩,
        ⟨(some 16), .faddr 1 (.t 2), none, 16400, []⟩,
        ⟨(some 17), .load false 1 (.t 16), none, 16408, [2]⟩,
        ⟨(some 18), .call (.c (.fn 41 [])) [(.t 15), (.t 17)], none, 16416, [1, 0, 3, 2]⟩])
      (.cond (.t 18)
       (.region 3 false [
         ⟨(some 19), .faddr 1 (.t 3), none, 24576, []⟩,
         ⟨(some 20), .load false 1 (.t 19), none, 24584, [0]⟩,
         ⟨(some 21), .faddr 1 (.t 5), none, 24592, [0, 1]⟩,
         ⟨none, .store 1 (.t 21) (.t 20), none, 24600, [2, 0, 1]⟩])
       .skip))
     (.seq
      (.seq
       (.region 4 false [
         ⟨(some 22), .load true 2 (.t 5), none, 32768, []⟩,
         ⟨(some 23), .call (.c (.fn 24 [])) [(.t 22)], none, 32776, [0]⟩])
       (.cond (.t 23)
        (.seq
         (.region 5 false [
           ⟨(some 24), .call (.c (.fn 42 [])) [], none, 40960, []⟩,
           ⟨none, .store 2 (.t 4) (.t 24), none, 40968, [0]⟩])
         .ret)
        .skip))
      (.seq
       (.region 6 false [
         ⟨(some 25), .load true 2 (.t 5), none, 49152, []⟩,
         ⟨none, .store 2 (.t 4) (.t 25), none, 49160, [0]⟩])
       .ret)))))
theorem vf26 : VF Try.prog 26 = some (26, vc26, [.cell true 2 4]) := by kernel_rfl
/-- downspout/downspoutref02.Covers -/
def vc28 : VCode :=
  (.seq
   (.region 0 false [
     ⟨(some 2), .box (.t 0), none, 0, []⟩,
     ⟨(some 3), .box (.t 1), none, 8, []⟩,
     ⟨(some 4), .copy (.c (.bool false)), none, 16, []⟩])
   (.seq
    (.region 1 false [
      ⟨(some 5), .load true 2 (.t 3), none, 8192, []⟩,
      ⟨(some 6), .call (.c (.fn 24 [])) [(.t 5)], none, 8200, [0]⟩,
      ⟨(some 7), .copy (.t 6), none, 8208, [1, 0]⟩,
      ⟨(some 8), .load true 2 (.t 2), (some (2, 7, false)), 8216, [2, 1, 0]⟩,
      ⟨(some 9), .call (.c (.fn 24 [])) [(.t 8)], (some (2, 7, false)), 8224, [3, 2, 1, 0]⟩,
      ⟨(some 10), .not (.t 9), (some (2, 7, false)), 8232, [4, 3, 2, 1, 0]⟩,
      ⟨(some 11), .copy (.t 10), (some (2, 7, false)), 8240, [5, 4, 3, 2, 1, 0]⟩,
      ⟨(some 12), .faddr 0 (.t 2), (some (6, 11, true)), 8248, [6, 5, 4, 3, 2, 1, 0]⟩,
      ⟨(some 13), .load false 1 (.t 12), (some (6, 11, true)), 8256, [7, 6, 5, 4, 3, 2, 1, 0]⟩,
      ⟨(some 14), .faddr 0 (.t 3), (some (6, 11, true)), 8264, [6, 5, 4, 3, 2, 1, 0]⟩,
      ⟨(some 15), .load false 1 (.t 14), (some (6, 11, true)), 8272, [9, 6, 5, 4, 3, 2, 1, 0]⟩,
      ⟨(some 16), .bin .leq (.t 13) (.t 15), (some (6, 11, true)), 8280, [8, 7, 6, 5, 4, 3, 2, 1, 0, 10, 9]⟩,
      ⟨(some 17), .pick (.t 11) (.t 16) (.c (.bool false)), (some (2, 7, false)), 8288, [6, 5, 4, 3, 2, 1, 0, 11, 8, 7, 10, 9]⟩,
      ⟨(some 18), .copy (.t 17), (some (2, 7, false)), 8296, [12, 6, 5, 4, 3, 2, 1, 0, 11, 8, 7, 10, 9]⟩,
      ⟨(some 19), .faddr 1 (.t 2), (some (13, 18, true)), 8304, [13, 12, 6, 5, 4, 3, 2, 1, 0, 11, 8, 7, 10, 9]⟩,
      ⟨(some 20), .load false 1 (.t 19), (some (13, 18, true)), 8312, [14, 13, 12, 6, 5, 4, 3, 2, 1, 0, 11, 8, 7, 10, 9]⟩,
      ⟨(some 21), .faddr 1 (.t 3), (some (13, 18, true)), 8320, [13, 12, 6, 5, 4, 3, 2, 1, 0, 11, 8, 7, 10, 9]⟩,
      ⟨(some 22), .load false 1 (.t 21), (some (13, 18, true)), 8328, [16, 13, 12, 6, 5, 4, 3, 2, 1, 0, 11, 8, 7, 10, 9]⟩,
      ⟨(some 23), .call (.c (.fn 41 [])) [(.t 20), (.t 22)], (some (13, 18, true)), 8336, [15, 14, 13, 12, 6, 5, 4, 3, 2, 1, 0, 11, 8, 7, 10, 9, 17, 16]⟩,
      ⟨(some 24), .not (.t 23), (some (13, 18, true)), 8344, [18, 15, 14, 13, 12, 6, 5, 4, 3, 2, 1, 0, 11, 8, 7, 10, 9, 17, 16]⟩,
      ⟨(some 25), .pick (.t 18) (.t 24) (.c (.bool false)), (some (2, 7, false)), 8352, [13, 12, 6, 5, 4, 3, 2, 1, 0, 11, 8, 7, 10, 9, 19, 18, 15, 14, 17, 16]⟩,
      ⟨(some 26), .pick (.t 7) (.c (.bool true)) (.t 25), none, 8360, [2, 1, 0, 20, 13, 12, 6, 5, 4, 3, 11, 8, 7, 10, 9, 19, 18, 15, 14, 17, 16]⟩,
      ⟨(some 4), .copy (.t 26), none, 8368, [21, 2, 1, 0, 20, 13, 12, 6, 5, 4, 3, 11, 8, 7, 10, 9, 19, 18, 15, 14, 17, 16]⟩])
    .ret))
theorem vf28 : VF Try.prog 28 = some (27, vc28, [.tmp 4]) := by kernel_rfl
/-- internal/stringslite.HasPrefix -/
def vc58 : VCode :=
  (.seq
   (.region 0 false [
     ⟨(some 4), .copy (.c (.bool false)), none, 0, []⟩])
   (.seq
    (.region 1 false [
      ⟨(some 5), .copy (.t 0), none, 8192, []⟩,
      ⟨(some 6), .lenS (.t 5), none, 8200, [0]⟩,
      ⟨(some 7), .copy (.t 1), none, 8208, []⟩,
      ⟨(some 8), .lenS (.t 7), none, 8216, [2]⟩,
      ⟨(some 9), .bin .geq (.t 6) (.t 8), none, 8224, [1, 0, 3, 2]⟩,
      ⟨(some 10), .copy (.t 9), none, 8232, [4, 1, 0, 3, 2]⟩,
      ⟨(some 11), .copy (.t 0), (some (5, 10, true)), 8240, [5, 4, 1, 0, 3, 2]⟩,
      ⟨(some 12), .copy (.t 1), (some (5, 10, true)), 8248, [5, 4, 1, 0, 3, 2]⟩,
      ⟨(some 13), .lenS (.t 12), (some (5, 10, true)), 8256, [7, 5, 4, 1, 0, 3, 2]⟩,
      ⟨(some 14), .slstr (.t 11) none (some (.t 13)), (some (5, 10, true)), 8264, [6, 5, 4, 1, 0, 3, 2, 8, 7]⟩,
      ⟨(some 15), .copy (.t 1), (some (5, 10, true)), 8272, [5, 4, 1, 0, 3, 2]⟩,
      ⟨(some 16), .bin .eql (.t 14) (.t 15), (some (5, 10, true)), 8280, [9, 6, 5, 4, 1, 0, 3, 2, 8, 7, 10]⟩,
      ⟨(some 17), .pick (.t 10) (.t 16) (.c (.bool false)), none, 8288, [5, 4, 1, 0, 3, 2, 11, 9, 6, 8, 7, 10]⟩,
      ⟨(some 4), .copy (.t 17), none, 8296, [12, 5, 4, 1, 0, 3, 2, 11, 9, 6, 8, 7, 10]⟩])
    .ret))
theorem vf58 : VF Try.prog 58 = some (18, vc58, [.tmp 4]) := by kernel_rfl
/-- internal/stringslite.CutPrefix -/
def vc51 : VCode :=
  (.seq
   (.region 0 false [
     ⟨(some 4), .copy (.c (.str [])), none, 0, []⟩,
     ⟨(some 5), .copy (.c (.bool false)), none, 8, [0]⟩])
   (.seq
    (.seq
     (.region 1 false [
       ⟨(some 6), .copy (.t 0), none, 8192, []⟩,
       ⟨(some 7), .copy (.t 1), none, 8200, []⟩,
       ⟨(some 8), .call (.c (.fn 58 [])) [(.t 6), (.t 7)], none, 8208, [0, 1]⟩,
       ⟨(some 9), .not (.t 8), none, 8216, [2, 0, 1]⟩])
     (.cond (.t 9)
      (.seq
       (.region 2 false [
         ⟨(some 10), .copy (.t 0), none, 16384, []⟩,
         ⟨(some 4), .copy (.t 10), none, 16392, [0]⟩,
         ⟨(some 5), .copy (.c (.bool false)), none, 16400, [1, 0]⟩])
       .ret)
      .skip))
    (.seq
     (.region 3 false [
       ⟨(some 11), .copy (.t 0), none, 24576, []⟩,
       ⟨(some 12), .copy (.t 1), none, 24584, []⟩,
       ⟨(some 13), .lenS (.t 12), none, 24592, [1]⟩,
       ⟨(some 14), .slstr (.t 11) (some (.t 13)) none, none, 24600, [0, 2, 1]⟩,
       ⟨(some 4), .copy (.t 14), none, 24608, [3, 0, 2, 1]⟩,
       ⟨(some 5), .copy (.c (.bool true)), none, 24616, [4, 3, 0, 2, 1]⟩])
     .ret)))
theorem vf51 : VF Try.prog 51 = some (15, vc51, [.tmp 4, .tmp 5]) := by kernel_rfl
/-- strings.CutPrefix -/
def vc39 : VCode :=
  (.seq
   (.region 0 false [
     ⟨(some 4), .copy (.c (.str [])), none, 0, []⟩,
     ⟨(some 5), .copy (.c (.bool false)), none, 8, [0]⟩])
   (.seq
    (.region 1 false [
      ⟨(some 6), .copy (.t 0), none, 8192, []⟩,
      ⟨(some 7), .copy (.t 1), none, 8200, []⟩,
      ⟨(some 8), .call (.c (.fn 51 [])) [(.t 6), (.t 7)], none, 8208, [0, 1]⟩,
      ⟨(some 9), .extract (.t 8) 0, none, 8216, [2, 0, 1]⟩,
      ⟨(some 10), .extract (.t 8) 1, none, 8224, [2, 0, 1]⟩,
      ⟨(some 4), .copy (.t 9), none, 8232, [3, 2, 0, 1, 4]⟩,
      ⟨(some 5), .copy (.t 10), none, 8240, [4, 2, 0, 1, 5, 3]⟩])
    .ret))
theorem vf39 : VF Try.prog 39 = some (11, vc39, [.tmp 4, .tmp 5]) := by kernel_rfl
/-- downspout/span.Moved -/
def vc13 : VCode :=
  (.seq
   (.region 0 false [
     ⟨(some 6), .copy (.c (.str [])), none, 0, []⟩,
     ⟨(some 7), .copy (.c (.bool false)), none, 8, [0]⟩])
   (.seq
    (.region 1 false [
      ⟨(some 11), .copy (.t 0), none, 8192, []⟩,
      ⟨(some 12), .copy (.t 1), none, 8200, []⟩,
      ⟨(some 13), .call (.c (.fn 39 [])) [(.t 11), (.t 12)], none, 8208, [0, 1]⟩,
      ⟨(some 10), .copy (.t 13), none, 8216, [2, 0, 1]⟩,
      ⟨(some 14), .extract (.t 10) 0, none, 8224, [3, 2, 0, 1]⟩,
      ⟨(some 15), .extract (.t 10) 1, none, 8232, [3, 2, 0, 1]⟩,
      ⟨(some 8), .copy (.t 14), none, 8240, [4, 3, 2, 0, 1]⟩,
      ⟨(some 9), .copy (.t 15), none, 8248, [5, 3, 2, 0, 1, 6, 4]⟩])
    (.seq
     (.seq
      (.region 2 false [
        ⟨(some 16), .copy (.t 9), none, 16384, []⟩,
        ⟨(some 17), .not (.t 16), none, 16392, [0]⟩])
      (.cond (.t 17)
       (.seq
        (.region 3 false [
          ⟨(some 6), .copy (.c (.str [])), none, 24576, []⟩,
          ⟨(some 7), .copy (.c (.bool false)), none, 24584, [0]⟩])
        .ret)
       .skip))
     (.seq
      (.region 4 false [
        ⟨(some 18), .copy (.t 2), none, 32768, []⟩,
        ⟨(some 19), .copy (.t 8), none, 32776, []⟩,
        ⟨(some 20), .bin .add (.t 18) (.t 19), none, 32784, [0, 1]⟩,
        ⟨(some 6), .copy (.t 20), none, 32792, [2, 0, 1]⟩,
        ⟨(some 7), .copy (.c (.bool true)), none, 32800, [3, 2, 0, 1]⟩])
      .ret))))
theorem vf13 : VF Try.prog 13 = some (21, vc13, [.tmp 6, .tmp 7]) := by kernel_rfl
/-- downspout/downspoutref02.Begins -/
def vc37 : VCode :=
  (.seq
   (.region 0 false [
     ⟨(some 4), .copy (.c (.bool false)), none, 0, []⟩])
   (.seq
    (.region 1 false [
      ⟨(some 5), .copy (.t 0), none, 8192, []⟩,
      ⟨(some 6), .lenS (.t 5), none, 8200, [0]⟩,
      ⟨(some 7), .copy (.t 1), none, 8208, []⟩,
      ⟨(some 8), .lenS (.t 7), none, 8216, [2]⟩,
      ⟨(some 9), .bin .geq (.t 6) (.t 8), none, 8224, [1, 0, 3, 2]⟩,
      ⟨(some 10), .copy (.t 9), none, 8232, [4, 1, 0, 3, 2]⟩,
      ⟨(some 11), .copy (.t 0), (some (5, 10, true)), 8240, [5, 4, 1, 0, 3, 2]⟩,
      ⟨(some 12), .copy (.t 1), (some (5, 10, true)), 8248, [5, 4, 1, 0, 3, 2]⟩,
      ⟨(some 13), .lenS (.t 12), (some (5, 10, true)), 8256, [7, 5, 4, 1, 0, 3, 2]⟩,
      ⟨(some 14), .slstr (.t 11) none (some (.t 13)), (some (5, 10, true)), 8264, [6, 5, 4, 1, 0, 3, 2, 8, 7]⟩,
      ⟨(some 15), .copy (.t 1), (some (5, 10, true)), 8272, [5, 4, 1, 0, 3, 2]⟩,
      ⟨(some 16), .bin .eql (.t 14) (.t 15), (some (5, 10, true)), 8280, [9, 6, 5, 4, 1, 0, 3, 2, 8, 7, 10]⟩,
      ⟨(some 17), .pick (.t 10) (.t 16) (.c (.bool false)), none, 8288, [5, 4, 1, 0, 3, 2, 11, 9, 6, 8, 7, 10]⟩,
      ⟨(some 4), .copy (.t 17), none, 8296, [12, 5, 4, 1, 0, 3, 2, 11, 9, 6, 8, 7, 10]⟩])
    .ret))
theorem vf37 : VF Try.prog 37 = some (18, vc37, [.tmp 4]) := by kernel_rfl
/-- downspout/downspoutref02.Moved -/
def vc14 : VCode :=
  (.seq
   (.region 0 false [
     ⟨(some 6), .copy (.c (.str [])), none, 0, []⟩,
     ⟨(some 7), .copy (.c (.bool false)), none, 8, [0]⟩])
   (.seq
    (.seq
     (.region 1 false [
       ⟨(some 8), .copy (.t 0), none, 8192, []⟩,
       ⟨(some 9), .copy (.t 1), none, 8200, []⟩,
       ⟨(some 10), .call (.c (.fn 37 [])) [(.t 8), (.t 9)], none, 8208, [0, 1]⟩,
       ⟨(some 11), .not (.t 10), none, 8216, [2, 0, 1]⟩])
     (.cond (.t 11)
      (.seq
       (.region 2 false [
         ⟨(some 6), .copy (.c (.str [])), none, 16384, []⟩,
         ⟨(some 7), .copy (.c (.bool false)), none, 16392, [0]⟩])
       .ret)
      .skip))
    (.seq
     (.region 3 false [
       ⟨(some 12), .copy (.t 2), none, 24576, []⟩,
       ⟨(some 13), .copy (.t 0), none, 24584, []⟩,
       ⟨(some 14), .copy (.t 1), none, 24592, []⟩,
       ⟨(some 15), .lenS (.t 14), none, 24600, [2]⟩,
       ⟨(some 16), .slstr (.t 13) (some (.t 15)) none, none, 24608, [1, 3, 2]⟩,
       ⟨(some 17), .bin .add (.t 12) (.t 16), none, 24616, [0, 4, 1, 3, 2]⟩,
       ⟨(some 6), .copy (.t 17), none, 24624, [5, 0, 4, 1, 3, 2]⟩,
       ⟨(some 7), .copy (.c (.bool true)), none, 24632, [6, 5, 0, 4, 1, 3, 2]⟩])
     .ret)))
theorem vf14 : VF Try.prog 14 = some (18, vc14, [.tmp 6, .tmp 7]) := by kernel_rfl
abbrev encS (s : SpanL) : List PV := [.str s.lo, .str s.hi]
theorem has_vc (s : SpanL) (k : Str) : VC Try.prog 21 [.agg (encS s), .str k] [] (.bool (hasL s k)) [] := by
  refine vc_of vf21 ?_ (Nat.le_of_ble_eq_true rfl) (by intro vs h; cases h)
  repeat' first | refine o_copy ?_ | refine nl ?_ | refine ct_seq ?_ | refine rg ?_ | refine ct_block ?_ | refine bq ?_ | refine ct_skip ?_ | refine ct_exit ?_ | refine rt_next ?_ | refine cndt ?_ | refine cndf ?_ | refine o_copy ?_ | refine o_loads ?_ | refine o_loadp ?_ | refine o_faddr ?_ | refine o_iaddr ?_ | refine o_iaddrO ?_ | refine o_iaddrR ?_ | refine o_b2sR ?_ | refine o_indexS ?_ | refine o_add ?_ | refine o_sub ?_ | refine o_cat ?_ | refine o_bin ?_ | refine o_lenq ?_ | refine o_len ?_ | refine o_loadsA ?_ | refine o_loadpA ?_ | refine o_box ?_ | refine o_alloc ?_ | refine o_bslice ?_ | refine o_s2b ?_ | refine o_store ?_ | refine o_field ?_ | refine o_not ?_ | refine o_pickt ?_ | refine o_pickf ?_ | refine o_build ?_ | refine o_extract ?_ | refine o_iaddrA ?_ | refine o_eqb ?_ | refine o_eqc ?_ | refine o_nilc ?_ | refine o_isnil ?_ | refine o_fn ?_ | refine o_lenS ?_ | refine o_cstr ?_ | refine o_minmax ?_ | refine skF ?_ | refine skU ?_ | refine ct_ret ⟨.inr rfl, ?_⟩ | refine cnd (fun _ => ?_) (fun _ => ?_) | (refine glook (fun _ => ?_) (fun _ => ?_) <;> first | refine o_copy ?_ | refine o_loads ?_ | refine o_loadp ?_ | refine o_faddr ?_ | refine o_iaddr ?_ | refine o_iaddrO ?_ | refine o_iaddrR ?_ | refine o_b2sR ?_ | refine o_indexS ?_ | refine o_add ?_ | refine o_sub ?_ | refine o_cat ?_ | refine o_bin ?_ | refine o_lenq ?_ | refine o_len ?_ | refine o_loadsA ?_ | refine o_loadpA ?_ | refine o_box ?_ | refine o_alloc ?_ | refine o_bslice ?_ | refine o_s2b ?_ | refine o_store ?_ | refine o_field ?_ | refine o_not ?_ | refine o_pickt ?_ | refine o_pickf ?_ | refine o_build ?_ | refine o_extract ?_ | refine o_iaddrA ?_ | refine o_eqb ?_ | refine o_eqc ?_ | refine o_nilc ?_ | refine o_isnil ?_ | refine o_fn ?_ | refine o_lenS ?_ | refine o_cstr ?_ | refine o_minmax ?_ | refine skF ?_ | refine skU ?_)
  all_goals refine oB ?_
  all_goals simp_all [hasL]
theorem rhas_vc (s : SpanL) (k : Str) : VC Try.prog 22 [.agg (encS s), .str k] [] (.bool (hasL s k)) [] := by
  refine vc_of vf22 ?_ (Nat.le_of_ble_eq_true rfl) (by intro vs h; cases h)
  repeat' first | refine o_copy ?_ | refine nl ?_ | refine ct_seq ?_ | refine rg ?_ | refine ct_block ?_ | refine bq ?_ | refine ct_skip ?_ | refine ct_exit ?_ | refine rt_next ?_ | refine cndt ?_ | refine cndf ?_ | refine o_copy ?_ | refine o_loads ?_ | refine o_loadp ?_ | refine o_faddr ?_ | refine o_iaddr ?_ | refine o_iaddrO ?_ | refine o_iaddrR ?_ | refine o_b2sR ?_ | refine o_indexS ?_ | refine o_add ?_ | refine o_sub ?_ | refine o_cat ?_ | refine o_bin ?_ | refine o_lenq ?_ | refine o_len ?_ | refine o_loadsA ?_ | refine o_loadpA ?_ | refine o_box ?_ | refine o_alloc ?_ | refine o_bslice ?_ | refine o_s2b ?_ | refine o_store ?_ | refine o_field ?_ | refine o_not ?_ | refine o_pickt ?_ | refine o_pickf ?_ | refine o_build ?_ | refine o_extract ?_ | refine o_iaddrA ?_ | refine o_eqb ?_ | refine o_eqc ?_ | refine o_nilc ?_ | refine o_isnil ?_ | refine o_fn ?_ | refine o_lenS ?_ | refine o_cstr ?_ | refine o_minmax ?_ | refine skF ?_ | refine skU ?_ | refine ct_ret ⟨.inr rfl, ?_⟩ | refine cnd (fun _ => ?_) (fun _ => ?_) | (refine glook (fun _ => ?_) (fun _ => ?_) <;> first | refine o_copy ?_ | refine o_loads ?_ | refine o_loadp ?_ | refine o_faddr ?_ | refine o_iaddr ?_ | refine o_iaddrO ?_ | refine o_iaddrR ?_ | refine o_b2sR ?_ | refine o_indexS ?_ | refine o_add ?_ | refine o_sub ?_ | refine o_cat ?_ | refine o_bin ?_ | refine o_lenq ?_ | refine o_len ?_ | refine o_loadsA ?_ | refine o_loadpA ?_ | refine o_box ?_ | refine o_alloc ?_ | refine o_bslice ?_ | refine o_s2b ?_ | refine o_store ?_ | refine o_field ?_ | refine o_not ?_ | refine o_pickt ?_ | refine o_pickf ?_ | refine o_build ?_ | refine o_extract ?_ | refine o_iaddrA ?_ | refine o_eqb ?_ | refine o_eqc ?_ | refine o_nilc ?_ | refine o_isnil ?_ | refine o_fn ?_ | refine o_lenS ?_ | refine o_cstr ?_ | refine o_minmax ?_ | refine skF ?_ | refine skU ?_)
  all_goals refine oB ?_
  all_goals simp_all [hasL]
theorem empty_vc (s : SpanL) : VC Try.prog 23 [.agg (encS s)] [] (.bool (emptyL s)) [] := by
  refine vc_of vf23 ?_ (Nat.le_of_ble_eq_true rfl) (by intro vs h; cases h)
  repeat' first | refine o_copy ?_ | refine nl ?_ | refine ct_seq ?_ | refine rg ?_ | refine ct_block ?_ | refine bq ?_ | refine ct_skip ?_ | refine ct_exit ?_ | refine rt_next ?_ | refine cndt ?_ | refine cndf ?_ | refine o_copy ?_ | refine o_loads ?_ | refine o_loadp ?_ | refine o_faddr ?_ | refine o_iaddr ?_ | refine o_iaddrO ?_ | refine o_iaddrR ?_ | refine o_b2sR ?_ | refine o_indexS ?_ | refine o_add ?_ | refine o_sub ?_ | refine o_cat ?_ | refine o_bin ?_ | refine o_lenq ?_ | refine o_len ?_ | refine o_loadsA ?_ | refine o_loadpA ?_ | refine o_box ?_ | refine o_alloc ?_ | refine o_bslice ?_ | refine o_s2b ?_ | refine o_store ?_ | refine o_field ?_ | refine o_not ?_ | refine o_pickt ?_ | refine o_pickf ?_ | refine o_build ?_ | refine o_extract ?_ | refine o_iaddrA ?_ | refine o_eqb ?_ | refine o_eqc ?_ | refine o_nilc ?_ | refine o_isnil ?_ | refine o_fn ?_ | refine o_lenS ?_ | refine o_cstr ?_ | refine o_minmax ?_ | refine skF ?_ | refine skU ?_ | refine ct_ret ⟨.inr rfl, ?_⟩ | refine cnd (fun _ => ?_) (fun _ => ?_) | (refine glook (fun _ => ?_) (fun _ => ?_) <;> first | refine o_copy ?_ | refine o_loads ?_ | refine o_loadp ?_ | refine o_faddr ?_ | refine o_iaddr ?_ | refine o_iaddrO ?_ | refine o_iaddrR ?_ | refine o_b2sR ?_ | refine o_indexS ?_ | refine o_add ?_ | refine o_sub ?_ | refine o_cat ?_ | refine o_bin ?_ | refine o_lenq ?_ | refine o_len ?_ | refine o_loadsA ?_ | refine o_loadpA ?_ | refine o_box ?_ | refine o_alloc ?_ | refine o_bslice ?_ | refine o_s2b ?_ | refine o_store ?_ | refine o_field ?_ | refine o_not ?_ | refine o_pickt ?_ | refine o_pickf ?_ | refine o_build ?_ | refine o_extract ?_ | refine o_iaddrA ?_ | refine o_eqb ?_ | refine o_eqc ?_ | refine o_nilc ?_ | refine o_isnil ?_ | refine o_fn ?_ | refine o_lenS ?_ | refine o_cstr ?_ | refine o_minmax ?_ | refine skF ?_ | refine skU ?_)
  all_goals refine oB ?_
  all_goals simp_all [emptyL]
theorem rempty_vc (s : SpanL) : VC Try.prog 24 [.agg (encS s)] [] (.bool (emptyL s)) [] := by
  refine vc_of vf24 ?_ (Nat.le_of_ble_eq_true rfl) (by intro vs h; cases h)
  repeat' first | refine o_copy ?_ | refine nl ?_ | refine ct_seq ?_ | refine rg ?_ | refine ct_block ?_ | refine bq ?_ | refine ct_skip ?_ | refine ct_exit ?_ | refine rt_next ?_ | refine cndt ?_ | refine cndf ?_ | refine o_copy ?_ | refine o_loads ?_ | refine o_loadp ?_ | refine o_faddr ?_ | refine o_iaddr ?_ | refine o_iaddrO ?_ | refine o_iaddrR ?_ | refine o_b2sR ?_ | refine o_indexS ?_ | refine o_add ?_ | refine o_sub ?_ | refine o_cat ?_ | refine o_bin ?_ | refine o_lenq ?_ | refine o_len ?_ | refine o_loadsA ?_ | refine o_loadpA ?_ | refine o_box ?_ | refine o_alloc ?_ | refine o_bslice ?_ | refine o_s2b ?_ | refine o_store ?_ | refine o_field ?_ | refine o_not ?_ | refine o_pickt ?_ | refine o_pickf ?_ | refine o_build ?_ | refine o_extract ?_ | refine o_iaddrA ?_ | refine o_eqb ?_ | refine o_eqc ?_ | refine o_nilc ?_ | refine o_isnil ?_ | refine o_fn ?_ | refine o_lenS ?_ | refine o_cstr ?_ | refine o_minmax ?_ | refine skF ?_ | refine skU ?_ | refine ct_ret ⟨.inr rfl, ?_⟩ | refine cnd (fun _ => ?_) (fun _ => ?_) | (refine glook (fun _ => ?_) (fun _ => ?_) <;> first | refine o_copy ?_ | refine o_loads ?_ | refine o_loadp ?_ | refine o_faddr ?_ | refine o_iaddr ?_ | refine o_iaddrO ?_ | refine o_iaddrR ?_ | refine o_b2sR ?_ | refine o_indexS ?_ | refine o_add ?_ | refine o_sub ?_ | refine o_cat ?_ | refine o_bin ?_ | refine o_lenq ?_ | refine o_len ?_ | refine o_loadsA ?_ | refine o_loadpA ?_ | refine o_box ?_ | refine o_alloc ?_ | refine o_bslice ?_ | refine o_s2b ?_ | refine o_store ?_ | refine o_field ?_ | refine o_not ?_ | refine o_pickt ?_ | refine o_pickf ?_ | refine o_build ?_ | refine o_extract ?_ | refine o_iaddrA ?_ | refine o_eqb ?_ | refine o_eqc ?_ | refine o_nilc ?_ | refine o_isnil ?_ | refine o_fn ?_ | refine o_lenS ?_ | refine o_cstr ?_ | refine o_minmax ?_ | refine skF ?_ | refine skU ?_)
  all_goals refine oB ?_
  all_goals simp_all [emptyL]
theorem one_vc (k : Str) (hk : k.length ≤ 1000000000) : VC Try.prog 17 [.str k] [] (.agg (encS (oneL k))) [] := by
  refine vc_of vf17 ?_ (Nat.le_of_ble_eq_true rfl) (by intro vs h; cases h)
  repeat' first | refine o_copy ?_ | refine nl ?_ | refine ct_seq ?_ | refine rg ?_ | refine ct_block ?_ | refine bq ?_ | refine ct_skip ?_ | refine ct_exit ?_ | refine rt_next ?_ | refine cndt ?_ | refine cndf ?_ | refine o_copy ?_ | refine o_loads ?_ | refine o_loadp ?_ | refine o_faddr ?_ | refine o_iaddr ?_ | refine o_iaddrO ?_ | refine o_iaddrR ?_ | refine o_b2sR ?_ | refine o_indexS ?_ | refine o_add ?_ | refine o_sub ?_ | refine o_cat ?_ | refine o_bin ?_ | refine o_lenq ?_ | refine o_len ?_ | refine o_loadsA ?_ | refine o_loadpA ?_ | refine o_box ?_ | refine o_alloc ?_ | refine o_bslice ?_ | refine o_s2b ?_ | refine o_store ?_ | refine o_field ?_ | refine o_not ?_ | refine o_pickt ?_ | refine o_pickf ?_ | refine o_build ?_ | refine o_extract ?_ | refine o_iaddrA ?_ | refine o_eqb ?_ | refine o_eqc ?_ | refine o_nilc ?_ | refine o_isnil ?_ | refine o_fn ?_ | refine o_lenS ?_ | refine o_cstr ?_ | refine o_minmax ?_ | refine skF ?_ | refine skU ?_ | refine ct_ret ⟨.inr rfl, ?_⟩ | refine cnd (fun _ => ?_) (fun _ => ?_) | (refine glook (fun _ => ?_) (fun _ => ?_) <;> first | refine o_copy ?_ | refine o_loads ?_ | refine o_loadp ?_ | refine o_faddr ?_ | refine o_iaddr ?_ | refine o_iaddrO ?_ | refine o_iaddrR ?_ | refine o_b2sR ?_ | refine o_indexS ?_ | refine o_add ?_ | refine o_sub ?_ | refine o_cat ?_ | refine o_bin ?_ | refine o_lenq ?_ | refine o_len ?_ | refine o_loadsA ?_ | refine o_loadpA ?_ | refine o_box ?_ | refine o_alloc ?_ | refine o_bslice ?_ | refine o_s2b ?_ | refine o_store ?_ | refine o_field ?_ | refine o_not ?_ | refine o_pickt ?_ | refine o_pickf ?_ | refine o_build ?_ | refine o_extract ?_ | refine o_iaddrA ?_ | refine o_eqb ?_ | refine o_eqc ?_ | refine o_nilc ?_ | refine o_isnil ?_ | refine o_fn ?_ | refine o_lenS ?_ | refine o_cstr ?_ | refine o_minmax ?_ | refine skF ?_ | refine skU ?_)
  all_goals exact oAny rfl
theorem rone_vc (k : Str) (hk : k.length ≤ 1000000000) : VC Try.prog 18 [.str k] [] (.agg (encS (oneL k))) [] := by
  refine vc_of vf18 ?_ (Nat.le_of_ble_eq_true rfl) (by intro vs h; cases h)
  repeat' first | refine o_copy ?_ | refine nl ?_ | refine ct_seq ?_ | refine rg ?_ | refine ct_block ?_ | refine bq ?_ | refine ct_skip ?_ | refine ct_exit ?_ | refine rt_next ?_ | refine cndt ?_ | refine cndf ?_ | refine o_copy ?_ | refine o_loads ?_ | refine o_loadp ?_ | refine o_faddr ?_ | refine o_iaddr ?_ | refine o_iaddrO ?_ | refine o_iaddrR ?_ | refine o_b2sR ?_ | refine o_indexS ?_ | refine o_add ?_ | refine o_sub ?_ | refine o_cat ?_ | refine o_bin ?_ | refine o_lenq ?_ | refine o_len ?_ | refine o_loadsA ?_ | refine o_loadpA ?_ | refine o_box ?_ | refine o_alloc ?_ | refine o_bslice ?_ | refine o_s2b ?_ | refine o_store ?_ | refine o_field ?_ | refine o_not ?_ | refine o_pickt ?_ | refine o_pickf ?_ | refine o_build ?_ | refine o_extract ?_ | refine o_iaddrA ?_ | refine o_eqb ?_ | refine o_eqc ?_ | refine o_nilc ?_ | refine o_isnil ?_ | refine o_fn ?_ | refine o_lenS ?_ | refine o_cstr ?_ | refine o_minmax ?_ | refine skF ?_ | refine skU ?_ | refine ct_ret ⟨.inr rfl, ?_⟩ | refine cnd (fun _ => ?_) (fun _ => ?_) | (refine glook (fun _ => ?_) (fun _ => ?_) <;> first | refine o_copy ?_ | refine o_loads ?_ | refine o_loadp ?_ | refine o_faddr ?_ | refine o_iaddr ?_ | refine o_iaddrO ?_ | refine o_iaddrR ?_ | refine o_b2sR ?_ | refine o_indexS ?_ | refine o_add ?_ | refine o_sub ?_ | refine o_cat ?_ | refine o_bin ?_ | refine o_lenq ?_ | refine o_len ?_ | refine o_loadsA ?_ | refine o_loadpA ?_ | refine o_box ?_ | refine o_alloc ?_ | refine o_bslice ?_ | refine o_s2b ?_ | refine o_store ?_ | refine o_field ?_ | refine o_not ?_ | refine o_pickt ?_ | refine o_pickf ?_ | refine o_build ?_ | refine o_extract ?_ | refine o_iaddrA ?_ | refine o_eqb ?_ | refine o_eqc ?_ | refine o_nilc ?_ | refine o_isnil ?_ | refine o_fn ?_ | refine o_lenS ?_ | refine o_cstr ?_ | refine o_minmax ?_ | refine skF ?_ | refine skU ?_)
  all_goals exact oAny rfl
theorem sp_vc (a b : Str) : VC Try.prog 19 [.str a, .str b] [] (.agg (encS ⟨a, b⟩)) [] := by
  refine vc_of vf19 ?_ (Nat.le_of_ble_eq_true rfl) (by intro vs h; cases h)
  repeat' first | refine o_copy ?_ | refine nl ?_ | refine ct_seq ?_ | refine rg ?_ | refine ct_block ?_ | refine bq ?_ | refine ct_skip ?_ | refine ct_exit ?_ | refine rt_next ?_ | refine cndt ?_ | refine cndf ?_ | refine o_copy ?_ | refine o_loads ?_ | refine o_loadp ?_ | refine o_faddr ?_ | refine o_iaddr ?_ | refine o_iaddrO ?_ | refine o_iaddrR ?_ | refine o_b2sR ?_ | refine o_indexS ?_ | refine o_add ?_ | refine o_sub ?_ | refine o_cat ?_ | refine o_bin ?_ | refine o_lenq ?_ | refine o_len ?_ | refine o_loadsA ?_ | refine o_loadpA ?_ | refine o_box ?_ | refine o_alloc ?_ | refine o_bslice ?_ | refine o_s2b ?_ | refine o_store ?_ | refine o_field ?_ | refine o_not ?_ | refine o_pickt ?_ | refine o_pickf ?_ | refine o_build ?_ | refine o_extract ?_ | refine o_iaddrA ?_ | refine o_eqb ?_ | refine o_eqc ?_ | refine o_nilc ?_ | refine o_isnil ?_ | refine o_fn ?_ | refine o_lenS ?_ | refine o_cstr ?_ | refine o_minmax ?_ | refine skF ?_ | refine skU ?_ | refine ct_ret ⟨.inr rfl, ?_⟩ | refine cnd (fun _ => ?_) (fun _ => ?_) | (refine glook (fun _ => ?_) (fun _ => ?_) <;> first | refine o_copy ?_ | refine o_loads ?_ | refine o_loadp ?_ | refine o_faddr ?_ | refine o_iaddr ?_ | refine o_iaddrO ?_ | refine o_iaddrR ?_ | refine o_b2sR ?_ | refine o_indexS ?_ | refine o_add ?_ | refine o_sub ?_ | refine o_cat ?_ | refine o_bin ?_ | refine o_lenq ?_ | refine o_len ?_ | refine o_loadsA ?_ | refine o_loadpA ?_ | refine o_box ?_ | refine o_alloc ?_ | refine o_bslice ?_ | refine o_s2b ?_ | refine o_store ?_ | refine o_field ?_ | refine o_not ?_ | refine o_pickt ?_ | refine o_pickf ?_ | refine o_build ?_ | refine o_extract ?_ | refine o_iaddrA ?_ | refine o_eqb ?_ | refine o_eqc ?_ | refine o_nilc ?_ | refine o_isnil ?_ | refine o_fn ?_ | refine o_lenS ?_ | refine o_cstr ?_ | refine o_minmax ?_ | refine skF ?_ | refine skU ?_)
  all_goals exact oAny rfl
theorem none_vc : VC Try.prog 42 [] [] (.agg (encS noneL)) [] := by
  refine vc_of vf42 ?_ (Nat.le_of_ble_eq_true rfl) (by intro vs h; cases h)
  repeat' first | refine o_copy ?_ | refine nl ?_ | refine ct_seq ?_ | refine rg ?_ | refine ct_block ?_ | refine bq ?_ | refine ct_skip ?_ | refine ct_exit ?_ | refine rt_next ?_ | refine cndt ?_ | refine cndf ?_ | refine o_copy ?_ | refine o_loads ?_ | refine o_loadp ?_ | refine o_faddr ?_ | refine o_iaddr ?_ | refine o_iaddrO ?_ | refine o_iaddrR ?_ | refine o_b2sR ?_ | refine o_indexS ?_ | refine o_add ?_ | refine o_sub ?_ | refine o_cat ?_ | refine o_bin ?_ | refine o_lenq ?_ | refine o_len ?_ | refine o_loadsA ?_ | refine o_loadpA ?_ | refine o_box ?_ | refine o_alloc ?_ | refine o_bslice ?_ | refine o_s2b ?_ | refine o_store ?_ | refine o_field ?_ | refine o_not ?_ | refine o_pickt ?_ | refine o_pickf ?_ | refine o_build ?_ | refine o_extract ?_ | refine o_iaddrA ?_ | refine o_eqb ?_ | refine o_eqc ?_ | refine o_nilc ?_ | refine o_isnil ?_ | refine o_fn ?_ | refine o_lenS ?_ | refine o_cstr ?_ | refine o_minmax ?_ | refine skF ?_ | refine skU ?_ | refine ct_ret ⟨.inr rfl, ?_⟩ | refine cnd (fun _ => ?_) (fun _ => ?_) | (refine glook (fun _ => ?_) (fun _ => ?_) <;> first | refine o_copy ?_ | refine o_loads ?_ | refine o_loadp ?_ | refine o_faddr ?_ | refine o_iaddr ?_ | refine o_iaddrO ?_ | refine o_iaddrR ?_ | refine o_b2sR ?_ | refine o_indexS ?_ | refine o_add ?_ | refine o_sub ?_ | refine o_cat ?_ | refine o_bin ?_ | refine o_lenq ?_ | refine o_len ?_ | refine o_loadsA ?_ | refine o_loadpA ?_ | refine o_box ?_ | refine o_alloc ?_ | refine o_bslice ?_ | refine o_s2b ?_ | refine o_store ?_ | refine o_field ?_ | refine o_not ?_ | refine o_pickt ?_ | refine o_pickf ?_ | refine o_build ?_ | refine o_extract ?_ | refine o_iaddrA ?_ | refine o_eqb ?_ | refine o_eqc ?_ | refine o_nilc ?_ | refine o_isnil ?_ | refine o_fn ?_ | refine o_lenS ?_ | refine o_cstr ?_ | refine o_minmax ?_ | refine skF ?_ | refine skU ?_)
  all_goals exact oAny rfl
theorem nan_vc (a : Str) : VC Try.prog 57 [.str a] [] (.bool false) [] := by
  refine vc_of vf57 ?_ (Nat.le_of_ble_eq_true rfl) (by intro vs h; cases h)
  repeat' first | refine o_copy ?_ | refine nl ?_ | refine ct_seq ?_ | refine rg ?_ | refine ct_block ?_ | refine bq ?_ | refine ct_skip ?_ | refine ct_exit ?_ | refine rt_next ?_ | refine cndt ?_ | refine cndf ?_ | refine o_copy ?_ | refine o_loads ?_ | refine o_loadp ?_ | refine o_faddr ?_ | refine o_iaddr ?_ | refine o_iaddrO ?_ | refine o_iaddrR ?_ | refine o_b2sR ?_ | refine o_indexS ?_ | refine o_add ?_ | refine o_sub ?_ | refine o_cat ?_ | refine o_bin ?_ | refine o_lenq ?_ | refine o_len ?_ | refine o_loadsA ?_ | refine o_loadpA ?_ | refine o_box ?_ | refine o_alloc ?_ | refine o_bslice ?_ | refine o_s2b ?_ | refine o_store ?_ | refine o_field ?_ | refine o_not ?_ | refine o_pickt ?_ | refine o_pickf ?_ | refine o_build ?_ | refine o_extract ?_ | refine o_iaddrA ?_ | refine o_eqb ?_ | refine o_eqc ?_ | refine o_nilc ?_ | refine o_isnil ?_ | refine o_fn ?_ | refine o_lenS ?_ | refine o_cstr ?_ | refine o_minmax ?_ | refine skF ?_ | refine skU ?_ | refine ct_ret ⟨.inr rfl, ?_⟩ | refine cnd (fun _ => ?_) (fun _ => ?_) | (refine glook (fun _ => ?_) (fun _ => ?_) <;> first | refine o_copy ?_ | refine o_loads ?_ | refine o_loadp ?_ | refine o_faddr ?_ | refine o_iaddr ?_ | refine o_iaddrO ?_ | refine o_iaddrR ?_ | refine o_b2sR ?_ | refine o_indexS ?_ | refine o_add ?_ | refine o_sub ?_ | refine o_cat ?_ | refine o_bin ?_ | refine o_lenq ?_ | refine o_len ?_ | refine o_loadsA ?_ | refine o_loadpA ?_ | refine o_box ?_ | refine o_alloc ?_ | refine o_bslice ?_ | refine o_s2b ?_ | refine o_store ?_ | refine o_field ?_ | refine o_not ?_ | refine o_pickt ?_ | refine o_pickf ?_ | refine o_build ?_ | refine o_extract ?_ | refine o_iaddrA ?_ | refine o_eqb ?_ | refine o_eqc ?_ | refine o_nilc ?_ | refine o_isnil ?_ | refine o_fn ?_ | refine o_lenS ?_ | refine o_cstr ?_ | refine o_minmax ?_ | refine skF ?_ | refine skU ?_)
  all_goals refine oB ?_
  all_goals simp
theorem nanE_vc (a : Str) : VC Try.prog 59 [.str a] [] (.bool false) [] := by
  refine vc_of vf59 ?_ (Nat.le_of_ble_eq_true rfl) (by intro vs h; cases h)
  repeat' first | refine o_copy ?_ | refine nl ?_ | refine ct_seq ?_ | refine rg ?_ | refine ct_block ?_ | refine bq ?_ | refine ct_skip ?_ | refine ct_exit ?_ | refine rt_next ?_ | refine cndt ?_ | refine cndf ?_ | refine o_copy ?_ | refine o_loads ?_ | refine o_loadp ?_ | refine o_faddr ?_ | refine o_iaddr ?_ | refine o_iaddrO ?_ | refine o_iaddrR ?_ | refine o_b2sR ?_ | refine o_indexS ?_ | refine o_add ?_ | refine o_sub ?_ | refine o_cat ?_ | refine o_bin ?_ | refine o_lenq ?_ | refine o_len ?_ | refine o_loadsA ?_ | refine o_loadpA ?_ | refine o_box ?_ | refine o_alloc ?_ | refine o_bslice ?_ | refine o_s2b ?_ | refine o_store ?_ | refine o_field ?_ | refine o_not ?_ | refine o_pickt ?_ | refine o_pickf ?_ | refine o_build ?_ | refine o_extract ?_ | refine o_iaddrA ?_ | refine o_eqb ?_ | refine o_eqc ?_ | refine o_nilc ?_ | refine o_isnil ?_ | refine o_fn ?_ | refine o_lenS ?_ | refine o_cstr ?_ | refine o_minmax ?_ | refine skF ?_ | refine skU ?_ | refine ct_ret ⟨.inr rfl, ?_⟩ | refine cnd (fun _ => ?_) (fun _ => ?_) | (refine glook (fun _ => ?_) (fun _ => ?_) <;> first | refine o_copy ?_ | refine o_loads ?_ | refine o_loadp ?_ | refine o_faddr ?_ | refine o_iaddr ?_ | refine o_iaddrO ?_ | refine o_iaddrR ?_ | refine o_b2sR ?_ | refine o_indexS ?_ | refine o_add ?_ | refine o_sub ?_ | refine o_cat ?_ | refine o_bin ?_ | refine o_lenq ?_ | refine o_len ?_ | refine o_loadsA ?_ | refine o_loadpA ?_ | refine o_box ?_ | refine o_alloc ?_ | refine o_bslice ?_ | refine o_s2b ?_ | refine o_store ?_ | refine o_field ?_ | refine o_not ?_ | refine o_pickt ?_ | refine o_pickf ?_ | refine o_build ?_ | refine o_extract ?_ | refine o_iaddrA ?_ | refine o_eqb ?_ | refine o_eqc ?_ | refine o_nilc ?_ | refine o_isnil ?_ | refine o_fn ?_ | refine o_lenS ?_ | refine o_cstr ?_ | refine o_minmax ?_ | refine skF ?_ | refine skU ?_)
  all_goals refine oB ?_
  all_goals simp
theorem cmp_vc (a b : Str) : VC Try.prog 48 [.str a, .str b] [] (.int .i64 (cmpStr a b)) [] := by
  refine vc_of vf48 ?_ (Nat.le_of_ble_eq_true rfl) (by intro vs h; cases h)
  repeat' first | refine o_copy ?_ | refine nl ?_ | refine ct_seq ?_ | refine rg ?_ | refine ct_block ?_ | refine bq ?_ | refine ct_skip ?_ | refine ct_exit ?_ | refine rt_next ?_ | refine cndt ?_ | refine cndf ?_ | refine cv0 (nan_vc _) ?_ | refine o_copy ?_ | refine o_loads ?_ | refine o_loadp ?_ | refine o_faddr ?_ | refine o_iaddr ?_ | refine o_iaddrO ?_ | refine o_iaddrR ?_ | refine o_b2sR ?_ | refine o_indexS ?_ | refine o_add ?_ | refine o_sub ?_ | refine o_cat ?_ | refine o_bin ?_ | refine o_lenq ?_ | refine o_len ?_ | refine o_loadsA ?_ | refine o_loadpA ?_ | refine o_box ?_ | refine o_alloc ?_ | refine o_bslice ?_ | refine o_s2b ?_ | refine o_store ?_ | refine o_field ?_ | refine o_not ?_ | refine o_pickt ?_ | refine o_pickf ?_ | refine o_build ?_ | refine o_extract ?_ | refine o_iaddrA ?_ | refine o_eqb ?_ | refine o_eqc ?_ | refine o_nilc ?_ | refine o_isnil ?_ | refine o_fn ?_ | refine o_lenS ?_ | refine o_cstr ?_ | refine o_minmax ?_ | refine skF ?_ | refine skU ?_ | refine ct_ret ⟨.inr rfl, ?_⟩ | refine cnd (fun _ => ?_) (fun _ => ?_) | (refine glook (fun _ => ?_) (fun _ => ?_) <;> first | refine cv0 (nan_vc _) ?_ | refine o_copy ?_ | refine o_loads ?_ | refine o_loadp ?_ | refine o_faddr ?_ | refine o_iaddr ?_ | refine o_iaddrO ?_ | refine o_iaddrR ?_ | refine o_b2sR ?_ | refine o_indexS ?_ | refine o_add ?_ | refine o_sub ?_ | refine o_cat ?_ | refine o_bin ?_ | refine o_lenq ?_ | refine o_len ?_ | refine o_loadsA ?_ | refine o_loadpA ?_ | refine o_box ?_ | refine o_alloc ?_ | refine o_bslice ?_ | refine o_s2b ?_ | refine o_store ?_ | refine o_field ?_ | refine o_not ?_ | refine o_pickt ?_ | refine o_pickf ?_ | refine o_build ?_ | refine o_extract ?_ | refine o_iaddrA ?_ | refine o_eqb ?_ | refine o_eqc ?_ | refine o_nilc ?_ | refine o_isnil ?_ | refine o_fn ?_ | refine o_lenS ?_ | refine o_cstr ?_ | refine o_minmax ?_ | refine skF ?_ | refine skU ?_)
  all_goals refine oI ?_
  all_goals simp_all [cmpStr]
theorem cmpE_vc (a b : Str) : VC Try.prog 53 [.str a, .str b] [] (.int .i64 (cmpStr a b)) [] := by
  refine vc_of vf53 ?_ (Nat.le_of_ble_eq_true rfl) (by intro vs h; cases h)
  repeat' first | refine o_copy ?_ | refine nl ?_ | refine ct_seq ?_ | refine rg ?_ | refine ct_block ?_ | refine bq ?_ | refine ct_skip ?_ | refine ct_exit ?_ | refine rt_next ?_ | refine cndt ?_ | refine cndf ?_ | refine cv0 (nanE_vc _) ?_ | refine o_copy ?_ | refine o_loads ?_ | refine o_loadp ?_ | refine o_faddr ?_ | refine o_iaddr ?_ | refine o_iaddrO ?_ | refine o_iaddrR ?_ | refine o_b2sR ?_ | refine o_indexS ?_ | refine o_add ?_ | refine o_sub ?_ | refine o_cat ?_ | refine o_bin ?_ | refine o_lenq ?_ | refine o_len ?_ | refine o_loadsA ?_ | refine o_loadpA ?_ | refine o_box ?_ | refine o_alloc ?_ | refine o_bslice ?_ | refine o_s2b ?_ | refine o_store ?_ | refine o_field ?_ | refine o_not ?_ | refine o_pickt ?_ | refine o_pickf ?_ | refine o_build ?_ | refine o_extract ?_ | refine o_iaddrA ?_ | refine o_eqb ?_ | refine o_eqc ?_ | refine o_nilc ?_ | refine o_isnil ?_ | refine o_fn ?_ | refine o_lenS ?_ | refine o_cstr ?_ | refine o_minmax ?_ | refine skF ?_ | refine skU ?_ | refine ct_ret ⟨.inr rfl, ?_⟩ | refine cnd (fun _ => ?_) (fun _ => ?_) | (refine glook (fun _ => ?_) (fun _ => ?_) <;> first | refine cv0 (nanE_vc _) ?_ | refine o_copy ?_ | refine o_loads ?_ | refine o_loadp ?_ | refine o_faddr ?_ | refine o_iaddr ?_ | refine o_iaddrO ?_ | refine o_iaddrR ?_ | refine o_b2sR ?_ | refine o_indexS ?_ | refine o_add ?_ | refine o_sub ?_ | refine o_cat ?_ | refine o_bin ?_ | refine o_lenq ?_ | refine o_len ?_ | refine o_loadsA ?_ | refine o_loadpA ?_ | refine o_box ?_ | refine o_alloc ?_ | refine o_bslice ?_ | refine o_s2b ?_ | refine o_store ?_ | refine o_field ?_ | refine o_not ?_ | refine o_pickt ?_ | refine o_pickf ?_ | refine o_build ?_ | refine o_extract ?_ | refine o_iaddrA ?_ | refine o_eqb ?_ | refine o_eqc ?_ | refine o_nilc ?_ | refine o_isnil ?_ | refine o_fn ?_ | refine o_lenS ?_ | refine o_cstr ?_ | refine o_minmax ?_ | refine skF ?_ | refine skU ?_)
  all_goals refine oI ?_
  all_goals simp_all [cmpStr]
theorem compare_vc (a b : Str) : VC Try.prog 43 [.str a, .str b] [] (.int .i64 (cmpEnd a b)) [] := by
  refine vc_of vf43 ?_ (Nat.le_of_ble_eq_true rfl) (by intro vs h; cases h)
  repeat' first | refine o_copy ?_ | refine nl ?_ | refine ct_seq ?_ | refine rg ?_ | refine ct_block ?_ | refine bq ?_ | refine ct_skip ?_ | refine ct_exit ?_ | refine rt_next ?_ | refine cndt ?_ | refine cndf ?_ | refine cv0 (cmpE_vc _ _) ?_ | refine o_copy ?_ | refine o_loads ?_ | refine o_loadp ?_ | refine o_faddr ?_ | refine o_iaddr ?_ | refine o_iaddrO ?_ | refine o_iaddrR ?_ | refine o_b2sR ?_ | refine o_indexS ?_ | refine o_add ?_ | refine o_sub ?_ | refine o_cat ?_ | refine o_bin ?_ | refine o_lenq ?_ | refine o_len ?_ | refine o_loadsA ?_ | refine o_loadpA ?_ | refine o_box ?_ | refine o_alloc ?_ | refine o_bslice ?_ | refine o_s2b ?_ | refine o_store ?_ | refine o_field ?_ | refine o_not ?_ | refine o_pickt ?_ | refine o_pickf ?_ | refine o_build ?_ | refine o_extract ?_ | refine o_iaddrA ?_ | refine o_eqb ?_ | refine o_eqc ?_ | refine o_nilc ?_ | refine o_isnil ?_ | refine o_fn ?_ | refine o_lenS ?_ | refine o_cstr ?_ | refine o_minmax ?_ | refine skF ?_ | refine skU ?_ | refine ct_ret ⟨.inr rfl, ?_⟩ | refine cnd (fun _ => ?_) (fun _ => ?_) | (refine glook (fun _ => ?_) (fun _ => ?_) <;> first | refine cv0 (cmpE_vc _ _) ?_ | refine o_copy ?_ | refine o_loads ?_ | refine o_loadp ?_ | refine o_faddr ?_ | refine o_iaddr ?_ | refine o_iaddrO ?_ | refine o_iaddrR ?_ | refine o_b2sR ?_ | refine o_indexS ?_ | refine o_add ?_ | refine o_sub ?_ | refine o_cat ?_ | refine o_bin ?_ | refine o_lenq ?_ | refine o_len ?_ | refine o_loadsA ?_ | refine o_loadpA ?_ | refine o_box ?_ | refine o_alloc ?_ | refine o_bslice ?_ | refine o_s2b ?_ | refine o_store ?_ | refine o_field ?_ | refine o_not ?_ | refine o_pickt ?_ | refine o_pickf ?_ | refine o_build ?_ | refine o_extract ?_ | refine o_iaddrA ?_ | refine o_eqb ?_ | refine o_eqc ?_ | refine o_nilc ?_ | refine o_isnil ?_ | refine o_fn ?_ | refine o_lenS ?_ | refine o_cstr ?_ | refine o_minmax ?_ | refine skF ?_ | refine skU ?_)
  all_goals refine oI ?_
  all_goals simp_all [cmpEnd]
end Go.Proofs
open Go.V Go.Pu
set_option linter.unusedVariables false
set_option linter.unusedSimpArgs false
set_option maxRecDepth 20000
namespace Go.Proofs
theorem minFunc_vc (a b : Str) : VC Try.prog 52 [.sh false [[.str a], [.str b]], .fn 43 []] [] (.str (leastL a b)) [] := by
  refine vc_of vf52 ?_ (Nat.le_of_ble_eq_true rfl) (by intro vs h; cases h)
  repeat' first | refine o_copy ?_ | refine nl ?_ | refine ct_seq ?_ | refine rg ?_ | refine ct_block ?_ | refine bq ?_ | refine ct_skip ?_ | refine ct_exit ?_ | refine rt_next ?_ | refine cndt ?_ | refine cndf ?_ | refine cv0 (compare_vc _ _) ?_ | refine ct_unr 3 ?_ | refine o_copy ?_ | refine o_loads ?_ | refine o_loadp ?_ | refine o_faddr ?_ | refine o_iaddr ?_ | refine o_iaddrO ?_ | refine o_iaddrR ?_ | refine o_b2sR ?_ | refine o_indexS ?_ | refine o_add ?_ | refine o_sub ?_ | refine o_cat ?_ | refine o_bin ?_ | refine o_lenq ?_ | refine o_len ?_ | refine o_loadsA ?_ | refine o_loadpA ?_ | refine o_box ?_ | refine o_alloc ?_ | refine o_bslice ?_ | refine o_s2b ?_ | refine o_store ?_ | refine o_field ?_ | refine o_not ?_ | refine o_pickt ?_ | refine o_pickf ?_ | refine o_build ?_ | refine o_extract ?_ | refine o_iaddrA ?_ | refine o_eqb ?_ | refine o_eqc ?_ | refine o_nilc ?_ | refine o_isnil ?_ | refine o_fn ?_ | refine o_lenS ?_ | refine o_cstr ?_ | refine o_minmax ?_ | refine skF ?_ | refine skU ?_ | refine ct_ret ⟨.inr rfl, ?_⟩ | refine cnd (fun _ => ?_) (fun _ => ?_) | (refine glook (fun _ => ?_) (fun _ => ?_) <;> first | refine cv0 (compare_vc _ _) ?_ | refine ct_unr 3 ?_ | refine o_copy ?_ | refine o_loads ?_ | refine o_loadp ?_ | refine o_faddr ?_ | refine o_iaddr ?_ | refine o_iaddrO ?_ | refine o_iaddrR ?_ | refine o_b2sR ?_ | refine o_indexS ?_ | refine o_add ?_ | refine o_sub ?_ | refine o_cat ?_ | refine o_bin ?_ | refine o_lenq ?_ | refine o_len ?_ | refine o_loadsA ?_ | refine o_loadpA ?_ | refine o_box ?_ | refine o_alloc ?_ | refine o_bslice ?_ | refine o_s2b ?_ | refine o_store ?_ | refine o_field ?_ | refine o_not ?_ | refine o_pickt ?_ | refine o_pickf ?_ | refine o_build ?_ | refine o_extract ?_ | refine o_iaddrA ?_ | refine o_eqb ?_ | refine o_eqc ?_ | refine o_nilc ?_ | refine o_isnil ?_ | refine o_fn ?_ | refine o_lenS ?_ | refine o_cstr ?_ | refine o_minmax ?_ | refine skF ?_ | refine skU ?_)
  all_goals refine oS ?_
  all_goals simp_all [leastL]
  all_goals omega
theorem least_vc (a b : Str) : VC Try.prog 40 [.sh false [[.str a], [.str b]]] [] (.str (leastL a b)) [] := by
  refine vc_of vf40 ?_ (Nat.le_of_ble_eq_true rfl) (by intro vs h; cases h)
  repeat' first | refine o_copy ?_ | refine nl ?_ | refine ct_seq ?_ | refine rg ?_ | refine ct_block ?_ | refine bq ?_ | refine ct_skip ?_ | refine ct_exit ?_ | refine rt_next ?_ | refine cndt ?_ | refine cndf ?_ | refine cv0 (minFunc_vc _ _) ?_ | refine o_copy ?_ | refine o_loads ?_ | refine o_loadp ?_ | refine o_faddr ?_ | refine o_iaddr ?_ | refine o_iaddrO ?_ | refine o_iaddrR ?_ | refine o_b2sR ?_ | refine o_indexS ?_ | refine o_add ?_ | refine o_sub ?_ | refine o_cat ?_ | refine o_bin ?_ | refine o_lenq ?_ | refine o_len ?_ | refine o_loadsA ?_ | refine o_loadpA ?_ | refine o_box ?_ | refine o_alloc ?_ | refine o_bslice ?_ | refine o_s2b ?_ | refine o_store ?_ | refine o_field ?_ | refine o_not ?_ | refine o_pickt ?_ | refine o_pickf ?_ | refine o_build ?_ | refine o_extract ?_ | refine o_iaddrA ?_ | refine o_eqb ?_ | refine o_eqc ?_ | refine o_nilc ?_ | refine o_isnil ?_ | refine o_fn ?_ | refine o_lenS ?_ | refine o_cstr ?_ | refine o_minmax ?_ | refine skF ?_ | refine skU ?_ | refine ct_ret ⟨.inr rfl, ?_⟩ | refine cnd (fun _ => ?_) (fun _ => ?_) | (refine glook (fun _ => ?_) (fun _ => ?_) <;> first | refine cv0 (minFunc_vc _ _) ?_ | refine o_copy ?_ | refine o_loads ?_ | refine o_loadp ?_ | refine o_faddr ?_ | refine o_iaddr ?_ | refine o_iaddrO ?_ | refine o_iaddrR ?_ | refine o_b2sR ?_ | refine o_indexS ?_ | refine o_add ?_ | refine o_sub ?_ | refine o_cat ?_ | refine o_bin ?_ | refine o_lenq ?_ | refine o_len ?_ | refine o_loadsA ?_ | refine o_loadpA ?_ | refine o_box ?_ | refine o_alloc ?_ | refine o_bslice ?_ | refine o_s2b ?_ | refine o_store ?_ | refine o_field ?_ | refine o_not ?_ | refine o_pickt ?_ | refine o_pickf ?_ | refine o_build ?_ | refine o_extract ?_ | refine o_iaddrA ?_ | refine o_eqb ?_ | refine o_eqc ?_ | refine o_nilc ?_ | refine o_isnil ?_ | refine o_fn ?_ | refine o_lenS ?_ | refine o_cstr ?_ | refine o_minmax ?_ | refine skF ?_ | refine skU ?_)
  all_goals exact oS rfl
theorem meet_vc (a b : SpanL) : VC Try.prog 25 [.agg (encS a), .agg (encS b)] [] (.agg (encS (meetL a b))) [] := by
  refine vc_of vf25 ?_ (Nat.le_of_ble_eq_true rfl) (by intro vs h; cases h)
  repeat' first | refine o_copy ?_ | refine nl ?_ | refine ct_seq ?_ | refine rg ?_ | refine ct_block ?_ | refine bq ?_ | refine ct_skip ?_ | refine ct_exit ?_ | refine rt_next ?_ | refine cndt ?_ | refine cndf ?_ | refine cv0 (least_vc a.hi b.hi) ?_ | refine cv0 (empty_vc ⟨maxL a.lo b.lo, leastL a.hi b.hi⟩) ?_ | refine o_copy ?_ | refine o_loads ?_ | refine o_loadp ?_ | refine o_faddr ?_ | refine o_iaddr ?_ | refine o_iaddrO ?_ | refine o_iaddrR ?_ | refine o_b2sR ?_ | refine o_indexS ?_ | refine o_add ?_ | refine o_sub ?_ | refine o_cat ?_ | refine o_bin ?_ | refine o_lenq ?_ | refine o_len ?_ | refine o_loadsA ?_ | refine o_loadpA ?_ | refine o_box ?_ | refine o_alloc ?_ | refine o_bslice ?_ | refine o_s2b ?_ | refine o_store ?_ | refine o_field ?_ | refine o_not ?_ | refine o_pickt ?_ | refine o_pickf ?_ | refine o_build ?_ | refine o_extract ?_ | refine o_iaddrA ?_ | refine o_eqb ?_ | refine o_eqc ?_ | refine o_nilc ?_ | refine o_isnil ?_ | refine o_fn ?_ | refine o_lenS ?_ | refine o_cstr ?_ | refine o_minmax ?_ | refine skF ?_ | refine skU ?_ | refine ct_ret ⟨.inr rfl, ?_⟩ | refine cnd (fun _ => ?_) (fun _ => ?_) | (refine glook (fun _ => ?_) (fun _ => ?_) <;> first | refine cv0 (least_vc a.hi b.hi) ?_ | refine cv0 (empty_vc ⟨maxL a.lo b.lo, leastL a.hi b.hi⟩) ?_ | refine o_copy ?_ | refine o_loads ?_ | refine o_loadp ?_ | refine o_faddr ?_ | refine o_iaddr ?_ | refine o_iaddrO ?_ | refine o_iaddrR ?_ | refine o_b2sR ?_ | refine o_indexS ?_ | refine o_add ?_ | refine o_sub ?_ | refine o_cat ?_ | refine o_bin ?_ | refine o_lenq ?_ | refine o_len ?_ | refine o_loadsA ?_ | refine o_loadpA ?_ | refine o_box ?_ | refine o_alloc ?_ | refine o_bslice ?_ | refine o_s2b ?_ | refine o_store ?_ | refine o_field ?_ | refine o_not ?_ | refine o_pickt ?_ | refine o_pickf ?_ | refine o_build ?_ | refine o_extract ?_ | refine o_iaddrA ?_ | refine o_eqb ?_ | refine o_eqc ?_ | refine o_nilc ?_ | refine o_isnil ?_ | refine o_fn ?_ | refine o_lenS ?_ | refine o_cstr ?_ | refine o_minmax ?_ | refine skF ?_ | refine skU ?_)
  all_goals refine oC ?_
  all_goals simp_all [meetL, noneL]
  all_goals rfl
theorem covers_vc (a b : SpanL) : VC Try.prog 27 [.agg (encS a), .agg (encS b)] [] (.bool (coversL a b)) [] := by
  refine vc_of vf27 ?_ (Nat.le_of_ble_eq_true rfl) (by intro vs h; cases h)
  repeat' first | refine o_copy ?_ | refine nl ?_ | refine ct_seq ?_ | refine rg ?_ | refine ct_block ?_ | refine bq ?_ | refine ct_skip ?_ | refine ct_exit ?_ | refine rt_next ?_ | refine cndt ?_ | refine cndf ?_ | refine cv0 (empty_vc b) ?_ | refine cv0 (has_vc a b.lo) ?_ | refine cv0 (compare_vc a.hi b.hi) ?_ | refine o_copy ?_ | refine o_loads ?_ | refine o_loadp ?_ | refine o_faddr ?_ | refine o_iaddr ?_ | refine o_iaddrO ?_ | refine o_iaddrR ?_ | refine o_b2sR ?_ | refine o_indexS ?_ | refine o_add ?_ | refine o_sub ?_ | refine o_cat ?_ | refine o_bin ?_ | refine o_lenq ?_ | refine o_len ?_ | refine o_loadsA ?_ | refine o_loadpA ?_ | refine o_box ?_ | refine o_alloc ?_ | refine o_bslice ?_ | refine o_s2b ?_ | refine o_store ?_ | refine o_field ?_ | refine o_not ?_ | refine o_pickt ?_ | refine o_pickf ?_ | refine o_build ?_ | refine o_extract ?_ | refine o_iaddrA ?_ | refine o_eqb ?_ | refine o_eqc ?_ | refine o_nilc ?_ | refine o_isnil ?_ | refine o_fn ?_ | refine o_lenS ?_ | refine o_cstr ?_ | refine o_minmax ?_ | refine skF ?_ | refine skU ?_ | refine ct_ret ⟨.inr rfl, ?_⟩ | refine cnd (fun _ => ?_) (fun _ => ?_) | (refine glook (fun _ => ?_) (fun _ => ?_) <;> first | refine cv0 (empty_vc b) ?_ | refine cv0 (has_vc a b.lo) ?_ | refine cv0 (compare_vc a.hi b.hi) ?_ | refine o_copy ?_ | refine o_loads ?_ | refine o_loadp ?_ | refine o_faddr ?_ | refine o_iaddr ?_ | refine o_iaddrO ?_ | refine o_iaddrR ?_ | refine o_b2sR ?_ | refine o_indexS ?_ | refine o_add ?_ | refine o_sub ?_ | refine o_cat ?_ | refine o_bin ?_ | refine o_lenq ?_ | refine o_len ?_ | refine o_loadsA ?_ | refine o_loadpA ?_ | refine o_box ?_ | refine o_alloc ?_ | refine o_bslice ?_ | refine o_s2b ?_ | refine o_store ?_ | refine o_field ?_ | refine o_not ?_ | refine o_pickt ?_ | refine o_pickf ?_ | refine o_build ?_ | refine o_extract ?_ | refine o_iaddrA ?_ | refine o_eqb ?_ | refine o_eqc ?_ | refine o_nilc ?_ | refine o_isnil ?_ | refine o_fn ?_ | refine o_lenS ?_ | refine o_cstr ?_ | refine o_minmax ?_ | refine skF ?_ | refine skU ?_)
  all_goals refine oB ?_
  all_goals simp_all [coversL]
theorem less_vc (a b : Str) : VC Try.prog 41 [.str a, .str b] [] (.bool (lessL a b)) [] := by
  refine vc_of vf41 ?_ (Nat.le_of_ble_eq_true rfl) (by intro vs h; cases h)
  repeat' first | refine o_copy ?_ | refine nl ?_ | refine ct_seq ?_ | refine rg ?_ | refine ct_block ?_ | refine bq ?_ | refine ct_skip ?_ | refine ct_exit ?_ | refine rt_next ?_ | refine cndt ?_ | refine cndf ?_ | refine o_copy ?_ | refine o_loads ?_ | refine o_loadp ?_ | refine o_faddr ?_ | refine o_iaddr ?_ | refine o_iaddrO ?_ | refine o_iaddrR ?_ | refine o_b2sR ?_ | refine o_indexS ?_ | refine o_add ?_ | refine o_sub ?_ | refine o_cat ?_ | refine o_bin ?_ | refine o_lenq ?_ | refine o_len ?_ | refine o_loadsA ?_ | refine o_loadpA ?_ | refine o_box ?_ | refine o_alloc ?_ | refine o_bslice ?_ | refine o_s2b ?_ | refine o_store ?_ | refine o_field ?_ | refine o_not ?_ | refine o_pickt ?_ | refine o_pickf ?_ | refine o_build ?_ | refine o_extract ?_ | refine o_iaddrA ?_ | refine o_eqb ?_ | refine o_eqc ?_ | refine o_nilc ?_ | refine o_isnil ?_ | refine o_fn ?_ | refine o_lenS ?_ | refine o_cstr ?_ | refine o_minmax ?_ | refine skF ?_ | refine skU ?_ | refine ct_ret ⟨.inr rfl, ?_⟩ | refine cnd (fun _ => ?_) (fun _ => ?_) | (refine glook (fun _ => ?_) (fun _ => ?_) <;> first | refine o_copy ?_ | refine o_loads ?_ | refine o_loadp ?_ | refine o_faddr ?_ | refine o_iaddr ?_ | refine o_iaddrO ?_ | refine o_iaddrR ?_ | refine o_b2sR ?_ | refine o_indexS ?_ | refine o_add ?_ | refine o_sub ?_ | refine o_cat ?_ | refine o_bin ?_ | refine o_lenq ?_ | refine o_len ?_ | refine o_loadsA ?_ | refine o_loadpA ?_ | refine o_box ?_ | refine o_alloc ?_ | refine o_bslice ?_ | refine o_s2b ?_ | refine o_store ?_ | refine o_field ?_ | refine o_not ?_ | refine o_pickt ?_ | refine o_pickf ?_ | refine o_build ?_ | refine o_extract ?_ | refine o_iaddrA ?_ | refine o_eqb ?_ | refine o_eqc ?_ | refine o_nilc ?_ | refine o_isnil ?_ | refine o_fn ?_ | refine o_lenS ?_ | refine o_cstr ?_ | refine o_minmax ?_ | refine skF ?_ | refine skU ?_)
  all_goals refine oB ?_
  all_goals simp_all [lessL]
  all_goals (cases a <;> cases b <;> simp_all)
theorem rmeet_vc (a b : SpanL) : VC Try.prog 26 [.agg (encS a), .agg (encS b)] [] (.agg (encS (rmeetL a b))) [] := by
  refine vc_of vf26 ?_ (Nat.le_of_ble_eq_true rfl) (by intro vs h; cases h)
  repeat' first | refine o_copy ?_ | refine nl ?_ | refine ct_seq ?_ | refine rg ?_ | refine ct_block ?_ | refine bq ?_ | refine ct_skip ?_ | refine ct_exit ?_ | refine rt_next ?_ | refine cndt ?_ | refine cndf ?_ | refine cv0 (less_vc b.hi a.hi) ?_ | refine cv0 (rempty_vc ⟨maxL a.lo b.lo, a.hi⟩) ?_ | refine cv0 (rempty_vc ⟨maxL a.lo b.lo, b.hi⟩) ?_ | refine cv0 none_vc ?_ | refine o_copy ?_ | refine o_loads ?_ | refine o_loadp ?_ | refine o_faddr ?_ | refine o_iaddr ?_ | refine o_iaddrO ?_ | refine o_iaddrR ?_ | refine o_b2sR ?_ | refine o_indexS ?_ | refine o_add ?_ | refine o_sub ?_ | refine o_cat ?_ | refine o_bin ?_ | refine o_lenq ?_ | refine o_len ?_ | refine o_loadsA ?_ | refine o_loadpA ?_ | refine o_box ?_ | refine o_alloc ?_ | refine o_bslice ?_ | refine o_s2b ?_ | refine o_store ?_ | refine o_field ?_ | refine o_not ?_ | refine o_pickt ?_ | refine o_pickf ?_ | refine o_build ?_ | refine o_extract ?_ | refine o_iaddrA ?_ | refine o_eqb ?_ | refine o_eqc ?_ | refine o_nilc ?_ | refine o_isnil ?_ | refine o_fn ?_ | refine o_lenS ?_ | refine o_cstr ?_ | refine o_minmax ?_ | refine skF ?_ | refine skU ?_ | refine ct_ret ⟨.inr rfl, ?_⟩ | refine cnd (fun _ => ?_) (fun _ => ?_) | (refine glook (fun _ => ?_) (fun _ => ?_) <;> first | refine cv0 (less_vc b.hi a.hi) ?_ | refine cv0 (rempty_vc ⟨maxL a.lo b.lo, a.hi⟩) ?_ | refine cv0 (rempty_vc ⟨maxL a.lo b.lo, b.hi⟩) ?_ | refine cv0 none_vc ?_ | refine o_copy ?_ | refine o_loads ?_ | refine o_loadp ?_ | refine o_faddr ?_ | refine o_iaddr ?_ | refine o_iaddrO ?_ | refine o_iaddrR ?_ | refine o_b2sR ?_ | refine o_indexS ?_ | refine o_add ?_ | refine o_sub ?_ | refine o_cat ?_ | refine o_bin ?_ | refine o_lenq ?_ | refine o_len ?_ | refine o_loadsA ?_ | refine o_loadpA ?_ | refine o_box ?_ | refine o_alloc ?_ | refine o_bslice ?_ | refine o_s2b ?_ | refine o_store ?_ | refine o_field ?_ | refine o_not ?_ | refine o_pickt ?_ | refine o_pickf ?_ | refine o_build ?_ | refine o_extract ?_ | refine o_iaddrA ?_ | refine o_eqb ?_ | refine o_eqc ?_ | refine o_nilc ?_ | refine o_isnil ?_ | refine o_fn ?_ | refine o_lenS ?_ | refine o_cstr ?_ | refine o_minmax ?_ | refine skF ?_ | refine skU ?_)
  all_goals refine oC ?_
  all_goals simp_all [rmeetL, noneL]
  all_goals rfl
theorem rcovers_vc (a b : SpanL) : VC Try.prog 28 [.agg (encS a), .agg (encS b)] [] (.bool (rcoversL a b)) [] := by
  refine vc_of vf28 ?_ (Nat.le_of_ble_eq_true rfl) (by intro vs h; cases h)
  repeat' first | refine o_copy ?_ | refine nl ?_ | refine ct_seq ?_ | refine rg ?_ | refine ct_block ?_ | refine bq ?_ | refine ct_skip ?_ | refine ct_exit ?_ | refine rt_next ?_ | refine cndt ?_ | refine cndf ?_ | refine cv0 (rempty_vc b) ?_ | refine cv0 (rempty_vc a) ?_ | refine cv0 (less_vc a.hi b.hi) ?_ | refine o_copy ?_ | refine o_loads ?_ | refine o_loadp ?_ | refine o_faddr ?_ | refine o_iaddr ?_ | refine o_iaddrO ?_ | refine o_iaddrR ?_ | refine o_b2sR ?_ | refine o_indexS ?_ | refine o_add ?_ | refine o_sub ?_ | refine o_cat ?_ | refine o_bin ?_ | refine o_lenq ?_ | refine o_len ?_ | refine o_loadsA ?_ | refine o_loadpA ?_ | refine o_box ?_ | refine o_alloc ?_ | refine o_bslice ?_ | refine o_s2b ?_ | refine o_store ?_ | refine o_field ?_ | refine o_not ?_ | refine o_pickt ?_ | refine o_pickf ?_ | refine o_build ?_ | refine o_extract ?_ | refine o_iaddrA ?_ | refine o_eqb ?_ | refine o_eqc ?_ | refine o_nilc ?_ | refine o_isnil ?_ | refine o_fn ?_ | refine o_lenS ?_ | refine o_cstr ?_ | refine o_minmax ?_ | refine skF ?_ | refine skU ?_ | refine ct_ret ⟨.inr rfl, ?_⟩ | refine cnd (fun _ => ?_) (fun _ => ?_) | (refine glook (fun _ => ?_) (fun _ => ?_) <;> first | refine cv0 (rempty_vc b) ?_ | refine cv0 (rempty_vc a) ?_ | refine cv0 (less_vc a.hi b.hi) ?_ | refine o_copy ?_ | refine o_loads ?_ | refine o_loadp ?_ | refine o_faddr ?_ | refine o_iaddr ?_ | refine o_iaddrO ?_ | refine o_iaddrR ?_ | refine o_b2sR ?_ | refine o_indexS ?_ | refine o_add ?_ | refine o_sub ?_ | refine o_cat ?_ | refine o_bin ?_ | refine o_lenq ?_ | refine o_len ?_ | refine o_loadsA ?_ | refine o_loadpA ?_ | refine o_box ?_ | refine o_alloc ?_ | refine o_bslice ?_ | refine o_s2b ?_ | refine o_store ?_ | refine o_field ?_ | refine o_not ?_ | refine o_pickt ?_ | refine o_pickf ?_ | refine o_build ?_ | refine o_extract ?_ | refine o_iaddrA ?_ | refine o_eqb ?_ | refine o_eqc ?_ | refine o_nilc ?_ | refine o_isnil ?_ | refine o_fn ?_ | refine o_lenS ?_ | refine o_cstr ?_ | refine o_minmax ?_ | refine skF ?_ | refine skU ?_)
  all_goals refine oB ?_
  all_goals simp_all [rcoversL]
theorem hasPrefix_vc (k p : Str) (hk : k.length ≤ 1000000000) (hp : p.length ≤ 1000000000) : VC Try.prog 58 [.str k, .str p] [] (.bool (beginsL k p)) [] := by
  refine vc_of vf58 ?_ (Nat.le_of_ble_eq_true rfl) (by intro vs h; cases h)
  repeat' first | refine o_copy ?_ | refine nl ?_ | refine ct_seq ?_ | refine rg ?_ | refine ct_block ?_ | refine bq ?_ | refine ct_skip ?_ | refine ct_exit ?_ | refine rt_next ?_ | refine cndt ?_ | refine cndf ?_ | refine o_slstr ?_ | refine o_copy ?_ | refine o_loads ?_ | refine o_loadp ?_ | refine o_faddr ?_ | refine o_iaddr ?_ | refine o_iaddrO ?_ | refine o_iaddrR ?_ | refine o_b2sR ?_ | refine o_indexS ?_ | refine o_add ?_ | refine o_sub ?_ | refine o_cat ?_ | refine o_bin ?_ | refine o_lenq ?_ | refine o_len ?_ | refine o_loadsA ?_ | refine o_loadpA ?_ | refine o_box ?_ | refine o_alloc ?_ | refine o_bslice ?_ | refine o_s2b ?_ | refine o_store ?_ | refine o_field ?_ | refine o_not ?_ | refine o_pickt ?_ | refine o_pickf ?_ | refine o_build ?_ | refine o_extract ?_ | refine o_iaddrA ?_ | refine o_eqb ?_ | refine o_eqc ?_ | refine o_nilc ?_ | refine o_isnil ?_ | refine o_fn ?_ | refine o_lenS ?_ | refine o_cstr ?_ | refine o_minmax ?_ | refine skF ?_ | refine skU ?_ | refine ct_ret ⟨.inr rfl, ?_⟩ | refine cnd (fun _ => ?_) (fun _ => ?_) | (refine glook (fun _ => ?_) (fun _ => ?_) <;> first | refine o_slstr ?_ | refine o_copy ?_ | refine o_loads ?_ | refine o_loadp ?_ | refine o_faddr ?_ | refine o_iaddr ?_ | refine o_iaddrO ?_ | refine o_iaddrR ?_ | refine o_b2sR ?_ | refine o_indexS ?_ | refine o_add ?_ | refine o_sub ?_ | refine o_cat ?_ | refine o_bin ?_ | refine o_lenq ?_ | refine o_len ?_ | refine o_loadsA ?_ | refine o_loadpA ?_ | refine o_box ?_ | refine o_alloc ?_ | refine o_bslice ?_ | refine o_s2b ?_ | refine o_store ?_ | refine o_field ?_ | refine o_not ?_ | refine o_pickt ?_ | refine o_pickf ?_ | refine o_build ?_ | refine o_extract ?_ | refine o_iaddrA ?_ | refine o_eqb ?_ | refine o_eqc ?_ | refine o_nilc ?_ | refine o_isnil ?_ | refine o_fn ?_ | refine o_lenS ?_ | refine o_cstr ?_ | refine o_minmax ?_ | refine skF ?_ | refine skU ?_)
  all_goals refine oB ?_
  all_goals simp_all [beginsL]
  all_goals omega
theorem begins_vc (k p : Str) (hk : k.length ≤ 1000000000) (hp : p.length ≤ 1000000000) : VC Try.prog 37 [.str k, .str p] [] (.bool (beginsL k p)) [] := by
  refine vc_of vf37 ?_ (Nat.le_of_ble_eq_true rfl) (by intro vs h; cases h)
  repeat' first | refine o_copy ?_ | refine nl ?_ | refine ct_seq ?_ | refine rg ?_ | refine ct_block ?_ | refine bq ?_ | refine ct_skip ?_ | refine ct_exit ?_ | refine rt_next ?_ | refine cndt ?_ | refine cndf ?_ | refine o_slstr ?_ | refine o_copy ?_ | refine o_loads ?_ | refine o_loadp ?_ | refine o_faddr ?_ | refine o_iaddr ?_ | refine o_iaddrO ?_ | refine o_iaddrR ?_ | refine o_b2sR ?_ | refine o_indexS ?_ | refine o_add ?_ | refine o_sub ?_ | refine o_cat ?_ | refine o_bin ?_ | refine o_lenq ?_ | refine o_len ?_ | refine o_loadsA ?_ | refine o_loadpA ?_ | refine o_box ?_ | refine o_alloc ?_ | refine o_bslice ?_ | refine o_s2b ?_ | refine o_store ?_ | refine o_field ?_ | refine o_not ?_ | refine o_pickt ?_ | refine o_pickf ?_ | refine o_build ?_ | refine o_extract ?_ | refine o_iaddrA ?_ | refine o_eqb ?_ | refine o_eqc ?_ | refine o_nilc ?_ | refine o_isnil ?_ | refine o_fn ?_ | refine o_lenS ?_ | refine o_cstr ?_ | refine o_minmax ?_ | refine skF ?_ | refine skU ?_ | refine ct_ret ⟨.inr rfl, ?_⟩ | refine cnd (fun _ => ?_) (fun _ => ?_) | (refine glook (fun _ => ?_) (fun _ => ?_) <;> first | refine o_slstr ?_ | refine o_copy ?_ | refine o_loads ?_ | refine o_loadp ?_ | refine o_faddr ?_ | refine o_iaddr ?_ | refine o_iaddrO ?_ | refine o_iaddrR ?_ | refine o_b2sR ?_ | refine o_indexS ?_ | refine o_add ?_ | refine o_sub ?_ | refine o_cat ?_ | refine o_bin ?_ | refine o_lenq ?_ | refine o_len ?_ | refine o_loadsA ?_ | refine o_loadpA ?_ | refine o_box ?_ | refine o_alloc ?_ | refine o_bslice ?_ | refine o_s2b ?_ | refine o_store ?_ | refine o_field ?_ | refine o_not ?_ | refine o_pickt ?_ | refine o_pickf ?_ | refine o_build ?_ | refine o_extract ?_ | refine o_iaddrA ?_ | refine o_eqb ?_ | refine o_eqc ?_ | refine o_nilc ?_ | refine o_isnil ?_ | refine o_fn ?_ | refine o_lenS ?_ | refine o_cstr ?_ | refine o_minmax ?_ | refine skF ?_ | refine skU ?_)
  all_goals refine oB ?_
  all_goals simp_all [beginsL]
  all_goals omega
theorem cut_vc0 (k p : Str) (hk : k.length ≤ 1000000000) (hp : p.length ≤ 1000000000) : VC Try.prog 51 [.str k, .str p] [] (.tup [.str (if beginsL k p = true then k.drop p.length else k), .bool (beginsL k p)]) [] := by
  refine vc_of vf51 ?_ (Nat.le_of_ble_eq_true rfl) (by intro vs h; cases h; intro p hp q; rcases List.mem_cons.1 hp with rfl | hp <;> simp_all)
  have hl : beginsL k p = true → p.length ≤ k.length := fun h => by simp [beginsL] at h; exact h.1
  repeat' first | refine o_copy ?_ | refine nl ?_ | refine ct_seq ?_ | refine rg ?_ | refine ct_block ?_ | refine bq ?_ | refine ct_skip ?_ | refine ct_exit ?_ | refine rt_next ?_ | refine cndt ?_ | refine cndf ?_ | refine cv0 (hasPrefix_vc k p hk hp) ?_ | refine o_slstr ?_ | refine o_copy ?_ | refine o_loads ?_ | refine o_loadp ?_ | refine o_faddr ?_ | refine o_iaddr ?_ | refine o_iaddrO ?_ | refine o_iaddrR ?_ | refine o_b2sR ?_ | refine o_indexS ?_ | refine o_add ?_ | refine o_sub ?_ | refine o_cat ?_ | refine o_bin ?_ | refine o_lenq ?_ | refine o_len ?_ | refine o_loadsA ?_ | refine o_loadpA ?_ | refine o_box ?_ | refine o_alloc ?_ | refine o_bslice ?_ | refine o_s2b ?_ | refine o_store ?_ | refine o_field ?_ | refine o_not ?_ | refine o_pickt ?_ | refine o_pickf ?_ | refine o_build ?_ | refine o_extract ?_ | refine o_iaddrA ?_ | refine o_eqb ?_ | refine o_eqc ?_ | refine o_nilc ?_ | refine o_isnil ?_ | refine o_fn ?_ | refine o_lenS ?_ | refine o_cstr ?_ | refine o_minmax ?_ | refine skF ?_ | refine skU ?_ | refine ct_ret ⟨.inr rfl, ?_⟩ | refine cnd (fun _ => ?_) (fun _ => ?_) | (refine glook (fun _ => ?_) (fun _ => ?_) <;> first | refine cv0 (hasPrefix_vc k p hk hp) ?_ | refine o_slstr ?_ | refine o_copy ?_ | refine o_loads ?_ | refine o_loadp ?_ | refine o_faddr ?_ | refine o_iaddr ?_ | refine o_iaddrO ?_ | refine o_iaddrR ?_ | refine o_b2sR ?_ | refine o_indexS ?_ | refine o_add ?_ | refine o_sub ?_ | refine o_cat ?_ | refine o_bin ?_ | refine o_lenq ?_ | refine o_len ?_ | refine o_loadsA ?_ | refine o_loadpA ?_ | refine o_box ?_ | refine o_alloc ?_ | refine o_bslice ?_ | refine o_s2b ?_ | refine o_store ?_ | refine o_field ?_ | refine o_not ?_ | refine o_pickt ?_ | refine o_pickf ?_ | refine o_build ?_ | refine o_extract ?_ | refine o_iaddrA ?_ | refine o_eqb ?_ | refine o_eqc ?_ | refine o_nilc ?_ | refine o_isnil ?_ | refine o_fn ?_ | refine o_lenS ?_ | refine o_cstr ?_ | refine o_minmax ?_ | refine skF ?_ | refine skU ?_)
  all_goals refine oSB ?_
  all_goals simp_all
  all_goals (rw [List.take_of_length_le (by simp)])
theorem cut_vc (k p : Str) (hk : k.length ≤ 1000000000) (hp : p.length ≤ 1000000000) : VC Try.prog 39 [.str k, .str p] [] (.tup [.str (if beginsL k p = true then k.drop p.length else k), .bool (beginsL k p)]) [] := by
  refine vc_of vf39 ?_ (Nat.le_of_ble_eq_true rfl) (by intro vs h; cases h; intro p hp q; rcases List.mem_cons.1 hp with rfl | hp <;> simp_all)
  repeat' first | refine o_copy ?_ | refine nl ?_ | refine ct_seq ?_ | refine rg ?_ | refine ct_block ?_ | refine bq ?_ | refine ct_skip ?_ | refine ct_exit ?_ | refine rt_next ?_ | refine cndt ?_ | refine cndf ?_ | refine cv0 (cut_vc0 k p hk hp) ?_ | refine o_copy ?_ | refine o_loads ?_ | refine o_loadp ?_ | refine o_faddr ?_ | refine o_iaddr ?_ | refine o_iaddrO ?_ | refine o_iaddrR ?_ | refine o_b2sR ?_ | refine o_indexS ?_ | refine o_add ?_ | refine o_sub ?_ | refine o_cat ?_ | refine o_bin ?_ | refine o_lenq ?_ | refine o_len ?_ | refine o_loadsA ?_ | refine o_loadpA ?_ | refine o_box ?_ | refine o_alloc ?_ | refine o_bslice ?_ | refine o_s2b ?_ | refine o_store ?_ | refine o_field ?_ | refine o_not ?_ | refine o_pickt ?_ | refine o_pickf ?_ | refine o_build ?_ | refine o_extract ?_ | refine o_iaddrA ?_ | refine o_eqb ?_ | refine o_eqc ?_ | refine o_nilc ?_ | refine o_isnil ?_ | refine o_fn ?_ | refine o_lenS ?_ | refine o_cstr ?_ | refine o_minmax ?_ | refine skF ?_ | refine skU ?_ | refine ct_ret ⟨.inr rfl, ?_⟩ | refine cnd (fun _ => ?_) (fun _ => ?_) | (refine glook (fun _ => ?_) (fun _ => ?_) <;> first | refine cv0 (cut_vc0 k p hk hp) ?_ | refine o_copy ?_ | refine o_loads ?_ | refine o_loadp ?_ | refine o_faddr ?_ | refine o_iaddr ?_ | refine o_iaddrO ?_ | refine o_iaddrR ?_ | refine o_b2sR ?_ | refine o_indexS ?_ | refine o_add ?_ | refine o_sub ?_ | refine o_cat ?_ | refine o_bin ?_ | refine o_lenq ?_ | refine o_len ?_ | refine o_loadsA ?_ | refine o_loadpA ?_ | refine o_box ?_ | refine o_alloc ?_ | refine o_bslice ?_ | refine o_s2b ?_ | refine o_store ?_ | refine o_field ?_ | refine o_not ?_ | refine o_pickt ?_ | refine o_pickf ?_ | refine o_build ?_ | refine o_extract ?_ | refine o_iaddrA ?_ | refine o_eqb ?_ | refine o_eqc ?_ | refine o_nilc ?_ | refine o_isnil ?_ | refine o_fn ?_ | refine o_lenS ?_ | refine o_cstr ?_ | refine o_minmax ?_ | refine skF ?_ | refine skU ?_)
  all_goals exact oSB rfl
theorem moved_vc (k f t : Str) (hk : k.length ≤ 1000000000) (hf : f.length ≤ 1000000000) (ht : t.length ≤ 1000000000) : VC Try.prog 13 [.str k, .str f, .str t] [] (.tup [.str (movedL k f t).1, .bool (movedL k f t).2]) [] := by
  refine vc_of vf13 ?_ (Nat.le_of_ble_eq_true rfl) (by intro vs h; cases h; intro p hp q; rcases List.mem_cons.1 hp with rfl | hp <;> simp_all)
  by_cases hb : beginsL k f = true
  · have hc := cut_vc k f hk hf
    rw [if_pos hb] at hc
    have hl : (k.drop f.length).length ≤ 1000000000 := by simp; omega
    repeat' first | refine o_copy ?_ | refine nl ?_ | refine ct_seq ?_ | refine rg ?_ | refine ct_block ?_ | refine bq ?_ | refine ct_skip ?_ | refine ct_exit ?_ | refine rt_next ?_ | refine cndt ?_ | refine cndf ?_ | refine cv0 hc ?_ | refine o_copy ?_ | refine o_loads ?_ | refine o_loadp ?_ | refine o_faddr ?_ | refine o_iaddr ?_ | refine o_iaddrO ?_ | refine o_iaddrR ?_ | refine o_b2sR ?_ | refine o_indexS ?_ | refine o_add ?_ | refine o_sub ?_ | refine o_cat ?_ | refine o_bin ?_ | refine o_lenq ?_ | refine o_len ?_ | refine o_loadsA ?_ | refine o_loadpA ?_ | refine o_box ?_ | refine o_alloc ?_ | refine o_bslice ?_ | refine o_s2b ?_ | refine o_store ?_ | refine o_field ?_ | refine o_not ?_ | refine o_pickt ?_ | refine o_pickf ?_ | refine o_build ?_ | refine o_extract ?_ | refine o_iaddrA ?_ | refine o_eqb ?_ | refine o_eqc ?_ | refine o_nilc ?_ | refine o_isnil ?_ | refine o_fn ?_ | refine o_lenS ?_ | refine o_cstr ?_ | refine o_minmax ?_ | refine skF ?_ | refine skU ?_ | refine ct_ret ⟨.inr rfl, ?_⟩ | refine cnd (fun _ => ?_) (fun _ => ?_) | (refine glook (fun _ => ?_) (fun _ => ?_) <;> first | refine cv0 hc ?_ | refine o_copy ?_ | refine o_loads ?_ | refine o_loadp ?_ | refine o_faddr ?_ | refine o_iaddr ?_ | refine o_iaddrO ?_ | refine o_iaddrR ?_ | refine o_b2sR ?_ | refine o_indexS ?_ | refine o_add ?_ | refine o_sub ?_ | refine o_cat ?_ | refine o_bin ?_ | refine o_lenq ?_ | refine o_len ?_ | refine o_loadsA ?_ | refine o_loadpA ?_ | refine o_box ?_ | refine o_alloc ?_ | refine o_bslice ?_ | refine o_s2b ?_ | refine o_store ?_ | refine o_field ?_ | refine o_not ?_ | refine o_pickt ?_ | refine o_pickf ?_ | refine o_build ?_ | refine o_extract ?_ | refine o_iaddrA ?_ | refine o_eqb ?_ | refine o_eqc ?_ | refine o_nilc ?_ | refine o_isnil ?_ | refine o_fn ?_ | refine o_lenS ?_ | refine o_cstr ?_ | refine o_minmax ?_ | refine skF ?_ | refine skU ?_)
    all_goals refine oSB ?_
    all_goals simp_all [movedL]
  · have hc := cut_vc k f hk hf
    rw [if_neg hb] at hc
    repeat' first | refine o_copy ?_ | refine nl ?_ | refine ct_seq ?_ | refine rg ?_ | refine ct_block ?_ | refine bq ?_ | refine ct_skip ?_ | refine ct_exit ?_ | refine rt_next ?_ | refine cndt ?_ | refine cndf ?_ | refine cv0 hc ?_ | refine o_copy ?_ | refine o_loads ?_ | refine o_loadp ?_ | refine o_faddr ?_ | refine o_iaddr ?_ | refine o_iaddrO ?_ | refine o_iaddrR ?_ | refine o_b2sR ?_ | refine o_indexS ?_ | refine o_add ?_ | refine o_sub ?_ | refine o_cat ?_ | refine o_bin ?_ | refine o_lenq ?_ | refine o_len ?_ | refine o_loadsA ?_ | refine o_loadpA ?_ | refine o_box ?_ | refine o_alloc ?_ | refine o_bslice ?_ | refine o_s2b ?_ | refine o_store ?_ | refine o_field ?_ | refine o_not ?_ | refine o_pickt ?_ | refine o_pickf ?_ | refine o_build ?_ | refine o_extract ?_ | refine o_iaddrA ?_ | refine o_eqb ?_ | refine o_eqc ?_ | refine o_nilc ?_ | refine o_isnil ?_ | refine o_fn ?_ | refine o_lenS ?_ | refine o_cstr ?_ | refine o_minmax ?_ | refine skF ?_ | refine skU ?_ | refine ct_ret ⟨.inr rfl, ?_⟩ | refine cnd (fun _ => ?_) (fun _ => ?_) | (refine glook (fun _ => ?_) (fun _ => ?_) <;> first | refine cv0 hc ?_ | refine o_copy ?_ | refine o_loads ?_ | refine o_loadp ?_ | refine o_faddr ?_ | refine o_iaddr ?_ | refine o_iaddrO ?_ | refine o_iaddrR ?_ | refine o_b2sR ?_ | refine o_indexS ?_ | refine o_add ?_ | refine o_sub ?_ | refine o_cat ?_ | refine o_bin ?_ | refine o_lenq ?_ | refine o_len ?_ | refine o_loadsA ?_ | refine o_loadpA ?_ | refine o_box ?_ | refine o_alloc ?_ | refine o_bslice ?_ | refine o_s2b ?_ | refine o_store ?_ | refine o_field ?_ | refine o_not ?_ | refine o_pickt ?_ | refine o_pickf ?_ | refine o_build ?_ | refine o_extract ?_ | refine o_iaddrA ?_ | refine o_eqb ?_ | refine o_eqc ?_ | refine o_nilc ?_ | refine o_isnil ?_ | refine o_fn ?_ | refine o_lenS ?_ | refine o_cstr ?_ | refine o_minmax ?_ | refine skF ?_ | refine skU ?_)
    all_goals refine oSB ?_
    all_goals simp_all [movedL]
theorem rmoved_vc (k f t : Str) (hk : k.length ≤ 1000000000) (hf : f.length ≤ 1000000000) (ht : t.length ≤ 1000000000) : VC Try.prog 14 [.str k, .str f, .str t] [] (.tup [.str (movedL k f t).1, .bool (movedL k f t).2]) [] := by
  refine vc_of vf14 ?_ (Nat.le_of_ble_eq_true rfl) (by intro vs h; cases h; intro p hp q; rcases List.mem_cons.1 hp with rfl | hp <;> simp_all)
  have hl : beginsL k f = true → f.length ≤ k.length := fun h => by simp [beginsL] at h; exact h.1
  repeat' first | refine o_copy ?_ | refine nl ?_ | refine ct_seq ?_ | refine rg ?_ | refine ct_block ?_ | refine bq ?_ | refine ct_skip ?_ | refine ct_exit ?_ | refine rt_next ?_ | refine cndt ?_ | refine cndf ?_ | refine cv0 (begins_vc k f hk hf) ?_ | refine o_slstr ?_ | refine o_copy ?_ | refine o_loads ?_ | refine o_loadp ?_ | refine o_faddr ?_ | refine o_iaddr ?_ | refine o_iaddrO ?_ | refine o_iaddrR ?_ | refine o_b2sR ?_ | refine o_indexS ?_ | refine o_add ?_ | refine o_sub ?_ | refine o_cat ?_ | refine o_bin ?_ | refine o_lenq ?_ | refine o_len ?_ | refine o_loadsA ?_ | refine o_loadpA ?_ | refine o_box ?_ | refine o_alloc ?_ | refine o_bslice ?_ | refine o_s2b ?_ | refine o_store ?_ | refine o_field ?_ | refine o_not ?_ | refine o_pickt ?_ | refine o_pickf ?_ | refine o_build ?_ | refine o_extract ?_ | refine o_iaddrA ?_ | refine o_eqb ?_ | refine o_eqc ?_ | refine o_nilc ?_ | refine o_isnil ?_ | refine o_fn ?_ | refine o_lenS ?_ | refine o_cstr ?_ | refine o_minmax ?_ | refine skF ?_ | refine skU ?_ | refine ct_ret ⟨.inr rfl, ?_⟩ | refine cnd (fun _ => ?_) (fun _ => ?_) | (refine glook (fun _ => ?_) (fun _ => ?_) <;> first | refine cv0 (begins_vc k f hk hf) ?_ | refine o_slstr ?_ | refine o_copy ?_ | refine o_loads ?_ | refine o_loadp ?_ | refine o_faddr ?_ | refine o_iaddr ?_ | refine o_iaddrO ?_ | refine o_iaddrR ?_ | refine o_b2sR ?_ | refine o_indexS ?_ | refine o_add ?_ | refine o_sub ?_ | refine o_cat ?_ | refine o_bin ?_ | refine o_lenq ?_ | refine o_len ?_ | refine o_loadsA ?_ | refine o_loadpA ?_ | refine o_box ?_ | refine o_alloc ?_ | refine o_bslice ?_ | refine o_s2b ?_ | refine o_store ?_ | refine o_field ?_ | refine o_not ?_ | refine o_pickt ?_ | refine o_pickf ?_ | refine o_build ?_ | refine o_extract ?_ | refine o_iaddrA ?_ | refine o_eqb ?_ | refine o_eqc ?_ | refine o_nilc ?_ | refine o_isnil ?_ | refine o_fn ?_ | refine o_lenS ?_ | refine o_cstr ?_ | refine o_minmax ?_ | refine skF ?_ | refine skU ?_)
  all_goals refine oSB ?_
  all_goals simp_all [movedL]
  all_goals (rw [List.take_of_length_le (by simp)])
end Go.Proofs
