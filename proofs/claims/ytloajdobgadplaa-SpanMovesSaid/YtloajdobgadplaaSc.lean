/- Sc -/
import Derived.Test.YtloajdobgadplaaSa
import Derived.Test.YtloajdobgadplaaSb
import Derived.Test.YtloajdobgadplaaVD
open Go.V Go.Pu
set_option linter.unusedVariables false
set_option linter.unusedSimpArgs false
set_option maxRecDepth 20000
namespace Go.Proofs
/-- downspout/downspoutlaw02.SpanPrefixes -/
def vc4 : VCode :=
  (.seq
   (.region 0 false [
     ⟨(some 4), .copy (.c (.bool false)), none, 0, []⟩])
   (.seq
    (.region 1 false [
      ⟨(some 10), .call (.c (.fn 11 [])) [], none, 8192, []⟩,
      ⟨(some 5), .copy (.t 10), none, 8200, [0]⟩])
    (.seq
     (.seq
      (.region 2 false [
        ⟨(some 11), .copy (.t 0), none, 16384, []⟩,
        ⟨(some 12), .lenS (.t 11), none, 16392, [0]⟩,
        ⟨(some 13), .bin .gtr (.t 12) (.c (.int .i64 30)), none, 16400, [1, 0]⟩,
        ⟨(some 14), .copy (.t 13), none, 16408, [2, 1, 0]⟩,
        ⟨(some 15), .copy (.t 1), (some (3, 14, false)), 16416, [3, 2, 1, 0]⟩,
        ⟨(some 16), .lenS (.t 15), (some (3, 14, false)), 16424, [4, 3, 2, 1, 0]⟩,
        ⟨(some 17), .bin .gtr (.t 16) (.c (.int .i64 30)), (some (3, 14, false)), 16432, [5, 4, 3, 2, 1, 0]⟩,
        ⟨(some 18), .pick (.t 14) (.c (.bool true)) (.t 17), none, 16440, [3, 2, 1, 0, 6, 5, 4]⟩])
      (.cond (.t 18)
       (.seq
        (.region 3 false [
          ⟨(some 19), .copy (.t 5), none, 24576, []⟩,
          ⟨(some 4), .copy (.t 19), none, 24584, [0]⟩])
        .ret)
       .skip))
     (.seq
      (.region 4 false [
        ⟨(some 20), .copy (.t 0), none, 32768, []⟩,
        ⟨(some 21), .call (.c (.fn 15 [])) [(.t 20)], none, 32776, [0]⟩,
        ⟨(some 22), .copy (.t 0), none, 32784, []⟩,
        ⟨(some 23), .call (.c (.fn 17 [])) [(.t 22)], none, 32792, [2, 1, 0]⟩,
        ⟨(some 6), .alloc [(.str []), (.str [])], none, 32800, []⟩,
        ⟨(some 7), .alloc [(.str []), (.str [])], none, 32808, []⟩,
        ⟨none, .store 2 (.t 6) (.t 21), none, 32816, [4, 1, 0, 3, 2, 5]⟩,
        ⟨none, .store 2 (.t 7) (.t 23), none, 32824, [5, 3, 2, 1, 0, 6, 4]⟩])
      (.seq
       (.region 5 false [
         ⟨(some 24), .load true 2 (.t 6), none, 40960, []⟩,
         ⟨(some 25), .load true 2 (.t 7), none, 40968, []⟩,
         ⟨(some 26), .bslice 2 [(.str []), (.str [])] 2 [(0, (.t 24)), (1, (.t 25))], none, 40976, [0, 1]⟩,
         ⟨(some 27), .call (.c (.fn 36 [])) [(.t 26)], none, 40984, [2, 0, 1]⟩,
         ⟨(some 28), .copy (.t 1), none, 40992, []⟩,
         ⟨(some 29), .copy (.t 0), none, 41000, []⟩,
         ⟨(some 30), .copy (.t 1), none, 41008, []⟩,
         ⟨(some 31), .bin .add (.t 29) (.t 30), none, 41016, [5, 6]⟩,
         ⟨(some 32), .copy (.t 1), none, 41024, []⟩,
         ⟨(some 33), .copy (.t 0), none, 41032, []⟩,
         ⟨(some 34), .bin .add (.t 32) (.t 33), none, 41040, [8, 9]⟩,
         ⟨(some 35), .bslice 1 [(.str [])] 3 [(0, (.t 28)), (1, (.t 31)), (2, (.t 34))], none, 41048, [4, 7, 5, 6, 10, 8, 9]⟩,
         ⟨(some 36), .append 1 16 [(.str [])] (.t 27) (.t 35), none, 41056, [3, 2, 0, 1, 11, 4, 7, 5, 6, 10, 8, 9]⟩,
         ⟨(some 8), .copy (.t 36), none, 41064, [12, 3, 2, 0, 1, 11, 4, 7, 5, 6, 10, 8, 9]⟩])
       (.seq
        (.seq
         (.region 6 false [
           ⟨(some 9), .copy (.c (.int .i64 0)), none, 49152, []⟩])
         (.block 0
          (.loop
           (.seq
            (.seq
             (.region 7 false [
               ⟨(some 37), .copy (.t 9), none, 57344, []⟩,
               ⟨(some 38), .copy (.t 8), none, 57352, []⟩,
               ⟨(some 39), .len (.t 38), none, 57360, [1]⟩,
               ⟨(some 40), .bin .lss (.t 37) (.t 39), none, 57368, [0, 2, 1]⟩])
             (.cond (.t 40)
              .skip
              (.exit 0)))
            (.seq
             (.block 1
              (.seq
               (.region 9 true [
                 ⟨(some 43), .load true 2 (.t 6), none, 73728, []⟩,
                 ⟨(some 44), .copy (.t 8), none, 73736, []⟩,
                 ⟨(some 45), .copy (.t 9), none, 73744, []⟩,
                 ⟨(some 46), .iaddr 1 (.t 44) (.t 45), none, 73752, [1, 2]⟩,
                 ⟨(some 47), .load false 1 (.t 46), none, 73760, [3, 1, 2]⟩,
                 ⟨(some 48), .call (.c (.fn 21 [])) [(.t 43), (.t 47)], none, 73768, [0, 4, 3, 1, 2]⟩,
                 ⟨(some 49), .copy (.t 8), none, 73776, []⟩,
                 ⟨(some 50), .copy (.t 9), none, 73784, []⟩,
                 ⟨(some 51), .iaddr 1 (.t 49) (.t 50), none, 73792, [6, 7]⟩,
                 ⟨(some 52), .load false 1 (.t 51), none, 73800, [8, 6, 7]⟩,
                 ⟨(some 53), .copy (.t 0), none, 73808, []⟩,
                 ⟨(some 54), .call (.c (.fn 37 [])) [(.t 52), (.t 53)], none, 73816, [9, 8, 6, 7, 10, 5, 0, 4, 3, 1, 2]⟩,
                 ⟨(some 55), .eqb true (.t 48) (.t 54), none, 73824, [5, 0, 4, 3, 1, 2, 11, 9, 8, 6, 7, 10]⟩,
                 ⟨(some 56), .copy (.t 55), none, 73832, [12, 5, 0, 4, 3, 1, 2, 11, 9, 8, 6, 7, 10]⟩,
                 ⟨(some 57), .load true 2 (.t 7), (some (13, 56, false)), 73840, [13, 12, 5, 0, 4, 3, 1, 2, 11, 9, 8, 6, 7, 10]⟩,
                 ⟨(some 58), .copy (.t 8), (some (13, 56, false)), 73848, [13, 12, 5, 0, 4, 3, 1, 2, 11, 9, 8, 6, 7, 10]⟩,
                 ⟨(some 59), .copy (.t 9), (some (13, 56, false)), 73856, [13, 12, 5, 0, 4, 3, 1, 2, 11, 9, 8, 6, 7, 10]⟩,
                 ⟨(some 60), .iaddr 1 (.t 58) (.t 59), (some (13, 56, false)), 73864, [15, 13, 12, 5, 0, 4, 3, 1, 2, 11, 9, 8, 6, 7, 10, 16]⟩,
                 ⟨(some 61), .load false 1 (.t 60), (some (13, 56, false)), 73872, [17, 15, 13, 12, 5, 0, 4, 3, 1, 2, 11, 9, 8, 6, 7, 10, 16]⟩,
                 ⟨(some 62), .call (.c (.fn 21 [])) [(.t 57), (.t 61)], (some (13, 56, false)), 73880, [14, 13, 12, 5, 0, 4, 3, 1, 2, 11, 9, 8, 6, 7, 10, 18, 17, 15, 16]⟩,
                 ⟨(some 63), .copy (.t 8), (some (13, 56, false)), 73888, [13, 12, 5, 0, 4, 3, 1, 2, 11, 9, 8, 6, 7, 10]⟩,
                 ⟨(some 64), .copy (.t 9), (some (13, 56, false)), 73896, [13, 12, 5, 0, 4, 3, 1, 2, 11, 9, 8, 6, 7, 10]⟩,
                 ⟨(some 65), .iaddr 1 (.t 63) (.t 64), (some (13, 56, false)), 73904, [20, 13, 12, 5, 0, 4, 3, 1, 2, 11, 9, 8, 6, 7, 10, 21]⟩,
                 ⟨(some 66), .load false 1 (.t 65), (some (13, 56, false)), 73912, [22, 20, 13, 12, 5, 0, 4, 3, 1, 2, 11, 9, 8, 6, 7, 10, 21]⟩,
                 ⟨(some 67), .copy (.t 0), (some (13, 56, false)), 73920, [13, 12, 5, 0, 4, 3, 1, 2, 11, 9, 8, 6, 7, 10]⟩,
                 ⟨(some 68), .bin .eql (.t 66) (.t 67), (some (13, 56, false)), 73928, [23, 22, 20, 13, 12, 5, 0, 4, 3, 1, 2, 11, 9, 8, 6, 7, 10, 21, 24]⟩,
                 ⟨(some 69), .eqb true (.t 62) (.t 68), (some (13, 56, false)), 73936, [19, 14, 13, 12, 5, 0, 4, 3, 1, 2, 11, 9, 8, 6, 7, 10, 18, 17, 15, 16, 25, 23, 22, 20, 21, 24]⟩,
                 ⟨(some 70), .pick (.t 56) (.c (.bool true)) (.t 69), none, 73944, [13, 12, 5, 0, 4, 3, 1, 2, 11, 9, 8, 6, 7, 10, 26, 19, 14, 18, 17, 15, 16, 25, 23, 22, 20, 21, 24]⟩])
               (.cond (.t 70)
                (.seq
                 (.region 10 false [
                   ⟨(some 4), .copy (.c (.bool false)), none, 81920, []⟩])
                 .ret)
                .skip)))
             (.region 8 false [
               ⟨(some 41), .copy (.t 9), none, 65536, []⟩,
               ⟨(some 42), .bin .add (.t 41) (.c (.int .i64 1)), none, 65544, [0]⟩,
               ⟨(some 9), .copy (.t 42), none, 65552, [1, 0]⟩]))))))
        (.seq
         (.region 11 false [
           ⟨(some 71), .load true 2 (.t 6), none, 90112, []⟩,
           ⟨(some 72), .call (.c (.fn 23 [])) [(.t 71)], none, 90120, [0]⟩,
           ⟨(some 73), .not (.t 72), none, 90128, [1, 0]⟩,
           ⟨(some 74), .copy (.t 73), none, 90136, [2, 1, 0]⟩,
           ⟨(some 75), .load true 2 (.t 7), (some (3, 74, true)), 90144, [3, 2, 1, 0]⟩,
           ⟨(some 76), .call (.c (.fn 23 [])) [(.t 75)], (some (3, 74, true)), 90152, [4, 3, 2, 1, 0]⟩,
           ⟨(some 77), .not (.t 76), (some (3, 74, true)), 90160, [5, 4, 3, 2, 1, 0]⟩,
           ⟨(some 78), .pick (.t 74) (.t 77) (.c (.bool false)), none, 90168, [3, 2, 1, 0, 6, 5, 4]⟩,
           ⟨(some 79), .copy (.t 78), none, 90176, [7, 3, 2, 1, 0, 6, 5, 4]⟩,
           ⟨(some 80), .copy (.t 5), (some (8, 79, true)), 90184, [8, 7, 3, 2, 1, 0, 6, 5, 4]⟩,
           ⟨(some 81), .pick (.t 79) (.t 80) (.c (.bool false)), none, 90192, [8, 7, 3, 2, 1, 0, 6, 5, 4, 9]⟩,
           ⟨(some 4), .copy (.t 81), none, 90200, [10, 8, 7, 3, 2, 1, 0, 6, 5, 4, 9]⟩])
         .ret)))))))
theorem vf4 : VF Try.prog 4 = some (82, vc4, [.tmp 4]) := by kernel_rfl
/-- downspout/downspoutlaw02.SpanMeets -/
def vc5 : VCode :=
  (.seq
   (.region 0 false [
     ⟨(some 2), .box (.t 0), none, 0, []⟩,
     ⟨(some 3), .box (.t 1), none, 8, []⟩,
     ⟨(some 4), .copy (.c (.bool false)), none, 16, []⟩])
   (.seq
    (.region 1 false [
      ⟨(some 9), .call (.c (.fn 11 [])) [], none, 8192, []⟩,
      ⟨(some 5), .copy (.t 9), none, 8200, [0]⟩])
    (.seq
     (.seq
      (.region 2 false [
        ⟨(some 10), .load true 2 (.t 2), none, 16384, []⟩,
        ⟨(some 11), .load true 2 (.t 3), none, 16392, []⟩,
        ⟨(some 12), .bslice 2 [(.str []), (.str [])] 2 [(0, (.t 10)), (1, (.t 11))], none, 16400, [0, 1]⟩,
        ⟨(some 13), .call (.c (.fn 12 [])) [(.t 12), (.c (.int .i64 2))], none, 16408, [2, 0, 1]⟩,
        ⟨(some 14), .not (.t 13), none, 16416, [3, 2, 0, 1]⟩])
      (.cond (.t 14)
       (.seq
        (.region 3 false [
          ⟨(some 15), .copy (.t 5), none, 24576, []⟩,
          ⟨(some 4), .copy (.t 15), none, 24584, [0]⟩])
        .ret)
       .skip))
     (.seq
      (.region 4 false [
        ⟨(some 16), .load true 2 (.t 2), none, 32768, []⟩,
        ⟨(some 17), .load true 2 (.t 3), none, 32776, []⟩,
        ⟨(some 18), .call (.c (.fn 25 [])) [(.t 16), (.t 17)], none, 32784, [0, 1]⟩,
        ⟨(some 6), .alloc [(.str []), (.str [])], none, 32792, []⟩,
        ⟨none, .store 2 (.t 6) (.t 18), none, 32800, [3, 2, 0, 1]⟩])
      (.seq
       (.region 5 false [
         ⟨(some 19), .load true 2 (.t 2), none, 40960, []⟩,
         ⟨(some 20), .load true 2 (.t 3), none, 40968, []⟩,
         ⟨(some 21), .load true 2 (.t 6), none, 40976, []⟩,
         ⟨(some 22), .bslice 2 [(.str []), (.str [])] 3 [(0, (.t 19)), (1, (.t 20)), (2, (.t 21))], none, 40984, [0, 1, 2]⟩,
         ⟨(some 23), .call (.c (.fn 36 [])) [(.t 22)], none, 40992, [3, 0, 1, 2]⟩,
         ⟨(some 7), .copy (.t 23), none, 41000, [4, 3, 0, 1, 2]⟩])
       (.seq
        (.seq
         (.region 6 false [
           ⟨(some 8), .copy (.c (.int .i64 0)), none, 49152, []⟩])
         (.block 0
          (.loop
           (.seq
            (.seq
             (.region 7 false [
               ⟨(some 24), .copy (.t 8), none, 57344, []⟩,
               ⟨(some 25), .copy (.t 7), none, 57352, []⟩,
               ⟨(some 26), .len (.t 25), none, 57360, [1]⟩,
               ⟨(some 27), .bin .lss (.t 24) (.t 26), none, 57368, [0, 2, 1]⟩])
             (.cond (.t 27)
              .skip
              (.exit 0)))
            (.seq
             (.block 1
              (.seq
               (.region 9 true [
                 ⟨(some 30), .load true 2 (.t 6), none, 73728, []⟩,
                 ⟨(some 31), .copy (.t 7), none, 73736, []⟩,
                 ⟨(some 32), .copy (.t 8), none, 73744, []⟩,
                 ⟨(some 33), .iaddr 1 (.t 31) (.t 32), none, 73752, [1, 2]⟩,
                 ⟨(some 34), .load false 1 (.t 33), none, 73760, [3, 1, 2]⟩,
                 ⟨(some 35), .call (.c (.fn 21 [])) [(.t 30), (.t 34)], none, 73768, [0, 4, 3, 1, 2]⟩,
                 ⟨(some 36), .load true 2 (.t 2), none, 73776, []⟩,
                 ⟨(some 37), .copy (.t 7), none, 73784, []⟩,
                 ⟨(some 38), .copy (.t 8), none, 73792, []⟩,
                 ⟨(some 39), .iaddr 1 (.t 37) (.t 38), none, 73800, [7, 8]⟩,
                 ⟨(some 40), .load false 1 (.t 39), none, 73808, [9, 7, 8]⟩,
                 ⟨(some 41), .call (.c (.fn 21 [])) [(.t 36), (.t 40)], none, 73816, [6, 10, 9, 7, 8, 5, 0, 4, 3, 1, 2]⟩,
                 ⟨(some 42), .copy (.t 41), none, 73824, [11, 6, 10, 9, 7, 8, 5, 0, 4, 3, 1, 2]⟩,
                 ⟨(some 43), .load true 2 (.t 3), (some (12, 42, true)), 73832, [12, 11, 6, 10, 9, 7, 8, 5, 0, 4, 3, 1, 2]⟩,
                 ⟨(some 44), .copy (.t 7), (some (12, 42, true)), 73840, [12, 11, 6, 10, 9, 7, 8, 5, 0, 4, 3, 1, 2]⟩,
                 ⟨(some 45), .copy (.t 8), (some (12, 42, true)), 73848, [12, 11, 6, 10, 9, 7, 8, 5, 0, 4, 3, 1, 2]⟩,
                 ⟨(some 46), .iaddr 1 (.t 44) (.t 45), (some (12, 42, true)), 73856, [14, 12, 11, 6, 10, 9, 7, 8, 5, 0, 4, 3, 1, 2, 15]⟩,
                 ⟨(some 47), .load false 1 (.t 46), (some (12, 42, true)), 73864, [16, 14, 12, 11, 6, 10, 9, 7, 8, 5, 0, 4, 3, 1, 2, 15]⟩,
                 ⟨(some 48), .call (.c (.fn 21 [])) [(.t 43), (.t 47)], (some (12, 42, true)), 73872, [13, 12, 11, 6, 10, 9, 7, 8, 5, 0, 4, 3, 1, 2, 17, 16, 14, 15]⟩,
                 ⟨(some 49), .pick (.t 42) (.t 48) (.c (.bool false)), none, 73880, [12, 11, 6, 10, 9, 7, 8, 5, 0, 4, 3, 1, 2, 18, 13, 17, 16, 14, 15]⟩,
                 ⟨(some 50), .eqb true (.t 35) (.t 49), none, 73888, [5, 0, 4, 3, 1, 2, 19, 12, 11, 6, 10, 9, 7, 8, 18, 13, 17, 16, 14, 15]⟩])
               (.cond (.t 50)
                (.seq
                 (.region 10 false [
                   ⟨(some 4), .copy (.c (.bool false)), none, 81920, []⟩])
                 .ret)
                .skip)))
             (.region 8 false [
               ⟨(some 28), .copy (.t 8), none, 65536, []⟩,
               ⟨(some 29), .bin .add (.t 28) (.c (.int .i64 1)), none, 65544, [0]⟩,
               ⟨(some 8), .copy (.t 29), none, 65552, [1, 0]⟩]))))))
        (.seq
         (.region 11 true [
           ⟨(some 51), .load true 2 (.t 6), none, 90112, []⟩,
           ⟨(some 52), .load true 2 (.t 3), none, 90120, []⟩,
           ⟨(some 53), .load true 2 (.t 2), none, 90128, []⟩,
           ⟨(some 54), .call (.c (.fn 25 [])) [(.t 52), (.t 53)], none, 90136, [1, 2]⟩,
           ⟨(some 55), .eqc false [2, 2] (.t 51) (.t 54), none, 90144, [0, 3, 1, 2]⟩,
           ⟨(some 56), .copy (.t 55), none, 90152, [4, 0, 3, 1, 2]⟩,
           ⟨(some 57), .load true 2 (.t 6), (some (5, 56, true)), 90160, [5, 4, 0, 3, 1, 2]⟩,
           ⟨(some 58), .call (.c (.fn 23 [])) [(.t 57)], (some (5, 56, true)), 90168, [6, 5, 4, 0, 3, 1, 2]⟩,
           ⟨(some 59), .not (.t 58), (some (5, 56, true)), 90176, [7, 6, 5, 4, 0, 3, 1, 2]⟩,
           ⟨(some 60), .copy (.t 59), (some (5, 56, true)), 90184, [8, 7, 6, 5, 4, 0, 3, 1, 2]⟩,
           ⟨(some 61), .load true 2 (.t 6), (some (9, 60, false)), 90192, [9, 8, 7, 6, 5, 4, 0, 3, 1, 2]⟩,
           ⟨(some 62), .call (.c (.fn 19 [])) [(.c (.str [97])), (.c (.str [97]))], (some (9, 60, false)), 90200, [9, 8, 7, 6, 5, 4, 0, 3, 1, 2]⟩,
           ⟨(some 63), .eqc false [2, 2] (.t 61) (.t 62), (some (9, 60, false)), 90208, [10, 9, 8, 7, 6, 5, 4, 0, 3, 1, 2, 11]⟩,
           ⟨(some 64), .pick (.t 60) (.c (.bool true)) (.t 63), (some (5, 56, true)), 90216, [9, 8, 7, 6, 5, 4, 0, 3, 1, 2, 12, 10, 11]⟩,
           ⟨(some 65), .pick (.t 56) (.t 64) (.c (.bool false)), none, 90224, [5, 4, 0, 3, 1, 2, 13, 9, 8, 7, 6, 12, 10, 11]⟩,
           ⟨(some 66), .copy (.t 65), none, 90232, [14, 5, 4, 0, 3, 1, 2, 13, 9, 8, 7, 6, 12, 10, 11]⟩,
           ⟨(some 67), .copy (.t 5), (some (15, 66, true)), 90240, [15, 14, 5, 4, 0, 3, 1, 2, 13, 9, 8, 7, 6, 12, 10, 11]⟩,
           ⟨(some 68), .pick (.t 66) (.t 67) (.c (.bool false)), none, 90248, [15, 14, 5, 4, 0, 3, 1, 2, 13, 9, 8, 7, 6, 12, 10, 11, 16]⟩,
           ⟨(some 4), .copy (.t 68), none, 90256, [17, 15, 14, 5, 4, 0, 3, 1, 2, 13, 9, 8, 7, 6, 12, 10, 11, 16]⟩])
         .ret)))))))
theorem vf5 : VF Try.prog 5 = some (69, vc5, [.tmp 4]) := by kernel_rfl
/-- downspout/downspoutlaw02.SpanCovers -/
def vc6 : VCode :=
  (.seq
   (.region 0 false [
     ⟨(some 2), .box (.t 0), none, 0, []⟩,
     ⟨(some 3), .box (.t 1), none, 8, []⟩,
     ⟨(some 4), .copy (.c (.bool false)), none, 16, []⟩])
   (.seq
    (.region 1 false [
      ⟨(some 9), .call (.c (.fn 11 [])) [], none, 8192, []⟩,
      ⟨(some 5), .copy (.t 9), none, 8200, [0]⟩])
    (.seq
     (.seq
      (.region 2 false [
        ⟨(some 10), .load true 2 (.t 2), none, 16384, []⟩,
        ⟨(some 11), .load true 2 (.t 3), none, 16392, []⟩,
        ⟨(some 12), .bslice 2 [(.str []), (.str [])] 2 [(0, (.t 10)), (1, (.t 11))], none, 16400, [0, 1]⟩,
        ⟨(some 13), .call (.c (.fn 12 [])) [(.t 12), (.c (.int .i64 2))], none, 16408, [2, 0, 1]⟩,
        ⟨(some 14), .not (.t 13), none, 16416, [3, 2, 0, 1]⟩])
      (.cond (.t 14)
       (.seq
        (.region 3 false [
          ⟨(some 15), .copy (.t 5), none, 24576, []⟩,
          ⟨(some 4), .copy (.t 15), none, 24584, [0]⟩])
        .ret)
       .skip))
     (.seq
      (.seq
       (.region 4 false [
         ⟨(some 16), .load true 2 (.t 2), none, 32768, []⟩,
         ⟨(some 17), .load true 2 (.t 3), none, 32776, []⟩,
         ⟨(some 18), .call (.c (.fn 27 [])) [(.t 16), (.t 17)], none, 32784, [0, 1]⟩,
         ⟨(some 19), .not (.t 18), none, 32792, [2, 0, 1]⟩])
       (.cond (.t 19)
        (.seq
         (.region 5 false [
           ⟨(some 20), .load true 2 (.t 2), none, 40960, []⟩,
           ⟨(some 21), .faddr 0 (.t 3), none, 40968, []⟩,
           ⟨(some 22), .load false 1 (.t 21), none, 40976, [1]⟩,
           ⟨(some 23), .call (.c (.fn 21 [])) [(.t 20), (.t 22)], none, 40984, [0, 2, 1]⟩,
           ⟨(some 24), .not (.t 23), none, 40992, [3, 0, 2, 1]⟩,
           ⟨(some 25), .copy (.t 24), none, 41000, [4, 3, 0, 2, 1]⟩,
           ⟨(some 26), .faddr 1 (.t 2), (some (5, 25, false)), 41008, [5, 4, 3, 0, 2, 1]⟩,
           ⟨(some 27), .load false 1 (.t 26), (some (5, 25, false)), 41016, [6, 5, 4, 3, 0, 2, 1]⟩,
           ⟨(some 28), .bin .neq (.t 27) (.c (.str [])), (some (5, 25, false)), 41024, [7, 6, 5, 4, 3, 0, 2, 1]⟩,
           ⟨(some 29), .copy (.t 28), (some (5, 25, false)), 41032, [8, 7, 6, 5, 4, 3, 0, 2, 1]⟩,
           ⟨(some 30), .load true 2 (.t 3), (some (9, 29, true)), 41040, [9, 8, 7, 6, 5, 4, 3, 0, 2, 1]⟩,
           ⟨(some 31), .faddr 1 (.t 2), (some (9, 29, true)), 41048, [9, 8, 7, 6, 5, 4, 3, 0, 2, 1]⟩,
           ⟨(some 32), .load false 1 (.t 31), (some (9, 29, true)), 41056, [11, 9, 8, 7, 6, 5, 4, 3, 0, 2, 1]⟩,
           ⟨(some 33), .call (.c (.fn 21 [])) [(.t 30), (.t 32)], (some (9, 29, true)), 41064, [10, 9, 8, 7, 6, 5, 4, 3, 0, 2, 1, 12, 11]⟩,
           ⟨(some 34), .pick (.t 29) (.t 33) (.c (.bool false)), (some (5, 25, false)), 41072, [9, 8, 7, 6, 5, 4, 3, 0, 2, 1, 13, 10, 12, 11]⟩,
           ⟨(some 35), .pick (.t 25) (.c (.bool true)) (.t 34), none, 41080, [5, 4, 3, 0, 2, 1, 14, 9, 8, 7, 6, 13, 10, 12, 11]⟩,
           ⟨(some 6), .copy (.t 35), none, 41088, [15, 5, 4, 3, 0, 2, 1, 14, 9, 8, 7, 6, 13, 10, 12, 11]⟩])
         (.seq
          (.region 6 false [
            ⟨(some 36), .load true 2 (.t 3), none, 49152, []⟩,
            ⟨(some 37), .call (.c (.fn 23 [])) [(.t 36)], none, 49160, [0]⟩,
            ⟨(some 38), .not (.t 37), none, 49168, [1, 0]⟩,
            ⟨(some 39), .copy (.t 38), none, 49176, [2, 1, 0]⟩,
            ⟨(some 40), .copy (.t 6), (some (3, 39, true)), 49184, [3, 2, 1, 0]⟩,
            ⟨(some 41), .pick (.t 39) (.t 40) (.c (.bool false)), none, 49192, [3, 2, 1, 0, 4]⟩,
            ⟨(some 42), .copy (.t 41), none, 49200, [5, 3, 2, 1, 0, 4]⟩,
            ⟨(some 43), .copy (.t 5), (some (6, 42, true)), 49208, [6, 5, 3, 2, 1, 0, 4]⟩,
            ⟨(some 44), .pick (.t 42) (.t 43) (.c (.bool false)), none, 49216, [6, 5, 3, 2, 1, 0, 4, 7]⟩,
            ⟨(some 4), .copy (.t 44), none, 49224, [8, 6, 5, 3, 2, 1, 0, 4, 7]⟩])
          .ret))
        .skip))
      (.seq
       (.region 7 false [
         ⟨(some 45), .load true 2 (.t 2), none, 57344, []⟩,
         ⟨(some 46), .load true 2 (.t 3), none, 57352, []⟩,
         ⟨(some 47), .bslice 2 [(.str []), (.str [])] 2 [(0, (.t 45)), (1, (.t 46))], none, 57360, [0, 1]⟩,
         ⟨(some 48), .call (.c (.fn 36 [])) [(.t 47)], none, 57368, [2, 0, 1]⟩,
         ⟨(some 7), .copy (.t 48), none, 57376, [3, 2, 0, 1]⟩])
       (.seq
        (.seq
         (.region 8 false [
           ⟨(some 8), .copy (.c (.int .i64 0)), none, 65536, []⟩])
         (.block 0
          (.loop
           (.seq
            (.seq
             (.region 9 false [
               ⟨(some 49), .copy (.t 8), none, 73728, []⟩,
               ⟨(some 50), .copy (.t 7), none, 73736, []⟩,
               ⟨(some 51), .len (.t 50), none, 73744, [1]⟩,
               ⟨(some 52), .bin .lss (.t 49) (.t 51), none, 73752, [0, 2, 1]⟩])
             (.cond (.t 52)
              .skip
              (.exit 0)))
            (.seq
             (.block 1
              (.seq
               (.region 11 true [
                 ⟨(some 55), .load true 2 (.t 3), none, 90112, []⟩,
                 ⟨(some 56), .copy (.t 7), none, 90120, []⟩,
                 ⟨(some 57), .copy (.t 8), none, 90128, []⟩,
                 ⟨(some 58), .iaddr 1 (.t 56) (.t 57), none, 90136, [1, 2]⟩,
                 ⟨(some 59), .load false 1 (.t 58), none, 90144, [3, 1, 2]⟩,
                 ⟨(some 60), .call (.c (.fn 21 [])) [(.t 55), (.t 59)], none, 90152, [0, 4, 3, 1, 2]⟩,
                 ⟨(some 61), .copy (.t 60), none, 90160, [5, 0, 4, 3, 1, 2]⟩,
                 ⟨(some 62), .load true 2 (.t 2), (some (6, 61, true)), 90168, [6, 5, 0, 4, 3, 1, 2]⟩,
                 ⟨(some 63), .copy (.t 7), (some (6, 61, true)), 90176, [6, 5, 0, 4, 3, 1, 2]⟩,
                 ⟨(some 64), .copy (.t 8), (some (6, 61, true)), 90184, [6, 5, 0, 4, 3, 1, 2]⟩,
                 ⟨(some 65), .iaddr 1 (.t 63) (.t 64), (some (6, 61, true)), 90192, [8, 6, 5, 0, 4, 3, 1, 2, 9]⟩,
                 ⟨(some 66), .load false 1 (.t 65), (some (6, 61, true)), 90200, [10, 8, 6, 5, 0, 4, 3, 1, 2, 9]⟩,
                 ⟨(some 67), .call (.c (.fn 21 [])) [(.t 62), (.t 66)], (some (6, 61, true)), 90208, [7, 6, 5, 0, 4, 3, 1, 2, 11, 10, 8, 9]⟩,
                 ⟨(some 68), .not (.t 67), (some (6, 61, true)), 90216, [12, 7, 6, 5, 0, 4, 3, 1, 2, 11, 10, 8, 9]⟩,
                 ⟨(some 69), .pick (.t 61) (.t 68) (.c (.bool false)), none, 90224, [6, 5, 0, 4, 3, 1, 2, 13, 12, 7, 11, 10, 8, 9]⟩])
               (.cond (.t 69)
                (.seq
                 (.region 12 false [
                   ⟨(some 4), .copy (.c (.bool false)), none, 98304, []⟩])
                 .ret)
                .skip)))
             (.region 10 false [
               ⟨(some 53), .copy (.t 8), none, 81920, []⟩,
               ⟨(some 54), .bin .add (.t 53) (.c (.int .i64 1)), none, 81928, [0]⟩,
               ⟨(some 8), .copy (.t 54), none, 81936, [1, 0]⟩]))))))
        (.seq
         (.region 13 false [
           ⟨(some 70), .load true 2 (.t 2), none, 106496, []⟩,
           ⟨(some 71), .load true 2 (.t 2), none, 106504, []⟩,
           ⟨(some 72), .call (.c (.fn 27 [])) [(.t 70), (.t 71)], none, 106512, [0, 1]⟩,
           ⟨(some 73), .copy (.t 72), none, 106520, [2, 0, 1]⟩,
           ⟨(some 74), .copy (.t 5), (some (3, 73, true)), 106528, [3, 2, 0, 1]⟩,
           ⟨(some 75), .pick (.t 73) (.t 74) (.c (.bool false)), none, 106536, [3, 2, 0, 1, 4]⟩,
           ⟨(some 4), .copy (.t 75), none, 106544, [5, 3, 2, 0, 1, 4]⟩])
         .ret)))))))
theorem vf6 : VF Try.prog 6 = some (76, vc6, [.tmp 4]) := by kernel_rfl
/-- downspout/downspoutlaw02.SpanMoves -/
def vc10 : VCode :=
  (.seq
   (.region 0 false [
     ⟨(some 5), .box (.t 2), none, 0, []⟩,
     ⟨(some 6), .copy (.c (.bool false)), none, 8, []⟩])
   (.seq
    (.region 1 false [
      ⟨(some 16), .call (.c (.fn 11 [])) [], none, 8192, []⟩,
      ⟨(some 7), .copy (.t 16), none, 8200, [0]⟩])
    (.seq
     (.seq
      (.region 2 false [
        ⟨(some 17), .copy (.t 0), none, 16384, []⟩,
        ⟨(some 18), .lenS (.t 17), none, 16392, [0]⟩,
        ⟨(some 19), .bin .gtr (.t 18) (.c (.int .i64 30)), none, 16400, [1, 0]⟩,
        ⟨(some 20), .copy (.t 19), none, 16408, [2, 1, 0]⟩,
        ⟨(some 21), .copy (.t 1), (some (3, 20, false)), 16416, [3, 2, 1, 0]⟩,
        ⟨(some 22), .lenS (.t 21), (some (3, 20, false)), 16424, [4, 3, 2, 1, 0]⟩,
        ⟨(some 23), .bin .gtr (.t 22) (.c (.int .i64 30)), (some (3, 20, false)), 16432, [5, 4, 3, 2, 1, 0]⟩,
        ⟨(some 24), .pick (.t 20) (.c (.bool true)) (.t 23), none, 16440, [3, 2, 1, 0, 6, 5, 4]⟩,
        ⟨(some 25), .copy (.t 24), none, 16448, [7, 3, 2, 1, 0, 6, 5, 4]⟩,
        ⟨(some 26), .iaddrA 2 1 (.t 5) (.c (.int .i64 0)), (some (8, 25, false)), 16456, [8, 7, 3, 2, 1, 0, 6, 5, 4]⟩,
        ⟨(some 27), .load false 1 (.t 26), (some (8, 25, false)), 16464, [9, 8, 7, 3, 2, 1, 0, 6, 5, 4]⟩,
        ⟨(some 28), .lenS (.t 27), (some (8, 25, false)), 16472, [10, 9, 8, 7, 3, 2, 1, 0, 6, 5, 4]⟩,
        ⟨(some 29), .bin .gtr (.t 28) (.c (.int .i64 30)), (some (8, 25, false)), 16480, [11, 10, 9, 8, 7, 3, 2, 1, 0, 6, 5, 4]⟩,
        ⟨(some 30), .pick (.t 25) (.c (.bool true)) (.t 29), none, 16488, [8, 7, 3, 2, 1, 0, 6, 5, 4, 12, 11, 10, 9]⟩,
        ⟨(some 31), .copy (.t 30), none, 16496, [13, 8, 7, 3, 2, 1, 0, 6, 5, 4, 12, 11, 10, 9]⟩,
        ⟨(some 32), .iaddrA 2 1 (.t 5) (.c (.int .i64 1)), (some (14, 31, false)), 16504, [14, 13, 8, 7, 3, 2, 1, 0, 6, 5, 4, 12, 11, 10, 9]⟩,
        ⟨(some 33), .load false 1 (.t 32), (some (14, 31, false)), 16512, [15, 14, 13, 8, 7, 3, 2, 1, 0, 6, 5, 4, 12, 11, 10, 9]⟩,
        ⟨(some 34), .lenS (.t 33), (some (14, 31, false)), 16520, [16, 15, 14, 13, 8, 7, 3, 2, 1, 0, 6, 5, 4, 12, 11, 10, 9]⟩,
        ⟨(some 35), .bin .gtr (.t 34) (.c (.int .i64 30)), (some (14, 31, false)), 16528, [17, 16, 15, 14, 13, 8, 7, 3, 2, 1, 0, 6, 5, 4, 12, 11, 10, 9]⟩,
        ⟨(some 36), .pick (.t 31) (.c (.bool true)) (.t 35), none, 16536, [14, 13, 8, 7, 3, 2, 1, 0, 6, 5, 4, 12, 11, 10, 9, 18, 17, 16, 15]⟩])
      (.cond (.t 36)
       (.seq
        (.region 3 false [
          ⟨(some 37), .copy (.t 7), none, 24576, []⟩,
          ⟨(some 6), .copy (.t 37), none, 24584, [0]⟩])
        .ret)
       .skip))
     (.seq
      (.region 4 false [
        ⟨(some 39), .copy (.t 0), none, 32768, []⟩,
        ⟨(some 40), .iaddrA 2 1 (.t 5) (.c (.int .i64 0)), none, 32776, []⟩,
        ⟨(some 41), .load false 1 (.t 40), none, 32784, [1]⟩,
        ⟨(some 42), .bin .add (.t 39) (.t 41), none, 32792, [0, 2, 1]⟩,
        ⟨(some 43), .copy (.t 0), none, 32800, []⟩,
        ⟨(some 44), .copy (.t 1), none, 32808, []⟩,
        ⟨(some 45), .call (.c (.fn 13 [])) [(.t 42), (.t 43), (.t 44)], none, 32816, [3, 0, 2, 1, 4, 5]⟩,
        ⟨(some 38), .copy (.t 45), none, 32824, [6, 3, 0, 2, 1, 4, 5]⟩,
        ⟨(some 46), .extract (.t 38) 0, none, 32832, [7, 6, 3, 0, 2, 1, 4, 5]⟩,
        ⟨(some 47), .extract (.t 38) 1, none, 32840, [7, 6, 3, 0, 2, 1, 4, 5]⟩,
        ⟨(some 8), .copy (.t 46), none, 32848, [8, 7, 6, 3, 0, 2, 1, 4, 5]⟩,
        ⟨(some 9), .copy (.t 47), none, 32856, [9, 7, 6, 3, 0, 2, 1, 4, 5, 10, 8]⟩])
      (.seq
       (.region 5 false [
         ⟨(some 49), .copy (.t 0), none, 40960, []⟩,
         ⟨(some 50), .iaddrA 2 1 (.t 5) (.c (.int .i64 1)), none, 40968, []⟩,
         ⟨(some 51), .load false 1 (.t 50), none, 40976, [1]⟩,
         ⟨(some 52), .bin .add (.t 49) (.t 51), none, 40984, [0, 2, 1]⟩,
         ⟨(some 53), .copy (.t 0), none, 40992, []⟩,
         ⟨(some 54), .copy (.t 1), none, 41000, []⟩,
         ⟨(some 55), .call (.c (.fn 13 [])) [(.t 52), (.t 53), (.t 54)], none, 41008, [3, 0, 2, 1, 4, 5]⟩,
         ⟨(some 48), .copy (.t 55), none, 41016, [6, 3, 0, 2, 1, 4, 5]⟩,
         ⟨(some 56), .extract (.t 48) 0, none, 41024, [7, 6, 3, 0, 2, 1, 4, 5]⟩,
         ⟨(some 57), .extract (.t 48) 1, none, 41032, [7, 6, 3, 0, 2, 1, 4, 5]⟩,
         ⟨(some 10), .copy (.t 56), none, 41040, [8, 7, 6, 3, 0, 2, 1, 4, 5]⟩,
         ⟨(some 11), .copy (.t 57), none, 41048, [9, 7, 6, 3, 0, 2, 1, 4, 5, 10, 8]⟩])
       (.seq
        (.region 6 false [
          ⟨(some 59), .copy (.t 8), none, 49152, []⟩,
          ⟨(some 60), .copy (.t 1), none, 49160, []⟩,
          ⟨(some 61), .copy (.t 0), none, 49168, []⟩,
          ⟨(some 62), .call (.c (.fn 13 [])) [(.t 59), (.t 60), (.t 61)], none, 49176, [0, 1, 2]⟩,
          ⟨(some 58), .copy (.t 62), none, 49184, [3, 0, 1, 2]⟩,
          ⟨(some 63), .extract (.t 58) 0, none, 49192, [4, 3, 0, 1, 2]⟩,
          ⟨(some 64), .extract (.t 58) 1, none, 49200, [4, 3, 0, 1, 2]⟩,
          ⟨(some 12), .copy (.t 63), none, 49208, [5, 4, 3, 0, 1, 2]⟩,
          ⟨(some 13), .copy (.t 64), none, 49216, [6, 4, 3, 0, 1, 2, 7, 5]⟩])
        (.seq
         (.seq
          (.region 7 false [
            ⟨(some 65), .copy (.t 9), none, 57344, []⟩,
            ⟨(some 66), .not (.t 65), none, 57352, [0]⟩,
            ⟨(some 67), .copy (.t 66), none, 57360, [1, 0]⟩,
            ⟨(some 68), .copy (.t 11), (some (2, 67, false)), 57368, [2, 1, 0]⟩,
            ⟨(some 69), .not (.t 68), (some (2, 67, false)), 57376, [3, 2, 1, 0]⟩,
            ⟨(some 70), .pick (.t 67) (.c (.bool true)) (.t 69), none, 57384, [2, 1, 0, 4, 3]⟩,
            ⟨(some 71), .copy (.t 70), none, 57392, [5, 2, 1, 0, 4, 3]⟩,
            ⟨(some 72), .copy (.t 13), (some (6, 71, false)), 57400, [6, 5, 2, 1, 0, 4, 3]⟩,
            ⟨(some 73), .not (.t 72), (some (6, 71, false)), 57408, [7, 6, 5, 2, 1, 0, 4, 3]⟩,
            ⟨(some 74), .pick (.t 71) (.c (.bool true)) (.t 73), none, 57416, [6, 5, 2, 1, 0, 4, 3, 8, 7]⟩,
            ⟨(some 75), .copy (.t 74), none, 57424, [9, 6, 5, 2, 1, 0, 4, 3, 8, 7]⟩,
            ⟨(some 76), .copy (.t 12), (some (10, 75, false)), 57432, [10, 9, 6, 5, 2, 1, 0, 4, 3, 8, 7]⟩,
            ⟨(some 77), .copy (.t 0), (some (10, 75, false)), 57440, [10, 9, 6, 5, 2, 1, 0, 4, 3, 8, 7]⟩,
            ⟨(some 78), .iaddrA 2 1 (.t 5) (.c (.int .i64 0)), (some (10, 75, false)), 57448, [10, 9, 6, 5, 2, 1, 0, 4, 3, 8, 7]⟩,
            ⟨(some 79), .load false 1 (.t 78), (some (10, 75, false)), 57456, [13, 10, 9, 6, 5, 2, 1, 0, 4, 3, 8, 7]⟩,
            ⟨(some 80), .bin .add (.t 77) (.t 79), (some (10, 75, false)), 57464, [12, 10, 9, 6, 5, 2, 1, 0, 4, 3, 8, 7, 14, 13]⟩,
            ⟨(some 81), .bin .neq (.t 76) (.t 80), (some (10, 75, false)), 57472, [11, 10, 9, 6, 5, 2, 1, 0, 4, 3, 8, 7, 15, 12, 14, 13]⟩,
            ⟨(some 82), .pick (.t 75) (.c (.bool true)) (.t 81), none, 57480, [10, 9, 6, 5, 2, 1, 0, 4, 3, 8, 7, 16, 11, 15, 12, 14, 13]⟩,
            ⟨(some 83), .copy (.t 82), none, 57488, [17, 10, 9, 6, 5, 2, 1, 0, 4, 3, 8, 7, 16, 11, 15, 12, 14, 13]⟩,
            ⟨(some 84), .copy (.t 8), (some (18, 83, false)), 57496, [18, 17, 10, 9, 6, 5, 2, 1, 0, 4, 3, 8, 7, 16, 11, 15, 12, 14, 13]⟩,
            ⟨(some 85), .copy (.t 10), (some (18, 83, false)), 57504, [18, 17, 10, 9, 6, 5, 2, 1, 0, 4, 3, 8, 7, 16, 11, 15, 12, 14, 13]⟩,
            ⟨(some 86), .bin .lss (.t 84) (.t 85), (some (18, 83, false)), 57512, [19, 18, 17, 10, 9, 6, 5, 2, 1, 0, 4, 3, 8, 7, 16, 11, 15, 12, 14, 13, 20]⟩,
            ⟨(some 87), .iaddrA 2 1 (.t 5) (.c (.int .i64 0)), (some (18, 83, false)), 57520, [18, 17, 10, 9, 6, 5, 2, 1, 0, 4, 3, 8, 7, 16, 11, 15, 12, 14, 13]⟩,
            ⟨(some 88), .load false 1 (.t 87), (some (18, 83, false)), 57528, [22, 18, 17, 10, 9, 6, 5, 2, 1, 0, 4, 3, 8, 7, 16, 11, 15, 12, 14, 13]⟩,
            ⟨(some 89), .iaddrA 2 1 (.t 5) (.c (.int .i64 1)), (some (18, 83, false)), 57536, [18, 17, 10, 9, 6, 5, 2, 1, 0, 4, 3, 8, 7, 16, 11, 15, 12, 14, 13]⟩,
            ⟨(some 90), .load false 1 (.t 89), (some (18, 83, false)), 57544, [24, 18, 17, 10, 9, 6, 5, 2, 1, 0, 4, 3, 8, 7, 16, 11, 15, 12, 14, 13]⟩,
            ⟨(some 91), .bin .lss (.t 88) (.t 90), (some (18, 83, false)), 57552, [23, 22, 18, 17, 10, 9, 6, 5, 2, 1, 0, 4, 3, 8, 7, 16, 11, 15, 12, 14, 13, 25, 24]⟩,
            ⟨(some 92), .eqb true (.t 86) (.t 91), (some (18, 83, false)), 57560, [21, 19, 18, 17, 10, 9, 6, 5, 2, 1, 0, 4, 3, 8, 7, 16, 11, 15, 12, 14, 13, 20, 26, 23, 22, 25, 24]⟩,
            ⟨(some 93), .pick (.t 83) (.c (.bool true)) (.t 92), none, 57568, [18, 17, 10, 9, 6, 5, 2, 1, 0, 4, 3, 8, 7, 16, 11, 15, 12, 14, 13, 27, 21, 19, 20, 26, 23, 22, 25, 24]⟩,
            ⟨(some 94), .copy (.t 93), none, 57576, [28, 18, 17, 10, 9, 6, 5, 2, 1, 0, 4, 3, 8, 7, 16, 11, 15, 12, 14, 13, 27, 21, 19, 20, 26, 23, 22, 25, 24]⟩,
            ⟨(some 95), .copy (.t 8), (some (29, 94, false)), 57584, [29, 28, 18, 17, 10, 9, 6, 5, 2, 1, 0, 4, 3, 8, 7, 16, 11, 15, 12, 14, 13, 27, 21, 19, 20, 26, 23, 22, 25, 24]⟩,
            ⟨(some 96), .copy (.t 1), (some (29, 94, false)), 57592, [29, 28, 18, 17, 10, 9, 6, 5, 2, 1, 0, 4, 3, 8, 7, 16, 11, 15, 12, 14, 13, 27, 21, 19, 20, 26, 23, 22, 25, 24]⟩,
            ⟨(some 97), .iaddrA 2 1 (.t 5) (.c (.int .i64 0)), (some (29, 94, false)), 57600, [29, 28, 18, 17, 10, 9, 6, 5, 2, 1, 0, 4, 3, 8, 7, 16, 11, 15, 12, 14, 13, 27, 21, 19, 20, 26, 23, 22, 25, 24]⟩,
            ⟨(some 98), .load false 1 (.t 97), (some (29, 94, false)), 57608, [32, 29, 28, 18, 17, 10, 9, 6, 5, 2, 1, 0, 4, 3, 8, 7, 16, 11, 15, 12, 14, 13, 27, 21, 19, 20, 26, 23, 22, 25, 24]⟩,
            ⟨(some 99), .bin .add (.t 96) (.t 98), (some (29, 94, false)), 57616, [31, 29, 28, 18, 17, 10, 9, 6, 5, 2, 1, 0, 4, 3, 8, 7, 16, 11, 15, 12, 14, 13, 27, 21, 19, 20, 26, 23, 22, 25, 24, 33, 32]⟩,
            ⟨(some 100), .bin .neq (.t 95) (.t 99), (some (29, 94, false)), 57624, [30, 29, 28, 18, 17, 10, 9, 6, 5, 2, 1, 0, 4, 3, 8, 7, 16, 11, 15, 12, 14, 13, 27, 21, 19, 20, 26, 23, 22, 25, 24, 34, 31, 33, 32]⟩,
            ⟨(some 101), .pick (.t 94) (.c (.bool true)) (.t 100), none, 57632, [29, 28, 18, 17, 10, 9, 6, 5, 2, 1, 0, 4, 3, 8, 7, 16, 11, 15, 12, 14, 13, 27, 21, 19, 20, 26, 23, 22, 25, 24, 35, 30, 34, 31, 33, 32]⟩,
            ⟨(some 102), .copy (.t 101), none, 57640, [36, 29, 28, 18, 17, 10, 9, 6, 5, 2, 1, 0, 4, 3, 8, 7, 16, 11, 15, 12, 14, 13, 27, 21, 19, 20, 26, 23, 22, 25, 24, 35, 30, 34, 31, 33, 32]⟩,
            ⟨(some 103), .copy (.t 1), (some (37, 102, false)), 57648, [37, 36, 29, 28, 18, 17, 10, 9, 6, 5, 2, 1, 0, 4, 3, 8, 7, 16, 11, 15, 12, 14, 13, 27, 21, 19, 20, 26, 23, 22, 25, 24, 35, 30, 34, 31, 33, 32]⟩,
            ⟨(some 104), .call (.c (.fn 15 [])) [(.t 103)], (some (37, 102, false)), 57656, [38, 37, 36, 29, 28, 18, 17, 10, 9, 6, 5, 2, 1, 0, 4, 3, 8, 7, 16, 11, 15, 12, 14, 13, 27, 21, 19, 20, 26, 23, 22, 25, 24, 35, 30, 34, 31, 33, 32]⟩,
            ⟨(some 105), .copy (.t 8), (some (37, 102, false)), 57664, [37, 36, 29, 28, 18, 17, 10, 9, 6, 5, 2, 1, 0, 4, 3, 8, 7, 16, 11, 15, 12, 14, 13, 27, 21, 19, 20, 26, 23, 22, 25, 24, 35, 30, 34, 31, 33, 32]⟩,
            ⟨(some 106), .call (.c (.fn 21 [])) [(.t 104), (.t 105)], (some (37, 102, false)), 57672, [39, 38, 37, 36, 29, 28, 18, 17, 10, 9, 6, 5, 2, 1, 0, 4, 3, 8, 7, 16, 11, 15, 12, 14, 13, 27, 21, 19, 20, 26, 23, 22, 25, 24, 35, 30, 34, 31, 33, 32, 40]⟩,
            ⟨(some 107), .not (.t 106), (some (37, 102, false)), 57680, [41, 39, 38, 37, 36, 29, 28, 18, 17, 10, 9, 6, 5, 2, 1, 0, 4, 3, 8, 7, 16, 11, 15, 12, 14, 13, 27, 21, 19, 20, 26, 23, 22, 25, 24, 35, 30, 34, 31, 33, 32, 40]⟩,
            ⟨(some 108), .pick (.t 102) (.c (.bool true)) (.t 107), none, 57688, [37, 36, 29, 28, 18, 17, 10, 9, 6, 5, 2, 1, 0, 4, 3, 8, 7, 16, 11, 15, 12, 14, 13, 27, 21, 19, 20, 26, 23, 22, 25, 24, 35, 30, 34, 31, 33, 32, 42, 41, 39, 38, 40]⟩])
          (.cond (.t 108)
           (.seq
            (.region 8 false [
              ⟨(some 6), .copy (.c (.bool false)), none, 65536, []⟩])
            .ret)
           .skip))
         (.seq
          (.region 9 false [
            ⟨(some 110), .iaddrA 2 1 (.t 5) (.c (.int .i64 0)), none, 73728, []⟩,
            ⟨(some 111), .load false 1 (.t 110), none, 73736, [0]⟩,
            ⟨(some 112), .copy (.t 0), none, 73744, []⟩,
            ⟨(some 113), .copy (.t 1), none, 73752, []⟩,
            ⟨(some 114), .call (.c (.fn 13 [])) [(.t 111), (.t 112), (.t 113)], none, 73760, [1, 0, 2, 3]⟩,
            ⟨(some 109), .copy (.t 114), none, 73768, [4, 1, 0, 2, 3]⟩,
            ⟨(some 115), .extract (.t 109) 0, none, 73776, [5, 4, 1, 0, 2, 3]⟩,
            ⟨(some 116), .extract (.t 109) 1, none, 73784, [5, 4, 1, 0, 2, 3]⟩,
            ⟨(some 14), .copy (.t 115), none, 73792, [6, 5, 4, 1, 0, 2, 3]⟩,
            ⟨(some 15), .copy (.t 116), none, 73800, [7, 5, 4, 1, 0, 2, 3, 8, 6]⟩])
          (.seq
           (.region 10 true [
             ⟨(some 117), .copy (.t 15), none, 81920, []⟩,
             ⟨(some 118), .copy (.t 0), none, 81928, []⟩,
             ⟨(some 119), .call (.c (.fn 15 [])) [(.t 118)], none, 81936, [1]⟩,
             ⟨(some 120), .iaddrA 2 1 (.t 5) (.c (.int .i64 0)), none, 81944, []⟩,
             ⟨(some 121), .load false 1 (.t 120), none, 81952, [3]⟩,
             ⟨(some 122), .call (.c (.fn 21 [])) [(.t 119), (.t 121)], none, 81960, [2, 1, 4, 3]⟩,
             ⟨(some 123), .eqb false (.t 117) (.t 122), none, 81968, [0, 5, 2, 1, 4, 3]⟩,
             ⟨(some 124), .copy (.t 123), none, 81976, [6, 0, 5, 2, 1, 4, 3]⟩,
             ⟨(some 125), .copy (.t 15), (some (7, 124, true)), 81984, [7, 6, 0, 5, 2, 1, 4, 3]⟩,
             ⟨(some 126), .copy (.t 125), (some (7, 124, true)), 81992, [8, 7, 6, 0, 5, 2, 1, 4, 3]⟩,
             ⟨(some 127), .copy (.t 14), (some (9, 126, false)), 82000, [9, 8, 7, 6, 0, 5, 2, 1, 4, 3]⟩,
             ⟨(some 128), .bin .eql (.t 127) (.c (.str [])), (some (9, 126, false)), 82008, [10, 9, 8, 7, 6, 0, 5, 2, 1, 4, 3]⟩,
             ⟨(some 129), .pick (.t 126) (.c (.bool true)) (.t 128), (some (7, 124, true)), 82016, [9, 8, 7, 6, 0, 5, 2, 1, 4, 3, 11, 10]⟩,
             ⟨(some 130), .pick (.t 124) (.t 129) (.c (.bool false)), none, 82024, [7, 6, 0, 5, 2, 1, 4, 3, 12, 9, 8, 11, 10]⟩,
             ⟨(some 131), .copy (.t 130), none, 82032, [13, 7, 6, 0, 5, 2, 1, 4, 3, 12, 9, 8, 11, 10]⟩,
             ⟨(some 132), .copy (.t 7), (some (14, 131, true)), 82040, [14, 13, 7, 6, 0, 5, 2, 1, 4, 3, 12, 9, 8, 11, 10]⟩,
             ⟨(some 133), .pick (.t 131) (.t 132) (.c (.bool false)), none, 82048, [14, 13, 7, 6, 0, 5, 2, 1, 4, 3, 12, 9, 8, 11, 10, 15]⟩,
             ⟨(some 6), .copy (.t 133), none, 82056, [16, 14, 13, 7, 6, 0, 5, 2, 1, 4, 3, 12, 9, 8, 11, 10, 15]⟩])
           .ret)))))))))
theorem vf10 : VF Try.prog 10 = some (134, vc10, [.tmp 6]) := by kernel_rfl
/-! The laws Meets, Covers, Prefixes, Moves -/
theorem short2 {a b : SpanL} (h : shortL [a, b] 2 = true) : a.lo.length ≤ 30 ∧ a.hi.length ≤ 30 ∧ b.lo.length ≤ 30 ∧ b.hi.length ≤ 30 := by
  simp [shortL] at h
  omega
theorem max_len {a b : Str} {n : Nat} (ha : a.length ≤ n) (hb : b.length ≤ n) : (maxL a b).length ≤ n := by
  unfold maxL; split <;> assumption
theorem least_len {a b : Str} {n : Nat} (ha : a.length ≤ n) (hb : b.length ≤ n) : (leastL a b).length ≤ n := by
  unfold leastL; split <;> assumption
theorem meet_len {a b : SpanL} {n : Nat} (h1 : a.lo.length ≤ n) (h2 : a.hi.length ≤ n) (h3 : b.lo.length ≤ n) (h4 : b.hi.length ≤ n) (hn : 1 ≤ n) : (meetL a b).lo.length ≤ n ∧ (meetL a b).hi.length ≤ n := by
  unfold meetL
  split
  · exact ⟨hn, hn⟩
  · exact ⟨max_len h1 h3, least_len h2 h4⟩
theorem covers_has {a b : SpanL} (h : coversL a b = true) {k : Str} (hk : hasL b k = true) : hasL a k = true := by
  rw [coversL, Bool.or_eq_true, Bool.and_eq_true] at h
  rcases h with h | ⟨h1, h2⟩
  · rw [not_has_of_empty h] at hk; cases hk
  · have hk' := has_iff.1 hk
    refine has_iff.2 ⟨ble_trans (has_iff.1 h1).1 hk'.1, ?_⟩
    by_cases ha : a.hi = []
    · exact .inl ha
    · right
      have hn : ¬ elt a.hi b.hi := fun h => by have := cmpEnd_lt.2 h; have := of_decide_eq_true h2; omega
      rcases hk'.2 with h3 | h3
      · exact absurd ⟨ha, .inl h3⟩ hn
      · rcases blt_tri a.hi b.hi with h | h | h
        · exact absurd ⟨ha, .inr h⟩ hn
        · rw [h]; exact h3
        · exact blt_trans h3 h
theorem covers_not {a b : SpanL} (h : coversL a b = false) (hlo : hasL a b.lo = true) : a.hi ≠ [] ∧ hasL b a.hi = true := by
  rw [coversL, hlo, Bool.true_and, Bool.or_eq_false_iff] at h
  have hlt : elt a.hi b.hi := cmpEnd_lt.1 (by have := of_decide_eq_false h.2; omega)
  refine ⟨hlt.1, has_iff.2 ⟨?_, hlt.2⟩⟩
  rcases (has_iff.1 hlo).2 with h3 | h3
  · exact absurd h3 hlt.1
  · exact ble_iff.2 (.inl h3)
theorem covers_self (a : SpanL) : coversL a a = true := by
  rw [coversL]
  cases h : emptyL a with
  | true => rfl
  | false =>
    have : cmpEnd a.hi a.hi = 0 := cmpEnd_eq.2 rfl
    rw [has_lo h, this]; rfl
set_option maxHeartbeats 2000000 in
theorem meets_vc (a b : SpanL) : VC Try.prog 5 [.agg (encS a), .agg (encS b)] [] (.bool true) [] := by
  refine vc_of vf5 ?_ (Nat.le_of_ble_eq_true rfl) (by intro vs h; cases h)
  repeat first | refine o_copy ?_ | refine nl ?_ | refine ct_seq ?_ | refine rg ?_ | refine ct_block ?_ | refine bq ?_ | refine cv0 sanity_vc ?_ | refine cv0 (short_vc (q := .sh false ([a, b].map encS)) (l := [a, b]) Sl.sh (Nat.le_of_ble_eq_true rfl)) ?_ | refine o_loads ?_ | refine o_loadp ?_ | refine o_faddr ?_ | refine o_iaddr ?_ | refine o_iaddrO ?_ | refine o_iaddrR ?_ | refine o_b2sR ?_ | refine o_indexS ?_ | refine o_add ?_ | refine o_sub ?_ | refine o_cat ?_ | refine o_bin ?_ | refine o_lenq ?_ | refine o_len ?_ | refine o_loadsA ?_ | refine o_loadpA ?_ | refine o_box ?_ | refine o_alloc ?_ | refine o_bslice ?_ | refine o_s2b ?_ | refine o_store ?_ | refine o_field ?_ | refine o_not ?_ | refine o_pickt ?_ | refine o_pickf ?_ | refine o_build ?_ | refine o_extract ?_ | refine o_iaddrA ?_ | refine o_eqb ?_ | refine o_eqc ?_ | refine o_nilc ?_ | refine o_isnil ?_ | refine o_fn ?_ | refine o_lenS ?_ | refine o_cstr ?_ | refine o_minmax ?_ | refine skF ?_ | refine skU ?_
  refine cnd (fun h => ?_) (fun h => ct_skip ?_)
  · repeat first | refine o_copy ?_ | refine nl ?_ | refine ct_seq ?_ | refine rg ?_ | refine ct_block ?_ | refine bq ?_ | refine o_loads ?_ | refine o_loadp ?_ | refine o_faddr ?_ | refine o_iaddr ?_ | refine o_iaddrO ?_ | refine o_iaddrR ?_ | refine o_b2sR ?_ | refine o_indexS ?_ | refine o_add ?_ | refine o_sub ?_ | refine o_cat ?_ | refine o_bin ?_ | refine o_lenq ?_ | refine o_len ?_ | refine o_loadsA ?_ | refine o_loadpA ?_ | refine o_box ?_ | refine o_alloc ?_ | refine o_bslice ?_ | refine o_s2b ?_ | refine o_store ?_ | refine o_field ?_ | refine o_not ?_ | refine o_pickt ?_ | refine o_pickf ?_ | refine o_build ?_ | refine o_extract ?_ | refine o_iaddrA ?_ | refine o_eqb ?_ | refine o_eqc ?_ | refine o_nilc ?_ | refine o_isnil ?_ | refine o_fn ?_ | refine o_lenS ?_ | refine o_cstr ?_ | refine o_minmax ?_ | refine skF ?_ | refine skU ?_
    exact ct_ret ⟨.inr rfl, oAny rfl⟩
  · obtain ⟨h1, h2, h3, h4⟩ := short2 (a := a) (b := b) (by simpa using h)
    obtain ⟨h5, h6⟩ := meet_len h1 h2 h3 h4 (by decide)
    have hn := near_vc (q := .sh false ([a, b, meetL a b].map encS)) (l := [a, b, meetL a b]) Sl.sh (by simp) (by intro s hs; simp at hs; rcases hs with rfl | rfl | rfl <;> constructor <;> omega)
    have hkl : (nearL [a, b, meetL a b]).length ≤ 34 := nearL_len _
    generalize nearL [a, b, meetL a b] = ks at hn hkl
    repeat first | refine o_copy ?_ | refine nl ?_ | refine ct_seq ?_ | refine rg ?_ | refine ct_block ?_ | refine bq ?_ | refine cv0 (meet_vc a b) ?_ | refine cv hn ?_ | refine o_loads ?_ | refine o_loadp ?_ | refine o_faddr ?_ | refine o_iaddr ?_ | refine o_iaddrO ?_ | refine o_iaddrR ?_ | refine o_b2sR ?_ | refine o_indexS ?_ | refine o_add ?_ | refine o_sub ?_ | refine o_cat ?_ | refine o_bin ?_ | refine o_lenq ?_ | refine o_len ?_ | refine o_loadsA ?_ | refine o_loadpA ?_ | refine o_box ?_ | refine o_alloc ?_ | refine o_bslice ?_ | refine o_s2b ?_ | refine o_store ?_ | refine o_field ?_ | refine o_not ?_ | refine o_pickt ?_ | refine o_pickf ?_ | refine o_build ?_ | refine o_extract ?_ | refine o_iaddrA ?_ | refine o_eqb ?_ | refine o_eqc ?_ | refine o_nilc ?_ | refine o_isnil ?_ | refine o_fn ?_ | refine o_lenS ?_ | refine o_cstr ?_ | refine o_minmax ?_ | refine skF ?_ | refine skU ?_
    refine ct_loopG (fun (g : Nat) => [(2, .ptr ⟨1, 0⟩ 1 0 0), (3, .ptr ⟨1, 8⟩ 1 0 0), (5, .bool true), (6, .ptr ⟨1, 32792⟩ 1 0 0), (7, ownV ⟨1, 40992⟩ (ks.map encT)), (8, .int .i64 g)])
      (fun g => [(⟨1, 0⟩, ⟨true, false, 2, [encS a]⟩), (⟨1, 8⟩, ⟨true, false, 2, [encS b]⟩), (⟨1, 32792⟩, ⟨true, false, 2, [encS (meetL a b)]⟩), (⟨1, 40992⟩, blkV 1 (ks.map encT))]) (fun g => ks.length - g)
      (fun g => g ≤ ks.length) 0 goes (Nat.zero_le _) ?_
    intro i hi
    (try dsimp only)
    repeat first | refine o_copy ?_ | refine nl ?_ | refine ct_seq ?_ | refine rg ?_ | refine ct_block ?_ | refine bq ?_ | refine o_loads ?_ | refine o_loadp ?_ | refine o_faddr ?_ | refine o_iaddr ?_ | refine o_iaddrO ?_ | refine o_iaddrR ?_ | refine o_b2sR ?_ | refine o_indexS ?_ | refine o_add ?_ | refine o_sub ?_ | refine o_cat ?_ | refine o_bin ?_ | refine o_lenq ?_ | refine o_len ?_ | refine o_loadsA ?_ | refine o_loadpA ?_ | refine o_box ?_ | refine o_alloc ?_ | refine o_bslice ?_ | refine o_s2b ?_ | refine o_store ?_ | refine o_field ?_ | refine o_not ?_ | refine o_pickt ?_ | refine o_pickf ?_ | refine o_build ?_ | refine o_extract ?_ | refine o_iaddrA ?_ | refine o_eqb ?_ | refine o_eqc ?_ | refine o_nilc ?_ | refine o_isnil ?_ | refine o_fn ?_ | refine o_lenS ?_ | refine o_cstr ?_ | refine o_minmax ?_ | refine skF ?_ | refine skU ?_
    refine cnd (fun h => ct_skip ?_) (fun h => ct_exit ?_)
    · have hlt : i < ks.length := by have h' := of_decide_eq_true h; simp only [List.length_map] at h'; omega
      obtain ⟨k, hk⟩ : ∃ x, ks[i]? = some x := ⟨_, List.getElem?_eq_getElem hlt⟩
      have hke := gm (enc := encT) (n := (i : Int)) hk (by omega)
      have hm := meet_has a b k
      repeat first | refine o_copy ?_ | refine nl ?_ | refine ct_seq ?_ | refine rg ?_ | refine ct_block ?_ | refine bq ?_ | refine cv0 (has_vc (meetL a b) k) ?_ | refine cv0 (has_vc a k) ?_ | refine o_iaddrG ?_ | refine o_loads ?_ | refine o_loadp ?_ | refine o_faddr ?_ | refine o_iaddr ?_ | refine o_iaddrO ?_ | refine o_iaddrR ?_ | refine o_b2sR ?_ | refine o_indexS ?_ | refine o_add ?_ | refine o_sub ?_ | refine o_cat ?_ | refine o_bin ?_ | refine o_lenq ?_ | refine o_len ?_ | refine o_loadsA ?_ | refine o_loadpA ?_ | refine o_box ?_ | refine o_alloc ?_ | refine o_bslice ?_ | refine o_s2b ?_ | refine o_store ?_ | refine o_field ?_ | refine o_not ?_ | refine o_pickt ?_ | refine o_pickf ?_ | refine o_build ?_ | refine o_extract ?_ | refine o_iaddrA ?_ | refine o_eqb ?_ | refine o_eqc ?_ | refine o_nilc ?_ | refine o_isnil ?_ | refine o_fn ?_ | refine o_lenS ?_ | refine o_cstr ?_ | refine o_minmax ?_ | refine skF ?_ | refine skU ?_
      refine glook (fun hg => ?_) (fun hg => ?_)
      all_goals
        repeat first | refine o_copy ?_ | refine nl ?_ | refine ct_seq ?_ | refine rg ?_ | refine ct_block ?_ | refine bq ?_ | refine cv0 (has_vc b k) ?_ | refine o_iaddrG ?_ | refine o_loads ?_ | refine o_loadp ?_ | refine o_faddr ?_ | refine o_iaddr ?_ | refine o_iaddrO ?_ | refine o_iaddrR ?_ | refine o_b2sR ?_ | refine o_indexS ?_ | refine o_add ?_ | refine o_sub ?_ | refine o_cat ?_ | refine o_bin ?_ | refine o_lenq ?_ | refine o_len ?_ | refine o_loadsA ?_ | refine o_loadpA ?_ | refine o_box ?_ | refine o_alloc ?_ | refine o_bslice ?_ | refine o_s2b ?_ | refine o_store ?_ | refine o_field ?_ | refine o_not ?_ | refine o_pickt ?_ | refine o_pickf ?_ | refine o_build ?_ | refine o_extract ?_ | refine o_iaddrA ?_ | refine o_eqb ?_ | refine o_eqc ?_ | refine o_nilc ?_ | refine o_isnil ?_ | refine o_fn ?_ | refine o_lenS ?_ | refine o_cstr ?_ | refine o_minmax ?_ | refine skF ?_ | refine skU ?_
        refine cndf (ct_skip ?_) rfl (by simp [hm, hg])
        repeat first | refine o_copy ?_ | refine nl ?_ | refine ct_seq ?_ | refine rg ?_ | refine ct_block ?_ | refine bq ?_ | refine o_loads ?_ | refine o_loadp ?_ | refine o_faddr ?_ | refine o_iaddr ?_ | refine o_iaddrO ?_ | refine o_iaddrR ?_ | refine o_b2sR ?_ | refine o_indexS ?_ | refine o_add ?_ | refine o_sub ?_ | refine o_cat ?_ | refine o_bin ?_ | refine o_lenq ?_ | refine o_len ?_ | refine o_loadsA ?_ | refine o_loadpA ?_ | refine o_box ?_ | refine o_alloc ?_ | refine o_bslice ?_ | refine o_s2b ?_ | refine o_store ?_ | refine o_field ?_ | refine o_not ?_ | refine o_pickt ?_ | refine o_pickf ?_ | refine o_build ?_ | refine o_extract ?_ | refine o_iaddrA ?_ | refine o_eqb ?_ | refine o_eqc ?_ | refine o_nilc ?_ | refine o_isnil ?_ | refine o_fn ?_ | refine o_lenS ?_ | refine o_cstr ?_ | refine o_minmax ?_ | refine skF ?_ | refine skU ?_
        exact agn (i + 1) (by omega) goes
    · have he : ((meetL a b).lo == (meetL b a).lo && ((meetL a b).hi == (meetL b a).hi && true)) = true := by rw [meet_comm b a]; simp
      cases hem : emptyL (meetL a b) with
      | false =>
        have hn1 : (!emptyL (meetL a b)) = true := by rw [hem]; rfl
        repeat first | refine o_copy ?_ | refine nl ?_ | refine ct_seq ?_ | refine rg ?_ | refine ct_block ?_ | refine bq ?_ | refine cv0 (meet_vc b a) ?_ | refine cv0 (empty_vc (meetL a b)) ?_ | refine cv0 (sp_vc [97] [97]) ?_ | refine o_loads ?_ | refine o_loadp ?_ | refine o_faddr ?_ | refine o_iaddr ?_ | refine o_iaddrO ?_ | refine o_iaddrR ?_ | refine o_b2sR ?_ | refine o_indexS ?_ | refine o_add ?_ | refine o_sub ?_ | refine o_cat ?_ | refine o_bin ?_ | refine o_lenq ?_ | refine o_len ?_ | refine o_loadsA ?_ | refine o_loadpA ?_ | refine o_box ?_ | refine o_alloc ?_ | refine o_bslice ?_ | refine o_s2b ?_ | refine o_store ?_ | refine o_field ?_ | refine o_not ?_ | refine o_pickt ?_ | refine o_pickf ?_ | refine o_build ?_ | refine o_extract ?_ | refine o_iaddrA ?_ | refine o_eqb ?_ | refine o_eqc ?_ | refine o_nilc ?_ | refine o_isnil ?_ | refine o_fn ?_ | refine o_lenS ?_ | refine o_cstr ?_ | refine o_minmax ?_ | refine skF ?_ | refine skU ?_
        exact ct_ret ⟨.inr rfl, oB rfl⟩
      | true =>
        have hn1 : (!emptyL (meetL a b)) = false := by rw [hem]; rfl
        have hs : ((meetL a b).lo == [97] && ((meetL a b).hi == [97] && true)) = true := by rw [meet_empty hem]; rfl
        repeat first | refine o_copy ?_ | refine nl ?_ | refine ct_seq ?_ | refine rg ?_ | refine ct_block ?_ | refine bq ?_ | refine cv0 (meet_vc b a) ?_ | refine cv0 (empty_vc (meetL a b)) ?_ | refine cv0 (sp_vc [97] [97]) ?_ | refine o_loads ?_ | refine o_loadp ?_ | refine o_faddr ?_ | refine o_iaddr ?_ | refine o_iaddrO ?_ | refine o_iaddrR ?_ | refine o_b2sR ?_ | refine o_indexS ?_ | refine o_add ?_ | refine o_sub ?_ | refine o_cat ?_ | refine o_bin ?_ | refine o_lenq ?_ | refine o_len ?_ | refine o_loadsA ?_ | refine o_loadpA ?_ | refine o_box ?_ | refine o_alloc ?_ | refine o_bslice ?_ | refine o_s2b ?_ | refine o_store ?_ | refine o_field ?_ | refine o_not ?_ | refine o_pickt ?_ | refine o_pickf ?_ | refine o_build ?_ | refine o_extract ?_ | refine o_iaddrA ?_ | refine o_eqb ?_ | refine o_eqc ?_ | refine o_nilc ?_ | refine o_isnil ?_ | refine o_fn ?_ | refine o_lenS ?_ | refine o_cstr ?_ | refine o_minmax ?_ | refine skF ?_ | refine skU ?_
        exact ct_ret ⟨.inr rfl, oB rfl⟩
set_option maxHeartbeats 2000000 in
theorem covers_law_vc (a b : SpanL) : VC Try.prog 6 [.agg (encS a), .agg (encS b)] [] (.bool true) [] := by
  refine vc_of vf6 ?_ (Nat.le_of_ble_eq_true rfl) (by intro vs h; cases h)
  repeat first | refine o_copy ?_ | refine nl ?_ | refine ct_seq ?_ | refine rg ?_ | refine ct_block ?_ | refine bq ?_ | refine cv0 sanity_vc ?_ | refine cv0 (short_vc (q := .sh false ([a, b].map encS)) (l := [a, b]) Sl.sh (Nat.le_of_ble_eq_true rfl)) ?_ | refine o_loads ?_ | refine o_loadp ?_ | refine o_faddr ?_ | refine o_iaddr ?_ | refine o_iaddrO ?_ | refine o_iaddrR ?_ | refine o_b2sR ?_ | refine o_indexS ?_ | refine o_add ?_ | refine o_sub ?_ | refine o_cat ?_ | refine o_bin ?_ | refine o_lenq ?_ | refine o_len ?_ | refine o_loadsA ?_ | refine o_loadpA ?_ | refine o_box ?_ | refine o_alloc ?_ | refine o_bslice ?_ | refine o_s2b ?_ | refine o_store ?_ | refine o_field ?_ | refine o_not ?_ | refine o_pickt ?_ | refine o_pickf ?_ | refine o_build ?_ | refine o_extract ?_ | refine o_iaddrA ?_ | refine o_eqb ?_ | refine o_eqc ?_ | refine o_nilc ?_ | refine o_isnil ?_ | refine o_fn ?_ | refine o_lenS ?_ | refine o_cstr ?_ | refine o_minmax ?_ | refine skF ?_ | refine skU ?_
  refine cnd (fun h => ?_) (fun h => ct_skip ?_)
  · repeat first | refine o_copy ?_ | refine nl ?_ | refine ct_seq ?_ | refine rg ?_ | refine ct_block ?_ | refine bq ?_ | refine o_loads ?_ | refine o_loadp ?_ | refine o_faddr ?_ | refine o_iaddr ?_ | refine o_iaddrO ?_ | refine o_iaddrR ?_ | refine o_b2sR ?_ | refine o_indexS ?_ | refine o_add ?_ | refine o_sub ?_ | refine o_cat ?_ | refine o_bin ?_ | refine o_lenq ?_ | refine o_len ?_ | refine o_loadsA ?_ | refine o_loadpA ?_ | refine o_box ?_ | refine o_alloc ?_ | refine o_bslice ?_ | refine o_s2b ?_ | refine o_store ?_ | refine o_field ?_ | refine o_not ?_ | refine o_pickt ?_ | refine o_pickf ?_ | refine o_build ?_ | refine o_extract ?_ | refine o_iaddrA ?_ | refine o_eqb ?_ | refine o_eqc ?_ | refine o_nilc ?_ | refine o_isnil ?_ | refine o_fn ?_ | refine o_lenS ?_ | refine o_cstr ?_ | refine o_minmax ?_ | refine skF ?_ | refine skU ?_
    exact ct_ret ⟨.inr rfl, oAny rfl⟩
  · obtain ⟨h1, h2, h3, h4⟩ := short2 (a := a) (b := b) (by simpa using h)
    repeat first | refine o_copy ?_ | refine nl ?_ | refine ct_seq ?_ | refine rg ?_ | refine ct_block ?_ | refine bq ?_ | refine cv0 (covers_vc a b) ?_ | refine o_loads ?_ | refine o_loadp ?_ | refine o_faddr ?_ | refine o_iaddr ?_ | refine o_iaddrO ?_ | refine o_iaddrR ?_ | refine o_b2sR ?_ | refine o_indexS ?_ | refine o_add ?_ | refine o_sub ?_ | refine o_cat ?_ | refine o_bin ?_ | refine o_lenq ?_ | refine o_len ?_ | refine o_loadsA ?_ | refine o_loadpA ?_ | refine o_box ?_ | refine o_alloc ?_ | refine o_bslice ?_ | refine o_s2b ?_ | refine o_store ?_ | refine o_field ?_ | refine o_not ?_ | refine o_pickt ?_ | refine o_pickf ?_ | refine o_build ?_ | refine o_extract ?_ | refine o_iaddrA ?_ | refine o_eqb ?_ | refine o_eqc ?_ | refine o_nilc ?_ | refine o_isnil ?_ | refine o_fn ?_ | refine o_lenS ?_ | refine o_cstr ?_ | refine o_minmax ?_ | refine skF ?_ | refine skU ?_
    refine cnd (fun h => ?_) (fun h => ct_skip ?_)
    · have hc : coversL a b = false := by simpa using h
      have heb : (!emptyL b) = true := by simp [coversL] at hc; simp [hc.1]
      cases hlo : hasL a b.lo with
      | false =>
        have hlo1 : (!hasL a b.lo) = true := by rw [hlo]; rfl
        repeat first | refine o_copy ?_ | refine nl ?_ | refine ct_seq ?_ | refine rg ?_ | refine ct_block ?_ | refine bq ?_ | refine cv0 (has_vc a b.lo) ?_ | refine cv0 (empty_vc b) ?_ | refine o_loads ?_ | refine o_loadp ?_ | refine o_faddr ?_ | refine o_iaddr ?_ | refine o_iaddrO ?_ | refine o_iaddrR ?_ | refine o_b2sR ?_ | refine o_indexS ?_ | refine o_add ?_ | refine o_sub ?_ | refine o_cat ?_ | refine o_bin ?_ | refine o_lenq ?_ | refine o_len ?_ | refine o_loadsA ?_ | refine o_loadpA ?_ | refine o_box ?_ | refine o_alloc ?_ | refine o_bslice ?_ | refine o_s2b ?_ | refine o_store ?_ | refine o_field ?_ | refine o_not ?_ | refine o_pickt ?_ | refine o_pickf ?_ | refine o_build ?_ | refine o_extract ?_ | refine o_iaddrA ?_ | refine o_eqb ?_ | refine o_eqc ?_ | refine o_nilc ?_ | refine o_isnil ?_ | refine o_fn ?_ | refine o_lenS ?_ | refine o_cstr ?_ | refine o_minmax ?_ | refine skF ?_ | refine skU ?_
        exact ct_ret ⟨.inr rfl, oB rfl⟩
      | true =>
        have hlo1 : (!hasL a b.lo) = false := by rw [hlo]; rfl
        have hout := covers_not hc hlo
        have hah : (a.hi != []) = true := by simpa using hout.1
        have hbh : hasL b a.hi = true := hout.2
        have hbh : decide (a.hi ≠ []) = true := by simpa using hout.1
        repeat first | refine o_copy ?_ | refine nl ?_ | refine ct_seq ?_ | refine rg ?_ | refine ct_block ?_ | refine bq ?_ | refine cv0 (has_vc a b.lo) ?_ | refine cv0 (empty_vc b) ?_ | refine cv0 (has_vc b a.hi) ?_ | refine o_loads ?_ | refine o_loadp ?_ | refine o_faddr ?_ | refine o_iaddr ?_ | refine o_iaddrO ?_ | refine o_iaddrR ?_ | refine o_b2sR ?_ | refine o_indexS ?_ | refine o_add ?_ | refine o_sub ?_ | refine o_cat ?_ | refine o_bin ?_ | refine o_lenq ?_ | refine o_len ?_ | refine o_loadsA ?_ | refine o_loadpA ?_ | refine o_box ?_ | refine o_alloc ?_ | refine o_bslice ?_ | refine o_s2b ?_ | refine o_store ?_ | refine o_field ?_ | refine o_not ?_ | refine o_pickt ?_ | refine o_pickf ?_ | refine o_build ?_ | refine o_extract ?_ | refine o_iaddrA ?_ | refine o_eqb ?_ | refine o_eqc ?_ | refine o_nilc ?_ | refine o_isnil ?_ | refine o_fn ?_ | refine o_lenS ?_ | refine o_cstr ?_ | refine o_minmax ?_ | refine skF ?_ | refine skU ?_
        exact ct_ret ⟨.inr rfl, oB rfl⟩
    · have hc : coversL a b = true := by simpa using h
      have hn := near_vc (q := .sh false ([a, b].map encS)) (l := [a, b]) Sl.sh (by simp) (by intro s hs; simp at hs; rcases hs with rfl | rfl <;> constructor <;> omega)
      have hkl : (nearL [a, b]).length ≤ 24 := nearL_len _
      generalize nearL [a, b] = ks at hn hkl
      repeat first | refine o_copy ?_ | refine nl ?_ | refine ct_seq ?_ | refine rg ?_ | refine ct_block ?_ | refine bq ?_ | refine cv hn ?_ | refine o_loads ?_ | refine o_loadp ?_ | refine o_faddr ?_ | refine o_iaddr ?_ | refine o_iaddrO ?_ | refine o_iaddrR ?_ | refine o_b2sR ?_ | refine o_indexS ?_ | refine o_add ?_ | refine o_sub ?_ | refine o_cat ?_ | refine o_bin ?_ | refine o_lenq ?_ | refine o_len ?_ | refine o_loadsA ?_ | refine o_loadpA ?_ | refine o_box ?_ | refine o_alloc ?_ | refine o_bslice ?_ | refine o_s2b ?_ | refine o_store ?_ | refine o_field ?_ | refine o_not ?_ | refine o_pickt ?_ | refine o_pickf ?_ | refine o_build ?_ | refine o_extract ?_ | refine o_iaddrA ?_ | refine o_eqb ?_ | refine o_eqc ?_ | refine o_nilc ?_ | refine o_isnil ?_ | refine o_fn ?_ | refine o_lenS ?_ | refine o_cstr ?_ | refine o_minmax ?_ | refine skF ?_ | refine skU ?_
      refine ct_loopG (fun (g : Nat) => [(2, .ptr ⟨1, 0⟩ 1 0 0), (3, .ptr ⟨1, 8⟩ 1 0 0), (5, .bool true), (7, ownV ⟨1, 57368⟩ (ks.map encT)), (8, .int .i64 g)])
        (fun g => [(⟨1, 0⟩, ⟨true, false, 2, [encS a]⟩), (⟨1, 8⟩, ⟨true, false, 2, [encS b]⟩), (⟨1, 57368⟩, blkV 1 (ks.map encT))]) (fun g => ks.length - g)
        (fun g => g ≤ ks.length) 0 goes (Nat.zero_le _) ?_
      intro i hi
      (try dsimp only)
      repeat first | refine o_copy ?_ | refine nl ?_ | refine ct_seq ?_ | refine rg ?_ | refine ct_block ?_ | refine bq ?_ | refine o_loads ?_ | refine o_loadp ?_ | refine o_faddr ?_ | refine o_iaddr ?_ | refine o_iaddrO ?_ | refine o_iaddrR ?_ | refine o_b2sR ?_ | refine o_indexS ?_ | refine o_add ?_ | refine o_sub ?_ | refine o_cat ?_ | refine o_bin ?_ | refine o_lenq ?_ | refine o_len ?_ | refine o_loadsA ?_ | refine o_loadpA ?_ | refine o_box ?_ | refine o_alloc ?_ | refine o_bslice ?_ | refine o_s2b ?_ | refine o_store ?_ | refine o_field ?_ | refine o_not ?_ | refine o_pickt ?_ | refine o_pickf ?_ | refine o_build ?_ | refine o_extract ?_ | refine o_iaddrA ?_ | refine o_eqb ?_ | refine o_eqc ?_ | refine o_nilc ?_ | refine o_isnil ?_ | refine o_fn ?_ | refine o_lenS ?_ | refine o_cstr ?_ | refine o_minmax ?_ | refine skF ?_ | refine skU ?_
      refine cnd (fun h => ct_skip ?_) (fun h => ct_exit ?_)
      · have hlt : i < ks.length := by have h' := of_decide_eq_true h; simp only [List.length_map] at h'; omega
        obtain ⟨k, hk⟩ : ∃ x, ks[i]? = some x := ⟨_, List.getElem?_eq_getElem hlt⟩
        have hke := gm (enc := encT) (n := (i : Int)) hk (by omega)
        repeat first | refine o_copy ?_ | refine nl ?_ | refine ct_seq ?_ | refine rg ?_ | refine ct_block ?_ | refine bq ?_ | refine cv0 (has_vc b k) ?_ | refine o_iaddrG ?_ | refine o_loads ?_ | refine o_loadp ?_ | refine o_faddr ?_ | refine o_iaddr ?_ | refine o_iaddrO ?_ | refine o_iaddrR ?_ | refine o_b2sR ?_ | refine o_indexS ?_ | refine o_add ?_ | refine o_sub ?_ | refine o_cat ?_ | refine o_bin ?_ | refine o_lenq ?_ | refine o_len ?_ | refine o_loadsA ?_ | refine o_loadpA ?_ | refine o_box ?_ | refine o_alloc ?_ | refine o_bslice ?_ | refine o_s2b ?_ | refine o_store ?_ | refine o_field ?_ | refine o_not ?_ | refine o_pickt ?_ | refine o_pickf ?_ | refine o_build ?_ | refine o_extract ?_ | refine o_iaddrA ?_ | refine o_eqb ?_ | refine o_eqc ?_ | refine o_nilc ?_ | refine o_isnil ?_ | refine o_fn ?_ | refine o_lenS ?_ | refine o_cstr ?_ | refine o_minmax ?_ | refine skF ?_ | refine skU ?_
        refine glook (fun hg => ?_) (fun hg => ?_)
        · have hm := covers_has hc hg
          repeat first | refine o_copy ?_ | refine nl ?_ | refine ct_seq ?_ | refine rg ?_ | refine ct_block ?_ | refine bq ?_ | refine cv0 (has_vc a k) ?_ | refine o_iaddrG ?_ | refine o_loads ?_ | refine o_loadp ?_ | refine o_faddr ?_ | refine o_iaddr ?_ | refine o_iaddrO ?_ | refine o_iaddrR ?_ | refine o_b2sR ?_ | refine o_indexS ?_ | refine o_add ?_ | refine o_sub ?_ | refine o_cat ?_ | refine o_bin ?_ | refine o_lenq ?_ | refine o_len ?_ | refine o_loadsA ?_ | refine o_loadpA ?_ | refine o_box ?_ | refine o_alloc ?_ | refine o_bslice ?_ | refine o_s2b ?_ | refine o_store ?_ | refine o_field ?_ | refine o_not ?_ | refine o_pickt ?_ | refine o_pickf ?_ | refine o_build ?_ | refine o_extract ?_ | refine o_iaddrA ?_ | refine o_eqb ?_ | refine o_eqc ?_ | refine o_nilc ?_ | refine o_isnil ?_ | refine o_fn ?_ | refine o_lenS ?_ | refine o_cstr ?_ | refine o_minmax ?_ | refine skF ?_ | refine skU ?_
          refine cndf (ct_skip ?_) rfl (by simp [hm])
          repeat first | refine o_copy ?_ | refine nl ?_ | refine ct_seq ?_ | refine rg ?_ | refine ct_block ?_ | refine bq ?_ | refine o_loads ?_ | refine o_loadp ?_ | refine o_faddr ?_ | refine o_iaddr ?_ | refine o_iaddrO ?_ | refine o_iaddrR ?_ | refine o_b2sR ?_ | refine o_indexS ?_ | refine o_add ?_ | refine o_sub ?_ | refine o_cat ?_ | refine o_bin ?_ | refine o_lenq ?_ | refine o_len ?_ | refine o_loadsA ?_ | refine o_loadpA ?_ | refine o_box ?_ | refine o_alloc ?_ | refine o_bslice ?_ | refine o_s2b ?_ | refine o_store ?_ | refine o_field ?_ | refine o_not ?_ | refine o_pickt ?_ | refine o_pickf ?_ | refine o_build ?_ | refine o_extract ?_ | refine o_iaddrA ?_ | refine o_eqb ?_ | refine o_eqc ?_ | refine o_nilc ?_ | refine o_isnil ?_ | refine o_fn ?_ | refine o_lenS ?_ | refine o_cstr ?_ | refine o_minmax ?_ | refine skF ?_ | refine skU ?_
          exact agn (i + 1) (by omega) goes
        · repeat first | refine o_copy ?_ | refine nl ?_ | refine ct_seq ?_ | refine rg ?_ | refine ct_block ?_ | refine bq ?_ | refine cv0 (has_vc a k) ?_ | refine o_iaddrG ?_ | refine o_loads ?_ | refine o_loadp ?_ | refine o_faddr ?_ | refine o_iaddr ?_ | refine o_iaddrO ?_ | refine o_iaddrR ?_ | refine o_b2sR ?_ | refine o_indexS ?_ | refine o_add ?_ | refine o_sub ?_ | refine o_cat ?_ | refine o_bin ?_ | refine o_lenq ?_ | refine o_len ?_ | refine o_loadsA ?_ | refine o_loadpA ?_ | refine o_box ?_ | refine o_alloc ?_ | refine o_bslice ?_ | refine o_s2b ?_ | refine o_store ?_ | refine o_field ?_ | refine o_not ?_ | refine o_pickt ?_ | refine o_pickf ?_ | refine o_build ?_ | refine o_extract ?_ | refine o_iaddrA ?_ | refine o_eqb ?_ | refine o_eqc ?_ | refine o_nilc ?_ | refine o_isnil ?_ | refine o_fn ?_ | refine o_lenS ?_ | refine o_cstr ?_ | refine o_minmax ?_ | refine skF ?_ | refine skU ?_
          refine cndf (ct_skip ?_) rfl (by simp [hg])
          repeat first | refine o_copy ?_ | refine nl ?_ | refine ct_seq ?_ | refine rg ?_ | refine ct_block ?_ | refine bq ?_ | refine o_loads ?_ | refine o_loadp ?_ | refine o_faddr ?_ | refine o_iaddr ?_ | refine o_iaddrO ?_ | refine o_iaddrR ?_ | refine o_b2sR ?_ | refine o_indexS ?_ | refine o_add ?_ | refine o_sub ?_ | refine o_cat ?_ | refine o_bin ?_ | refine o_lenq ?_ | refine o_len ?_ | refine o_loadsA ?_ | refine o_loadpA ?_ | refine o_box ?_ | refine o_alloc ?_ | refine o_bslice ?_ | refine o_s2b ?_ | refine o_store ?_ | refine o_field ?_ | refine o_not ?_ | refine o_pickt ?_ | refine o_pickf ?_ | refine o_build ?_ | refine o_extract ?_ | refine o_iaddrA ?_ | refine o_eqb ?_ | refine o_eqc ?_ | refine o_nilc ?_ | refine o_isnil ?_ | refine o_fn ?_ | refine o_lenS ?_ | refine o_cstr ?_ | refine o_minmax ?_ | refine skF ?_ | refine skU ?_
          exact agn (i + 1) (by omega) goes
      · have hs := covers_self a
        repeat first | refine o_copy ?_ | refine nl ?_ | refine ct_seq ?_ | refine rg ?_ | refine ct_block ?_ | refine bq ?_ | refine cv0 (covers_vc a a) ?_ | refine o_loads ?_ | refine o_loadp ?_ | refine o_faddr ?_ | refine o_iaddr ?_ | refine o_iaddrO ?_ | refine o_iaddrR ?_ | refine o_b2sR ?_ | refine o_indexS ?_ | refine o_add ?_ | refine o_sub ?_ | refine o_cat ?_ | refine o_bin ?_ | refine o_lenq ?_ | refine o_len ?_ | refine o_loadsA ?_ | refine o_loadpA ?_ | refine o_box ?_ | refine o_alloc ?_ | refine o_bslice ?_ | refine o_s2b ?_ | refine o_store ?_ | refine o_field ?_ | refine o_not ?_ | refine o_pickt ?_ | refine o_pickf ?_ | refine o_build ?_ | refine o_extract ?_ | refine o_iaddrA ?_ | refine o_eqb ?_ | refine o_eqc ?_ | refine o_nilc ?_ | refine o_isnil ?_ | refine o_fn ?_ | refine o_lenS ?_ | refine o_cstr ?_ | refine o_minmax ?_ | refine skF ?_ | refine skU ?_
        exact ct_ret ⟨.inr rfl, oB rfl⟩
set_option maxHeartbeats 2000000 in
theorem prefixes_vc (p k : Str) (hpl : p.length ≤ maxLen) (hkl : k.length ≤ maxLen) : VC Try.prog 4 [.str p, .str k] [] (.bool true) [] := by
  refine vc_of vf4 ?_ (Nat.le_of_ble_eq_true rfl) (by intro vs h; cases h)
  unfold maxLen at hpl hkl
  repeat first | refine o_copy ?_ | refine nl ?_ | refine ct_seq ?_ | refine rg ?_ | refine ct_block ?_ | refine bq ?_ | refine cv0 sanity_vc ?_ | refine o_loads ?_ | refine o_loadp ?_ | refine o_faddr ?_ | refine o_iaddr ?_ | refine o_iaddrO ?_ | refine o_iaddrR ?_ | refine o_b2sR ?_ | refine o_indexS ?_ | refine o_add ?_ | refine o_sub ?_ | refine o_cat ?_ | refine o_bin ?_ | refine o_lenq ?_ | refine o_len ?_ | refine o_loadsA ?_ | refine o_loadpA ?_ | refine o_box ?_ | refine o_alloc ?_ | refine o_bslice ?_ | refine o_s2b ?_ | refine o_store ?_ | refine o_field ?_ | refine o_not ?_ | refine o_pickt ?_ | refine o_pickf ?_ | refine o_build ?_ | refine o_extract ?_ | refine o_iaddrA ?_ | refine o_eqb ?_ | refine o_eqc ?_ | refine o_nilc ?_ | refine o_isnil ?_ | refine o_fn ?_ | refine o_lenS ?_ | refine o_cstr ?_ | refine o_minmax ?_ | refine skF ?_ | refine skU ?_
  by_cases hs : p.length ≤ 30 ∧ k.length ≤ 30
  · obtain ⟨h1, h2⟩ := hs
    have g1 : decide ((p.length : Int) > 30) = false := decide_eq_false (by omega)
    have g2 : decide ((k.length : Int) > 30) = false := decide_eq_false (by omega)
    have hu := upL_len p
    have hne := near_vc (q := .sh false ([prefixL p, oneL p].map encS)) (l := [prefixL p, oneL p]) Sl.sh (by simp) (by intro s hs; simp at hs; rcases hs with rfl | rfl <;> simp [prefixL, oneL] <;> omega)
    have hml := fun x => nearL_mem (l := [prefixL p, oneL p]) (n := 31) (by intro s hs; simp at hs; rcases hs with rfl | rfl <;> simp [prefixL, oneL] <;> omega) (k := x)
    have hnl : (nearL [prefixL p, oneL p]).length ≤ 24 := nearL_len _
    generalize nearL [prefixL p, oneL p] = ks at hne hnl hml
    repeat first | refine o_copy ?_ | refine nl ?_ | refine ct_seq ?_ | refine rg ?_ | refine ct_block ?_ | refine bq ?_ | refine o_loads ?_ | refine o_loadp ?_ | refine o_faddr ?_ | refine o_iaddr ?_ | refine o_iaddrO ?_ | refine o_iaddrR ?_ | refine o_b2sR ?_ | refine o_indexS ?_ | refine o_add ?_ | refine o_sub ?_ | refine o_cat ?_ | refine o_bin ?_ | refine o_lenq ?_ | refine o_len ?_ | refine o_loadsA ?_ | refine o_loadpA ?_ | refine o_box ?_ | refine o_alloc ?_ | refine o_bslice ?_ | refine o_s2b ?_ | refine o_store ?_ | refine o_field ?_ | refine o_not ?_ | refine o_pickt ?_ | refine o_pickf ?_ | refine o_build ?_ | refine o_extract ?_ | refine o_iaddrA ?_ | refine o_eqb ?_ | refine o_eqc ?_ | refine o_nilc ?_ | refine o_isnil ?_ | refine o_fn ?_ | refine o_lenS ?_ | refine o_cstr ?_ | refine o_minmax ?_ | refine skF ?_ | refine skU ?_
    refine cndf (ct_skip ?_)
    repeat first | refine o_copy ?_ | refine nl ?_ | refine ct_seq ?_ | refine rg ?_ | refine ct_block ?_ | refine bq ?_ | refine cv0 (prefix_vc p (by omega)) ?_ | refine cv0 (one_vc p (by omega)) ?_ | refine cv hne ?_ | refine o_v (vaps encT ks [k, p ++ k, k ++ p]) ?_ | refine o_loads ?_ | refine o_loadp ?_ | refine o_faddr ?_ | refine o_iaddr ?_ | refine o_iaddrO ?_ | refine o_iaddrR ?_ | refine o_b2sR ?_ | refine o_indexS ?_ | refine o_add ?_ | refine o_sub ?_ | refine o_cat ?_ | refine o_bin ?_ | refine o_lenq ?_ | refine o_len ?_ | refine o_loadsA ?_ | refine o_loadpA ?_ | refine o_box ?_ | refine o_alloc ?_ | refine o_bslice ?_ | refine o_s2b ?_ | refine o_store ?_ | refine o_field ?_ | refine o_not ?_ | refine o_pickt ?_ | refine o_pickf ?_ | refine o_build ?_ | refine o_extract ?_ | refine o_iaddrA ?_ | refine o_eqb ?_ | refine o_eqc ?_ | refine o_nilc ?_ | refine o_isnil ?_ | refine o_fn ?_ | refine o_lenS ?_ | refine o_cstr ?_ | refine o_minmax ?_ | refine skF ?_ | refine skU ?_
    generalize hmk : ks ++ [k, p ++ k, k ++ p] = ms
    have hmm : ∀ x ∈ ms, x.length ≤ 1000000000 := by
      subst hmk
      intro x hx
      simp only [List.mem_append, List.mem_cons, List.not_mem_nil, or_false] at hx
      rcases hx with hx | rfl | rfl | rfl
      · have := hml x hx; omega
      · omega
      · simp only [List.length_append]; omega
      · simp only [List.length_append]; omega
    have hmsl : ms.length ≤ 27 := by subst hmk; simp only [List.length_append, List.length_cons, List.length_nil]; omega
    refine ct_loopG (fun (g : Nat) => [(0, .str p), (1, .str k), (5, .bool true), (6, .ptr ⟨1, 32800⟩ 1 0 0), (7, .ptr ⟨1, 32808⟩ 1 0 0), (8, ownV ⟨1, 40984⟩ (ms.map encT)), (9, .int .i64 g)])
      (fun g => [(⟨1, 32800⟩, ⟨true, false, 2, [encS (prefixL p)]⟩), (⟨1, 32808⟩, ⟨true, false, 2, [encS (oneL p)]⟩), (⟨1, 40984⟩, blkV 1 (ms.map encT))]) (fun g => ms.length - g)
      (fun g => g ≤ ms.length) 0 goes (Nat.zero_le _) ?_
    intro i hi
    (try dsimp only)
    repeat first | refine o_copy ?_ | refine nl ?_ | refine ct_seq ?_ | refine rg ?_ | refine ct_block ?_ | refine bq ?_ | refine o_loads ?_ | refine o_loadp ?_ | refine o_faddr ?_ | refine o_iaddr ?_ | refine o_iaddrO ?_ | refine o_iaddrR ?_ | refine o_b2sR ?_ | refine o_indexS ?_ | refine o_add ?_ | refine o_sub ?_ | refine o_cat ?_ | refine o_bin ?_ | refine o_lenq ?_ | refine o_len ?_ | refine o_loadsA ?_ | refine o_loadpA ?_ | refine o_box ?_ | refine o_alloc ?_ | refine o_bslice ?_ | refine o_s2b ?_ | refine o_store ?_ | refine o_field ?_ | refine o_not ?_ | refine o_pickt ?_ | refine o_pickf ?_ | refine o_build ?_ | refine o_extract ?_ | refine o_iaddrA ?_ | refine o_eqb ?_ | refine o_eqc ?_ | refine o_nilc ?_ | refine o_isnil ?_ | refine o_fn ?_ | refine o_lenS ?_ | refine o_cstr ?_ | refine o_minmax ?_ | refine skF ?_ | refine skU ?_
    refine cnd (fun h => ct_skip ?_) (fun h => ct_exit ?_)
    · have hlt : i < ms.length := by have h' := of_decide_eq_true h; simp only [List.length_map] at h'; omega
      obtain ⟨x, hx⟩ : ∃ x, ms[i]? = some x := ⟨_, List.getElem?_eq_getElem hlt⟩
      have hxe := gm (enc := encT) (n := (i : Int)) hx (by omega)
      have hxl := hmm x (List.mem_of_getElem? hx)
      have e1 : (!(hasL (prefixL p) x == beginsL x p)) = false := by rw [prefix_has]; simp
      have e2 : (!(hasL (oneL p) x == (x == p))) = false := by rw [one_has]; simp
      repeat first | refine o_copy ?_ | refine nl ?_ | refine ct_seq ?_ | refine rg ?_ | refine ct_block ?_ | refine bq ?_ | refine cv0 (has_vc (prefixL p) x) ?_ | refine cv0 (has_vc (oneL p) x) ?_ | refine cv0 (begins_vc x p hxl (by omega)) ?_ | refine o_iaddrG ?_ | refine o_loads ?_ | refine o_loadp ?_ | refine o_faddr ?_ | refine o_iaddr ?_ | refine o_iaddrO ?_ | refine o_iaddrR ?_ | refine o_b2sR ?_ | refine o_indexS ?_ | refine o_add ?_ | refine o_sub ?_ | refine o_cat ?_ | refine o_bin ?_ | refine o_lenq ?_ | refine o_len ?_ | refine o_loadsA ?_ | refine o_loadpA ?_ | refine o_box ?_ | refine o_alloc ?_ | refine o_bslice ?_ | refine o_s2b ?_ | refine o_store ?_ | refine o_field ?_ | refine o_not ?_ | refine o_pickt ?_ | refine o_pickf ?_ | refine o_build ?_ | refine o_extract ?_ | refine o_iaddrA ?_ | refine o_eqb ?_ | refine o_eqc ?_ | refine o_nilc ?_ | refine o_isnil ?_ | refine o_fn ?_ | refine o_lenS ?_ | refine o_cstr ?_ | refine o_minmax ?_ | refine skF ?_ | refine skU ?_
      refine cndf (ct_skip ?_)
      repeat first | refine o_copy ?_ | refine nl ?_ | refine ct_seq ?_ | refine rg ?_ | refine ct_block ?_ | refine bq ?_ | refine o_loads ?_ | refine o_loadp ?_ | refine o_faddr ?_ | refine o_iaddr ?_ | refine o_iaddrO ?_ | refine o_iaddrR ?_ | refine o_b2sR ?_ | refine o_indexS ?_ | refine o_add ?_ | refine o_sub ?_ | refine o_cat ?_ | refine o_bin ?_ | refine o_lenq ?_ | refine o_len ?_ | refine o_loadsA ?_ | refine o_loadpA ?_ | refine o_box ?_ | refine o_alloc ?_ | refine o_bslice ?_ | refine o_s2b ?_ | refine o_store ?_ | refine o_field ?_ | refine o_not ?_ | refine o_pickt ?_ | refine o_pickf ?_ | refine o_build ?_ | refine o_extract ?_ | refine o_iaddrA ?_ | refine o_eqb ?_ | refine o_eqc ?_ | refine o_nilc ?_ | refine o_isnil ?_ | refine o_fn ?_ | refine o_lenS ?_ | refine o_cstr ?_ | refine o_minmax ?_ | refine skF ?_ | refine skU ?_
      exact agn (i + 1) (by omega) goes
    · have n1 : (!emptyL (prefixL p)) = true := by rw [prefix_not_empty]; rfl
      have n2 : (!emptyL (oneL p)) = true := by rw [one_not_empty]; rfl
      repeat first | refine o_copy ?_ | refine nl ?_ | refine ct_seq ?_ | refine rg ?_ | refine ct_block ?_ | refine bq ?_ | refine cv0 (empty_vc (prefixL p)) ?_ | refine cv0 (empty_vc (oneL p)) ?_ | refine o_loads ?_ | refine o_loadp ?_ | refine o_faddr ?_ | refine o_iaddr ?_ | refine o_iaddrO ?_ | refine o_iaddrR ?_ | refine o_b2sR ?_ | refine o_indexS ?_ | refine o_add ?_ | refine o_sub ?_ | refine o_cat ?_ | refine o_bin ?_ | refine o_lenq ?_ | refine o_len ?_ | refine o_loadsA ?_ | refine o_loadpA ?_ | refine o_box ?_ | refine o_alloc ?_ | refine o_bslice ?_ | refine o_s2b ?_ | refine o_store ?_ | refine o_field ?_ | refine o_not ?_ | refine o_pickt ?_ | refine o_pickf ?_ | refine o_build ?_ | refine o_extract ?_ | refine o_iaddrA ?_ | refine o_eqb ?_ | refine o_eqc ?_ | refine o_nilc ?_ | refine o_isnil ?_ | refine o_fn ?_ | refine o_lenS ?_ | refine o_cstr ?_ | refine o_minmax ?_ | refine skF ?_ | refine skU ?_
      exact ct_ret ⟨.inr rfl, oB rfl⟩
  · by_cases h1 : p.length ≤ 30
    · have g1 : decide ((p.length : Int) > 30) = false := decide_eq_false (by omega)
      have g2 : decide ((k.length : Int) > 30) = true := decide_eq_true (by omega)
      repeat first | refine o_copy ?_ | refine nl ?_ | refine ct_seq ?_ | refine rg ?_ | refine ct_block ?_ | refine bq ?_ | refine o_loads ?_ | refine o_loadp ?_ | refine o_faddr ?_ | refine o_iaddr ?_ | refine o_iaddrO ?_ | refine o_iaddrR ?_ | refine o_b2sR ?_ | refine o_indexS ?_ | refine o_add ?_ | refine o_sub ?_ | refine o_cat ?_ | refine o_bin ?_ | refine o_lenq ?_ | refine o_len ?_ | refine o_loadsA ?_ | refine o_loadpA ?_ | refine o_box ?_ | refine o_alloc ?_ | refine o_bslice ?_ | refine o_s2b ?_ | refine o_store ?_ | refine o_field ?_ | refine o_not ?_ | refine o_pickt ?_ | refine o_pickf ?_ | refine o_build ?_ | refine o_extract ?_ | refine o_iaddrA ?_ | refine o_eqb ?_ | refine o_eqc ?_ | refine o_nilc ?_ | refine o_isnil ?_ | refine o_fn ?_ | refine o_lenS ?_ | refine o_cstr ?_ | refine o_minmax ?_ | refine skF ?_ | refine skU ?_
      refine cndt ?_
      repeat first | refine o_copy ?_ | refine nl ?_ | refine ct_seq ?_ | refine rg ?_ | refine ct_block ?_ | refine bq ?_ | refine o_loads ?_ | refine o_loadp ?_ | refine o_faddr ?_ | refine o_iaddr ?_ | refine o_iaddrO ?_ | refine o_iaddrR ?_ | refine o_b2sR ?_ | refine o_indexS ?_ | refine o_add ?_ | refine o_sub ?_ | refine o_cat ?_ | refine o_bin ?_ | refine o_lenq ?_ | refine o_len ?_ | refine o_loadsA ?_ | refine o_loadpA ?_ | refine o_box ?_ | refine o_alloc ?_ | refine o_bslice ?_ | refine o_s2b ?_ | refine o_store ?_ | refine o_field ?_ | refine o_not ?_ | refine o_pickt ?_ | refine o_pickf ?_ | refine o_build ?_ | refine o_extract ?_ | refine o_iaddrA ?_ | refine o_eqb ?_ | refine o_eqc ?_ | refine o_nilc ?_ | refine o_isnil ?_ | refine o_fn ?_ | refine o_lenS ?_ | refine o_cstr ?_ | refine o_minmax ?_ | refine skF ?_ | refine skU ?_
      exact ct_ret ⟨.inr rfl, oB rfl⟩
    · have g1 : decide ((p.length : Int) > 30) = true := decide_eq_true (by omega)
      repeat first | refine o_copy ?_ | refine nl ?_ | refine ct_seq ?_ | refine rg ?_ | refine ct_block ?_ | refine bq ?_ | refine o_loads ?_ | refine o_loadp ?_ | refine o_faddr ?_ | refine o_iaddr ?_ | refine o_iaddrO ?_ | refine o_iaddrR ?_ | refine o_b2sR ?_ | refine o_indexS ?_ | refine o_add ?_ | refine o_sub ?_ | refine o_cat ?_ | refine o_bin ?_ | refine o_lenq ?_ | refine o_len ?_ | refine o_loadsA ?_ | refine o_loadpA ?_ | refine o_box ?_ | refine o_alloc ?_ | refine o_bslice ?_ | refine o_s2b ?_ | refine o_store ?_ | refine o_field ?_ | refine o_not ?_ | refine o_pickt ?_ | refine o_pickf ?_ | refine o_build ?_ | refine o_extract ?_ | refine o_iaddrA ?_ | refine o_eqb ?_ | refine o_eqc ?_ | refine o_nilc ?_ | refine o_isnil ?_ | refine o_fn ?_ | refine o_lenS ?_ | refine o_cstr ?_ | refine o_minmax ?_ | refine skF ?_ | refine skU ?_
      refine cndt ?_
      repeat first | refine o_copy ?_ | refine nl ?_ | refine ct_seq ?_ | refine rg ?_ | refine ct_block ?_ | refine bq ?_ | refine o_loads ?_ | refine o_loadp ?_ | refine o_faddr ?_ | refine o_iaddr ?_ | refine o_iaddrO ?_ | refine o_iaddrR ?_ | refine o_b2sR ?_ | refine o_indexS ?_ | refine o_add ?_ | refine o_sub ?_ | refine o_cat ?_ | refine o_bin ?_ | refine o_lenq ?_ | refine o_len ?_ | refine o_loadsA ?_ | refine o_loadpA ?_ | refine o_box ?_ | refine o_alloc ?_ | refine o_bslice ?_ | refine o_s2b ?_ | refine o_store ?_ | refine o_field ?_ | refine o_not ?_ | refine o_pickt ?_ | refine o_pickf ?_ | refine o_build ?_ | refine o_extract ?_ | refine o_iaddrA ?_ | refine o_eqb ?_ | refine o_eqc ?_ | refine o_nilc ?_ | refine o_isnil ?_ | refine o_fn ?_ | refine o_lenS ?_ | refine o_cstr ?_ | refine o_minmax ?_ | refine skF ?_ | refine skU ?_
      exact ct_ret ⟨.inr rfl, oB rfl⟩
set_option maxHeartbeats 4000000 in
theorem moves_vc (f t x y : Str) (hfl : f.length ≤ maxLen) (htl : t.length ≤ maxLen) (hxl : x.length ≤ maxLen) (hyl : y.length ≤ maxLen) : VC Try.prog 10 [.str f, .str t, .agg [.str x, .str y]] [] (.bool true) [] := by
  refine vc_of vf10 ?_ (Nat.le_of_ble_eq_true rfl) (by intro vs h; cases h)
  unfold maxLen at hfl htl hxl hyl
  by_cases h1 : f.length ≤ 30
  case neg =>
    have g1 : decide ((f.length : Int) > 30) = true := decide_eq_true (by omega)
    repeat first | refine o_copy ?_ | refine nl ?_ | refine ct_seq ?_ | refine rg ?_ | refine ct_block ?_ | refine bq ?_ | refine cv0 sanity_vc ?_ | refine o_loads ?_ | refine o_loadp ?_ | refine o_faddr ?_ | refine o_iaddr ?_ | refine o_iaddrO ?_ | refine o_iaddrR ?_ | refine o_b2sR ?_ | refine o_indexS ?_ | refine o_add ?_ | refine o_sub ?_ | refine o_cat ?_ | refine o_bin ?_ | refine o_lenq ?_ | refine o_len ?_ | refine o_loadsA ?_ | refine o_loadpA ?_ | refine o_box ?_ | refine o_alloc ?_ | refine o_bslice ?_ | refine o_s2b ?_ | refine o_store ?_ | refine o_field ?_ | refine o_not ?_ | refine o_pickt ?_ | refine o_pickf ?_ | refine o_build ?_ | refine o_extract ?_ | refine o_iaddrA ?_ | refine o_eqb ?_ | refine o_eqc ?_ | refine o_nilc ?_ | refine o_isnil ?_ | refine o_fn ?_ | refine o_lenS ?_ | refine o_cstr ?_ | refine o_minmax ?_ | refine skF ?_ | refine skU ?_
    refine cndt ?_
    repeat first | refine o_copy ?_ | refine nl ?_ | refine ct_seq ?_ | refine rg ?_ | refine ct_block ?_ | refine bq ?_ | refine o_loads ?_ | refine o_loadp ?_ | refine o_faddr ?_ | refine o_iaddr ?_ | refine o_iaddrO ?_ | refine o_iaddrR ?_ | refine o_b2sR ?_ | refine o_indexS ?_ | refine o_add ?_ | refine o_sub ?_ | refine o_cat ?_ | refine o_bin ?_ | refine o_lenq ?_ | refine o_len ?_ | refine o_loadsA ?_ | refine o_loadpA ?_ | refine o_box ?_ | refine o_alloc ?_ | refine o_bslice ?_ | refine o_s2b ?_ | refine o_store ?_ | refine o_field ?_ | refine o_not ?_ | refine o_pickt ?_ | refine o_pickf ?_ | refine o_build ?_ | refine o_extract ?_ | refine o_iaddrA ?_ | refine o_eqb ?_ | refine o_eqc ?_ | refine o_nilc ?_ | refine o_isnil ?_ | refine o_fn ?_ | refine o_lenS ?_ | refine o_cstr ?_ | refine o_minmax ?_ | refine skF ?_ | refine skU ?_
    exact ct_ret ⟨.inr rfl, oB rfl⟩
  have g1 : decide ((f.length : Int) > 30) = false := decide_eq_false (by omega)
  by_cases h2 : t.length ≤ 30
  case neg =>
    have g2 : decide ((t.length : Int) > 30) = true := decide_eq_true (by omega)
    repeat first | refine o_copy ?_ | refine nl ?_ | refine ct_seq ?_ | refine rg ?_ | refine ct_block ?_ | refine bq ?_ | refine cv0 sanity_vc ?_ | refine o_loads ?_ | refine o_loadp ?_ | refine o_faddr ?_ | refine o_iaddr ?_ | refine o_iaddrO ?_ | refine o_iaddrR ?_ | refine o_b2sR ?_ | refine o_indexS ?_ | refine o_add ?_ | refine o_sub ?_ | refine o_cat ?_ | refine o_bin ?_ | refine o_lenq ?_ | refine o_len ?_ | refine o_loadsA ?_ | refine o_loadpA ?_ | refine o_box ?_ | refine o_alloc ?_ | refine o_bslice ?_ | refine o_s2b ?_ | refine o_store ?_ | refine o_field ?_ | refine o_not ?_ | refine o_pickt ?_ | refine o_pickf ?_ | refine o_build ?_ | refine o_extract ?_ | refine o_iaddrA ?_ | refine o_eqb ?_ | refine o_eqc ?_ | refine o_nilc ?_ | refine o_isnil ?_ | refine o_fn ?_ | refine o_lenS ?_ | refine o_cstr ?_ | refine o_minmax ?_ | refine skF ?_ | refine skU ?_
    refine cndt ?_
    repeat first | refine o_copy ?_ | refine nl ?_ | refine ct_seq ?_ | refine rg ?_ | refine ct_block ?_ | refine bq ?_ | refine o_loads ?_ | refine o_loadp ?_ | refine o_faddr ?_ | refine o_iaddr ?_ | refine o_iaddrO ?_ | refine o_iaddrR ?_ | refine o_b2sR ?_ | refine o_indexS ?_ | refine o_add ?_ | refine o_sub ?_ | refine o_cat ?_ | refine o_bin ?_ | refine o_lenq ?_ | refine o_len ?_ | refine o_loadsA ?_ | refine o_loadpA ?_ | refine o_box ?_ | refine o_alloc ?_ | refine o_bslice ?_ | refine o_s2b ?_ | refine o_store ?_ | refine o_field ?_ | refine o_not ?_ | refine o_pickt ?_ | refine o_pickf ?_ | refine o_build ?_ | refine o_extract ?_ | refine o_iaddrA ?_ | refine o_eqb ?_ | refine o_eqc ?_ | refine o_nilc ?_ | refine o_isnil ?_ | refine o_fn ?_ | refine o_lenS ?_ | refine o_cstr ?_ | refine o_minmax ?_ | refine skF ?_ | refine skU ?_
    exact ct_ret ⟨.inr rfl, oB rfl⟩
  have g2 : decide ((t.length : Int) > 30) = false := decide_eq_false (by omega)
  by_cases h3 : x.length ≤ 30
  case neg =>
    have g3 : decide ((x.length : Int) > 30) = true := decide_eq_true (by omega)
    repeat first | refine o_copy ?_ | refine nl ?_ | refine ct_seq ?_ | refine rg ?_ | refine ct_block ?_ | refine bq ?_ | refine cv0 sanity_vc ?_ | refine o_loads ?_ | refine o_loadp ?_ | refine o_faddr ?_ | refine o_iaddr ?_ | refine o_iaddrO ?_ | refine o_iaddrR ?_ | refine o_b2sR ?_ | refine o_indexS ?_ | refine o_add ?_ | refine o_sub ?_ | refine o_cat ?_ | refine o_bin ?_ | refine o_lenq ?_ | refine o_len ?_ | refine o_loadsA ?_ | refine o_loadpA ?_ | refine o_box ?_ | refine o_alloc ?_ | refine o_bslice ?_ | refine o_s2b ?_ | refine o_store ?_ | refine o_field ?_ | refine o_not ?_ | refine o_pickt ?_ | refine o_pickf ?_ | refine o_build ?_ | refine o_extract ?_ | refine o_iaddrA ?_ | refine o_eqb ?_ | refine o_eqc ?_ | refine o_nilc ?_ | refine o_isnil ?_ | refine o_fn ?_ | refine o_lenS ?_ | refine o_cstr ?_ | refine o_minmax ?_ | refine skF ?_ | refine skU ?_
    refine cndt ?_
    repeat first | refine o_copy ?_ | refine nl ?_ | refine ct_seq ?_ | refine rg ?_ | refine ct_block ?_ | refine bq ?_ | refine o_loads ?_ | refine o_loadp ?_ | refine o_faddr ?_ | refine o_iaddr ?_ | refine o_iaddrO ?_ | refine o_iaddrR ?_ | refine o_b2sR ?_ | refine o_indexS ?_ | refine o_add ?_ | refine o_sub ?_ | refine o_cat ?_ | refine o_bin ?_ | refine o_lenq ?_ | refine o_len ?_ | refine o_loadsA ?_ | refine o_loadpA ?_ | refine o_box ?_ | refine o_alloc ?_ | refine o_bslice ?_ | refine o_s2b ?_ | refine o_store ?_ | refine o_field ?_ | refine o_not ?_ | refine o_pickt ?_ | refine o_pickf ?_ | refine o_build ?_ | refine o_extract ?_ | refine o_iaddrA ?_ | refine o_eqb ?_ | refine o_eqc ?_ | refine o_nilc ?_ | refine o_isnil ?_ | refine o_fn ?_ | refine o_lenS ?_ | refine o_cstr ?_ | refine o_minmax ?_ | refine skF ?_ | refine skU ?_
    exact ct_ret ⟨.inr rfl, oB rfl⟩
  have g3 : decide ((x.length : Int) > 30) = false := decide_eq_false (by omega)
  by_cases h4 : y.length ≤ 30
  case neg =>
    have g4 : decide ((y.length : Int) > 30) = true := decide_eq_true (by omega)
    repeat first | refine o_copy ?_ | refine nl ?_ | refine ct_seq ?_ | refine rg ?_ | refine ct_block ?_ | refine bq ?_ | refine cv0 sanity_vc ?_ | refine o_loads ?_ | refine o_loadp ?_ | refine o_faddr ?_ | refine o_iaddr ?_ | refine o_iaddrO ?_ | refine o_iaddrR ?_ | refine o_b2sR ?_ | refine o_indexS ?_ | refine o_add ?_ | refine o_sub ?_ | refine o_cat ?_ | refine o_bin ?_ | refine o_lenq ?_ | refine o_len ?_ | refine o_loadsA ?_ | refine o_loadpA ?_ | refine o_box ?_ | refine o_alloc ?_ | refine o_bslice ?_ | refine o_s2b ?_ | refine o_store ?_ | refine o_field ?_ | refine o_not ?_ | refine o_pickt ?_ | refine o_pickf ?_ | refine o_build ?_ | refine o_extract ?_ | refine o_iaddrA ?_ | refine o_eqb ?_ | refine o_eqc ?_ | refine o_nilc ?_ | refine o_isnil ?_ | refine o_fn ?_ | refine o_lenS ?_ | refine o_cstr ?_ | refine o_minmax ?_ | refine skF ?_ | refine skU ?_
    refine cndt ?_
    repeat first | refine o_copy ?_ | refine nl ?_ | refine ct_seq ?_ | refine rg ?_ | refine ct_block ?_ | refine bq ?_ | refine o_loads ?_ | refine o_loadp ?_ | refine o_faddr ?_ | refine o_iaddr ?_ | refine o_iaddrO ?_ | refine o_iaddrR ?_ | refine o_b2sR ?_ | refine o_indexS ?_ | refine o_add ?_ | refine o_sub ?_ | refine o_cat ?_ | refine o_bin ?_ | refine o_lenq ?_ | refine o_len ?_ | refine o_loadsA ?_ | refine o_loadpA ?_ | refine o_box ?_ | refine o_alloc ?_ | refine o_bslice ?_ | refine o_s2b ?_ | refine o_store ?_ | refine o_field ?_ | refine o_not ?_ | refine o_pickt ?_ | refine o_pickf ?_ | refine o_build ?_ | refine o_extract ?_ | refine o_iaddrA ?_ | refine o_eqb ?_ | refine o_eqc ?_ | refine o_nilc ?_ | refine o_isnil ?_ | refine o_fn ?_ | refine o_lenS ?_ | refine o_cstr ?_ | refine o_minmax ?_ | refine skF ?_ | refine skU ?_
    exact ct_ret ⟨.inr rfl, oB rfl⟩
  have g4 : decide ((y.length : Int) > 30) = false := decide_eq_false (by omega)
  have m1 : VC Try.prog 13 [.str (f ++ x), .str f, .str t] [] (.tup [.str (t ++ x), .bool true]) [] := by have := moved_vc (f ++ x) f t (by simp only [List.length_append]; omega) (by omega) (by omega); rwa [moved_app] at this
  have m2 : VC Try.prog 13 [.str (f ++ y), .str f, .str t] [] (.tup [.str (t ++ y), .bool true]) [] := by have := moved_vc (f ++ y) f t (by simp only [List.length_append]; omega) (by omega) (by omega); rwa [moved_app] at this
  have m3 : VC Try.prog 13 [.str (t ++ x), .str t, .str f] [] (.tup [.str (f ++ x), .bool true]) [] := by have := moved_vc (t ++ x) t f (by simp only [List.length_append]; omega) (by omega) (by omega); rwa [moved_app] at this
  have m4 := moved_vc x f t (by omega) (by omega) (by omega)
  have e1 : (!(f ++ x == f ++ x)) = false := by simp
  have e2 : (!(Op.bytesLess (t ++ x) (t ++ y) == Op.bytesLess x y)) = false := by rw [blt_app]; simp
  have e3 : (!(t ++ x == t ++ x)) = false := by simp
  have e4 : (!hasL (prefixL t) (t ++ x)) = false := by rw [prefix_has, begins_iff.2 ⟨x, rfl⟩]; rfl
  have e5 : ((movedL x f t).2 == hasL (prefixL f) x) = true := by
    rw [prefix_has]
    cases hb : beginsL x f <;> simp [movedL, hb]
  repeat first | refine o_copy ?_ | refine nl ?_ | refine ct_seq ?_ | refine rg ?_ | refine ct_block ?_ | refine bq ?_ | refine cv0 sanity_vc ?_ | refine o_loads ?_ | refine o_loadp ?_ | refine o_faddr ?_ | refine o_iaddr ?_ | refine o_iaddrO ?_ | refine o_iaddrR ?_ | refine o_b2sR ?_ | refine o_indexS ?_ | refine o_add ?_ | refine o_sub ?_ | refine o_cat ?_ | refine o_bin ?_ | refine o_lenq ?_ | refine o_len ?_ | refine o_loadsA ?_ | refine o_loadpA ?_ | refine o_box ?_ | refine o_alloc ?_ | refine o_bslice ?_ | refine o_s2b ?_ | refine o_store ?_ | refine o_field ?_ | refine o_not ?_ | refine o_pickt ?_ | refine o_pickf ?_ | refine o_build ?_ | refine o_extract ?_ | refine o_iaddrA ?_ | refine o_eqb ?_ | refine o_eqc ?_ | refine o_nilc ?_ | refine o_isnil ?_ | refine o_fn ?_ | refine o_lenS ?_ | refine o_cstr ?_ | refine o_minmax ?_ | refine skF ?_ | refine skU ?_
  refine cndf (ct_skip ?_)
  repeat first | refine o_copy ?_ | refine nl ?_ | refine ct_seq ?_ | refine rg ?_ | refine ct_block ?_ | refine bq ?_ | refine cv0 m1 ?_ | refine cv0 m2 ?_ | refine cv0 m3 ?_ | refine cv0 (prefix_vc t (by omega)) ?_ | refine cv0 (has_vc (prefixL t) (t ++ x)) ?_ | refine o_loads ?_ | refine o_loadp ?_ | refine o_faddr ?_ | refine o_iaddr ?_ | refine o_iaddrO ?_ | refine o_iaddrR ?_ | refine o_b2sR ?_ | refine o_indexS ?_ | refine o_add ?_ | refine o_sub ?_ | refine o_cat ?_ | refine o_bin ?_ | refine o_lenq ?_ | refine o_len ?_ | refine o_loadsA ?_ | refine o_loadpA ?_ | refine o_box ?_ | refine o_alloc ?_ | refine o_bslice ?_ | refine o_s2b ?_ | refine o_store ?_ | refine o_field ?_ | refine o_not ?_ | refine o_pickt ?_ | refine o_pickf ?_ | refine o_build ?_ | refine o_extract ?_ | refine o_iaddrA ?_ | refine o_eqb ?_ | refine o_eqc ?_ | refine o_nilc ?_ | refine o_isnil ?_ | refine o_fn ?_ | refine o_lenS ?_ | refine o_cstr ?_ | refine o_minmax ?_ | refine skF ?_ | refine skU ?_
  refine cndf (ct_skip ?_)
  cases hmv : (movedL x f t).2 with
  | true =>
    repeat first | refine o_copy ?_ | refine nl ?_ | refine ct_seq ?_ | refine rg ?_ | refine ct_block ?_ | refine bq ?_ | refine cv0 m4 ?_ | refine cv0 (prefix_vc f (by omega)) ?_ | refine cv0 (has_vc (prefixL f) x) ?_ | refine o_loads ?_ | refine o_loadp ?_ | refine o_faddr ?_ | refine o_iaddr ?_ | refine o_iaddrO ?_ | refine o_iaddrR ?_ | refine o_b2sR ?_ | refine o_indexS ?_ | refine o_add ?_ | refine o_sub ?_ | refine o_cat ?_ | refine o_bin ?_ | refine o_lenq ?_ | refine o_len ?_ | refine o_loadsA ?_ | refine o_loadpA ?_ | refine o_box ?_ | refine o_alloc ?_ | refine o_bslice ?_ | refine o_s2b ?_ | refine o_store ?_ | refine o_field ?_ | refine o_not ?_ | refine o_pickt ?_ | refine o_pickf ?_ | refine o_build ?_ | refine o_extract ?_ | refine o_iaddrA ?_ | refine o_eqb ?_ | refine o_eqc ?_ | refine o_nilc ?_ | refine o_isnil ?_ | refine o_fn ?_ | refine o_lenS ?_ | refine o_cstr ?_ | refine o_minmax ?_ | refine skF ?_ | refine skU ?_
    exact ct_ret ⟨.inr rfl, oB rfl⟩
  | false =>
    have e6 : ((movedL x f t).1 == []) = true := by
      cases hb : beginsL x f <;> simp [movedL, hb] at hmv ⊢
    repeat first | refine o_copy ?_ | refine nl ?_ | refine ct_seq ?_ | refine rg ?_ | refine ct_block ?_ | refine bq ?_ | refine cv0 m4 ?_ | refine cv0 (prefix_vc f (by omega)) ?_ | refine cv0 (has_vc (prefixL f) x) ?_ | refine o_loads ?_ | refine o_loadp ?_ | refine o_faddr ?_ | refine o_iaddr ?_ | refine o_iaddrO ?_ | refine o_iaddrR ?_ | refine o_b2sR ?_ | refine o_indexS ?_ | refine o_add ?_ | refine o_sub ?_ | refine o_cat ?_ | refine o_bin ?_ | refine o_lenq ?_ | refine o_len ?_ | refine o_loadsA ?_ | refine o_loadpA ?_ | refine o_box ?_ | refine o_alloc ?_ | refine o_bslice ?_ | refine o_s2b ?_ | refine o_store ?_ | refine o_field ?_ | refine o_not ?_ | refine o_pickt ?_ | refine o_pickf ?_ | refine o_build ?_ | refine o_extract ?_ | refine o_iaddrA ?_ | refine o_eqb ?_ | refine o_eqc ?_ | refine o_nilc ?_ | refine o_isnil ?_ | refine o_fn ?_ | refine o_lenS ?_ | refine o_cstr ?_ | refine o_minmax ?_ | refine skF ?_ | refine skU ?_
    exact ct_ret ⟨.inr rfl, oB rfl⟩
end Go.Proofs
open Go.V Go.Pu
set_option linter.unusedVariables false
namespace Go.Proofs
theorem dec2 {qs : List PV} (hl : qs.length = [CTy.str, .str].length) (hq : ∀ (j : Nat) (c : CTy) (q : PV), [CTy.str, .str][j]? = some c → qs[j]? = some q → InTy c q) : ∃ a b : Str, qs = [.str a, .str b] ∧ a.length ≤ maxLen ∧ b.length ≤ maxLen := by
  obtain ⟨a, b, rfl⟩ := list2 hl
  obtain ⟨x, rfl, hx⟩ := in_str (hq 0 _ _ rfl rfl)
  obtain ⟨y, rfl, hy⟩ := in_str (hq 1 _ _ rfl rfl)
  exact ⟨x, y, rfl, hx, hy⟩
theorem spanPrefixes_in (p : Str) (hp : p.length ≤ maxLen) (k : Str) (hk : k.length ≤ maxLen) : VC Try.prog 4 [.str p, .str k] [] (.bool true) [] := prefixes_vc p k hp hk
theorem spanMeets_in (q1 : List PV) (l1 : q1.length = [CTy.str, .str].length) (i1 : ∀ (j : Nat) (c : CTy) (q : PV), [CTy.str, .str][j]? = some c → q1[j]? = some q → InTy c q) (q2 : List PV) (l2 : q2.length = [CTy.str, .str].length) (i2 : ∀ (j : Nat) (c : CTy) (q : PV), [CTy.str, .str][j]? = some c → q2[j]? = some q → InTy c q) :
    VC Try.prog 5 [.agg q1, .agg q2] [] (.bool true) [] := by
  obtain ⟨a, b, rfl, _⟩ := dec2 l1 i1
  obtain ⟨c, d, rfl, _⟩ := dec2 l2 i2
  exact meets_vc ⟨a, b⟩ ⟨c, d⟩
theorem spanCovers_in (q1 : List PV) (l1 : q1.length = [CTy.str, .str].length) (i1 : ∀ (j : Nat) (c : CTy) (q : PV), [CTy.str, .str][j]? = some c → q1[j]? = some q → InTy c q) (q2 : List PV) (l2 : q2.length = [CTy.str, .str].length) (i2 : ∀ (j : Nat) (c : CTy) (q : PV), [CTy.str, .str][j]? = some c → q2[j]? = some q → InTy c q) :
    VC Try.prog 6 [.agg q1, .agg q2] [] (.bool true) [] := by
  obtain ⟨a, b, rfl, _⟩ := dec2 l1 i1
  obtain ⟨c, d, rfl, _⟩ := dec2 l2 i2
  exact covers_law_vc ⟨a, b⟩ ⟨c, d⟩
theorem spanMoves_in (f : Str) (hf : f.length ≤ maxLen) (t : Str) (ht : t.length ≤ maxLen) (q1 : List PV) (l1 : q1.length = [CTy.str, .str].length) (i1 : ∀ (j : Nat) (c : CTy) (q : PV), [CTy.str, .str][j]? = some c → q1[j]? = some q → InTy c q) : VC Try.prog 10 [.str f, .str t, .agg q1] [] (.bool true) [] := by
  obtain ⟨a, b, rfl, ha, hb⟩ := dec2 l1 i1
  exact moves_vc f t a b hf ht ha hb
end Go.Proofs
