/- Sb -/
import Derived.Test.YtloajdobgadplaaSa
open Go.V Go.Pu
set_option linter.unusedVariables false
set_option linter.unusedSimpArgs false
set_option maxRecDepth 20000
namespace Go.Proofs
/-- downspout/span.Prefix -/
def vc15 : VCode :=
  (.seq
   (.region 0 false [
     ⟨(some 2), .alloc [(.str []), (.str [])], none, 0, []⟩])
   (.seq
    (.region 1 false [
      ⟨(some 4), .copy (.t 0), none, 8192, []⟩,
      ⟨(some 5), .s2b (.t 4), none, 8200, [0]⟩,
      ⟨(some 3), .copy (.t 5), none, 8208, [1, 0]⟩])
    (.seq
     (.block 0
      (.loop
       (.seq
        (.seq
         (.region 2 false [
           ⟨(some 6), .copy (.t 3), none, 16384, []⟩,
           ⟨(some 7), .len (.t 6), none, 16392, [0]⟩,
           ⟨(some 8), .bin .gtr (.t 7) (.c (.int .i64 0)), none, 16400, [1, 0]⟩,
           ⟨(some 9), .copy (.t 8), none, 16408, [2, 1, 0]⟩,
           ⟨(some 10), .copy (.t 3), (some (3, 9, true)), 16416, [3, 2, 1, 0]⟩,
           ⟨(some 11), .copy (.t 3), (some (3, 9, true)), 16424, [3, 2, 1, 0]⟩,
           ⟨(some 12), .len (.t 11), (some (3, 9, true)), 16432, [5, 3, 2, 1, 0]⟩,
           ⟨(some 13), .bin .sub (.t 12) (.c (.int .i64 1)), (some (3, 9, true)), 16440, [6, 5, 3, 2, 1, 0]⟩,
           ⟨(some 14), .iaddr 1 (.t 10) (.t 13), (some (3, 9, true)), 16448, [4, 3, 2, 1, 0, 7, 6, 5]⟩,
           ⟨(some 15), .load false 1 (.t 14), (some (3, 9, true)), 16456, [8, 4, 3, 2, 1, 0, 7, 6, 5]⟩,
           ⟨(some 16), .bin .eql (.t 15) (.c (.int .u8 255)), (some (3, 9, true)), 16464, [9, 8, 4, 3, 2, 1, 0, 7, 6, 5]⟩,
           ⟨(some 17), .pick (.t 9) (.t 16) (.c (.bool false)), none, 16472, [3, 2, 1, 0, 10, 9, 8, 4, 7, 6, 5]⟩])
         (.cond (.t 17)
          .skip
          (.exit 0)))
        (.block 1
         (.region 3 false [
           ⟨(some 18), .copy (.t 3), none, 24576, []⟩,
           ⟨(some 19), .copy (.t 3), none, 24584, []⟩,
           ⟨(some 20), .len (.t 19), none, 24592, [1]⟩,
           ⟨(some 21), .bin .sub (.t 20) (.c (.int .i64 1)), none, 24600, [2, 1]⟩,
           ⟨(some 22), .slsl 1 (.t 18) none (some (.t 21)) none, none, 24608, [0, 3, 2, 1]⟩,
           ⟨(some 3), .copy (.t 22), none, 24616, [4, 0, 3, 2, 1]⟩])))))
     (.seq
      (.seq
       (.region 4 false [
         ⟨(some 23), .copy (.t 3), none, 32768, []⟩,
         ⟨(some 24), .len (.t 23), none, 32776, [0]⟩,
         ⟨(some 25), .bin .gtr (.t 24) (.c (.int .i64 0)), none, 32784, [1, 0]⟩])
       (.cond (.t 25)
        (.region 5 false [
          ⟨(some 26), .copy (.t 3), none, 40960, []⟩,
          ⟨(some 27), .copy (.t 3), none, 40968, []⟩,
          ⟨(some 28), .len (.t 27), none, 40976, [1]⟩,
          ⟨(some 29), .bin .sub (.t 28) (.c (.int .i64 1)), none, 40984, [2, 1]⟩,
          ⟨(some 30), .iaddr 1 (.t 26) (.t 29), none, 40992, [0, 3, 2, 1]⟩,
          ⟨(some 31), .load false 1 (.t 30), none, 41000, [4, 0, 3, 2, 1]⟩,
          ⟨(some 32), .bin .add (.t 31) (.c (.int .u8 1)), none, 41008, [5, 4, 0, 3, 2, 1]⟩,
          ⟨(some 33), .iaddr 1 (.t 26) (.t 29), none, 41016, [0, 3, 2, 1, 4, 5, 6]⟩,
          ⟨none, .store 1 (.t 33) (.t 32), none, 41024, [7, 0, 3, 2, 1, 4, 5, 6]⟩])
        .skip))
      (.seq
       (.region 6 false [
         ⟨(some 34), .copy (.t 0), none, 49152, []⟩,
         ⟨(some 35), .copy (.t 3), none, 49160, []⟩,
         ⟨(some 36), .b2s (.t 35), none, 49168, [1]⟩,
         ⟨(some 37), .build [(.str []), (.str [])] [(0, 1, (.t 34)), (1, 1, (.t 36))], none, 49176, [0, 2, 1]⟩,
         ⟨none, .store 2 (.t 2) (.t 37), none, 49184, [3, 0, 2, 1]⟩])
       .ret)))))
theorem vf15 : VF Try.prog 15 = some (38, vc15, [.cell true 2 2]) := by kernel_rfl
/-- downspout/downspoutref02.Prefix -/
def vc16 : VCode :=
  (.seq
   (.region 0 false [
     ⟨(some 2), .alloc [(.str []), (.str [])], none, 0, []⟩])
   (.seq
    (.region 1 false [
      ⟨(some 4), .copy (.t 0), none, 8192, []⟩,
      ⟨(some 5), .lenS (.t 4), none, 8200, [0]⟩,
      ⟨(some 3), .copy (.t 5), none, 8208, [1, 0]⟩])
    (.seq
     (.block 0
      (.loop
       (.seq
        (.seq
         (.region 2 false [
           ⟨(some 6), .copy (.t 3), none, 16384, []⟩,
           ⟨(some 7), .bin .gtr (.t 6) (.c (.int .i64 0)), none, 16392, [0]⟩,
           ⟨(some 8), .copy (.t 7), none, 16400, [1, 0]⟩,
           ⟨(some 9), .copy (.t 0), (some (2, 8, true)), 16408, [2, 1, 0]⟩,
           ⟨(some 10), .copy (.t 3), (some (2, 8, true)), 16416, [2, 1, 0]⟩,
           ⟨(some 11), .bin .sub (.t 10) (.c (.int .i64 1)), (some (2, 8, true)), 16424, [4, 2, 1, 0]⟩,
           ⟨(some 12), .indexS (.t 9) (.t 11), (some (2, 8, true)), 16432, [3, 2, 1, 0, 5, 4]⟩,
           ⟨(some 13), .bin .eql (.t 12) (.c (.int .u8 255)), (some (2, 8, true)), 16440, [6, 3, 2, 1, 0, 5, 4]⟩,
           ⟨(some 14), .pick (.t 8) (.t 13) (.c (.bool false)), none, 16448, [2, 1, 0, 7, 6, 3, 5, 4]⟩])
         (.cond (.t 14)
          .skip
          (.exit 0)))
        (.block 1
         (.region 3 false [
           ⟨(some 15), .copy (.t 3), none, 24576, []⟩,
           ⟨(some 16), .bin .sub (.t 15) (.c (.int .i64 1)), none, 24584, [0]⟩,
           ⟨(some 3), .copy (.t 16), none, 24592, [1, 0]⟩])))))
     (.seq
      (.seq
       (.region 4 false [
         ⟨(some 17), .copy (.t 3), none, 32768, []⟩,
         ⟨(some 18), .bin .eql (.t 17) (.c (.int .i64 0)), none, 32776, [0]⟩])
       (.cond (.t 18)
        (.seq
         (.region 5 false [
           ⟨(some 19), .copy (.t 0), none, 40960, []⟩,
           ⟨(some 20), .build [(.str []), (.str [])] [(0, 1, (.t 19))], none, 40968, [0]⟩,
           ⟨none, .store 2 (.t 2) (.t 20), none, 40976, [1, 0]⟩])
         .ret)
        .skip))
      (.seq
       (.region 6 true [
         ⟨(some 21), .copy (.t 0), none, 49152, []⟩,
         ⟨(some 22), .copy (.t 0), none, 49160, []⟩,
         ⟨(some 23), .copy (.t 3), none, 49168, []⟩,
         ⟨(some 24), .bin .sub (.t 23) (.c (.int .i64 1)), none, 49176, [2]⟩,
         ⟨(some 25), .slstr (.t 22) none (some (.t 24)), none, 49184, [1, 3, 2]⟩,
         ⟨(some 26), .copy (.t 0), none, 49192, []⟩,
         ⟨(some 27), .copy (.t 3), none, 49200, []⟩,
         ⟨(some 28), .bin .sub (.t 27) (.c (.int .i64 1)), none, 49208, [6]⟩,
         ⟨(some 29), .indexS (.t 26) (.t 28), none, 49216, [5, 7, 6]⟩,
         ⟨(some 30), .bin .add (.t 29) (.c (.int .u8 1)), none, 49224, [8, 5, 7, 6]⟩,
         ⟨(some 31), .bslice 1 [(.int .u8 0)] 1 [(0, (.t 30))], none, 49232, [9, 8, 5, 7, 6]⟩,
         ⟨(some 32), .b2s (.t 31), none, 49240, [10, 9, 8, 5, 7, 6]⟩,
         ⟨(some 33), .bin .add (.t 25) (.t 32), none, 49248, [4, 1, 3, 2, 11, 10, 9, 8, 5, 7, 6]⟩,
         ⟨(some 34), .build [(.str []), (.str [])] [(0, 1, (.t 21)), (1, 1, (.t 33))], none, 49256, [0, 12, 4, 1, 3, 2, 11, 10, 9, 8, 5, 7, 6]⟩,
         ⟨none, .store 2 (.t 2) (.t 34), none, 49264, [13, 0, 12, 4, 1, 3, 2, 11, 10, 9, 8, 5, 7, 6]⟩])
       .ret)))))
theorem vf16 : VF Try.prog 16 = some (35, vc16, [.cell true 2 2]) := by kernel_rfl
/-- downspout/downspoutref02.Short -/
def vc12 : VCode :=
  (.seq
   (.region 0 false [
     ⟨(some 4), .copy (.c (.bool false)), none, 0, []⟩])
   (.seq
    (.seq
     (.region 1 false [
       ⟨(some 5), .copy (.c (.int .i64 0)), none, 8192, []⟩])
     (.block 0
      (.loop
       (.seq
        (.seq
         (.region 2 false [
           ⟨(some 6), .copy (.t 5), none, 16384, []⟩,
           ⟨(some 7), .copy (.t 0), none, 16392, []⟩,
           ⟨(some 8), .len (.t 7), none, 16400, [1]⟩,
           ⟨(some 9), .bin .lss (.t 6) (.t 8), none, 16408, [0, 2, 1]⟩])
         (.cond (.t 9)
          .skip
          (.exit 0)))
        (.seq
         (.block 1
          (.seq
           (.region 4 false [
             ⟨(some 12), .copy (.t 0), none, 32768, []⟩,
             ⟨(some 13), .copy (.t 5), none, 32776, []⟩,
             ⟨(some 14), .iaddr 2 (.t 12) (.t 13), none, 32784, [0, 1]⟩,
             ⟨(some 15), .faddr 0 (.t 14), none, 32792, [2, 0, 1]⟩,
             ⟨(some 16), .load false 1 (.t 15), none, 32800, [3, 2, 0, 1]⟩,
             ⟨(some 17), .lenS (.t 16), none, 32808, [4, 3, 2, 0, 1]⟩,
             ⟨(some 18), .bin .gtr (.t 17) (.c (.int .i64 30)), none, 32816, [5, 4, 3, 2, 0, 1]⟩,
             ⟨(some 19), .copy (.t 18), none, 32824, [6, 5, 4, 3, 2, 0, 1]⟩,
             ⟨(some 20), .copy (.t 0), (some (7, 19, false)), 32832, [7, 6, 5, 4, 3, 2, 0, 1]⟩,
             ⟨(some 21), .copy (.t 5), (some (7, 19, false)), 32840, [7, 6, 5, 4, 3, 2, 0, 1]⟩,
             ⟨(some 22), .iaddr 2 (.t 20) (.t 21), (some (7, 19, false)), 32848, [8, 7, 6, 5, 4, 3, 2, 0, 1, 9]⟩,
             ⟨(some 23), .faddr 1 (.t 22), (some (7, 19, false)), 32856, [10, 8, 7, 6, 5, 4, 3, 2, 0, 1, 9]⟩,
             ⟨(some 24), .load false 1 (.t 23), (some (7, 19, false)), 32864, [11, 10, 8, 7, 6, 5, 4, 3, 2, 0, 1, 9]⟩,
             ⟨(some 25), .lenS (.t 24), (some (7, 19, false)), 32872, [12, 11, 10, 8, 7, 6, 5, 4, 3, 2, 0, 1, 9]⟩,
             ⟨(some 26), .bin .gtr (.t 25) (.c (.int .i64 30)), (some (7, 19, false)), 32880, [13, 12, 11, 10, 8, 7, 6, 5, 4, 3, 2, 0, 1, 9]⟩,
             ⟨(some 27), .pick (.t 19) (.c (.bool true)) (.t 26), none, 32888, [7, 6, 5, 4, 3, 2, 0, 1, 14, 13, 12, 11, 10, 8, 9]⟩])
           (.cond (.t 27)
            (.seq
             (.region 5 false [
               ⟨(some 4), .copy (.c (.bool false)), none, 40960, []⟩])
             .ret)
            .skip)))
         (.region 3 false [
           ⟨(some 10), .copy (.t 5), none, 24576, []⟩,
           ⟨(some 11), .bin .add (.t 10) (.c (.int .i64 1)), none, 24584, [0]⟩,
           ⟨(some 5), .copy (.t 11), none, 24592, [1, 0]⟩]))))))
    (.seq
     (.region 6 false [
       ⟨(some 28), .copy (.t 0), none, 49152, []⟩,
       ⟨(some 29), .len (.t 28), none, 49160, [0]⟩,
       ⟨(some 30), .copy (.t 1), none, 49168, []⟩,
       ⟨(some 31), .bin .leq (.t 29) (.t 30), none, 49176, [1, 0, 2]⟩,
       ⟨(some 4), .copy (.t 31), none, 49184, [3, 1, 0, 2]⟩])
     .ret)))
theorem vf12 : VF Try.prog 12 = some (32, vc12, [.tmp 4]) := by kernel_rfl
/-- downspout/downspoutref02.Near -/
def vc36 : VCode :=
  (.seq
   (.region 0 false [
     ⟨(some 2), .copy (.c .nils), none, 0, []⟩])
   (.seq
    (.region 1 false [
      ⟨(some 8), .bslice 1 [(.str [])] 4 [(0, (.c (.str []))), (1, (.c (.str [0]))), (2, (.c (.str [97]))), (3, (.c (.str [255])))], none, 8192, []⟩,
      ⟨(some 3), .copy (.t 8), none, 8200, [0]⟩])
    (.seq
     (.seq
      (.region 2 false [
        ⟨(some 4), .copy (.c (.int .i64 0)), none, 16384, []⟩])
      (.block 0
       (.loop
        (.seq
         (.seq
          (.region 3 false [
            ⟨(some 9), .copy (.t 4), none, 24576, []⟩,
            ⟨(some 10), .copy (.t 0), none, 24584, []⟩,
            ⟨(some 11), .len (.t 10), none, 24592, [1]⟩,
            ⟨(some 12), .bin .lss (.t 9) (.t 11), none, 24600, [0, 2, 1]⟩])
          (.cond (.t 12)
           .skip
           (.exit 0)))
         (.seq
          (.block 1
           (.seq
            (.region 5 true [
              ⟨(some 15), .copy (.t 0), none, 40960, []⟩,
              ⟨(some 16), .copy (.t 4), none, 40968, []⟩,
              ⟨(some 17), .iaddr 2 (.t 15) (.t 16), none, 40976, [0, 1]⟩,
              ⟨(some 18), .faddr 0 (.t 17), none, 40984, [2, 0, 1]⟩,
              ⟨(some 19), .load false 1 (.t 18), none, 40992, [3, 2, 0, 1]⟩,
              ⟨(some 20), .copy (.t 0), none, 41000, []⟩,
              ⟨(some 21), .copy (.t 4), none, 41008, []⟩,
              ⟨(some 22), .iaddr 2 (.t 20) (.t 21), none, 41016, [5, 6]⟩,
              ⟨(some 23), .faddr 1 (.t 22), none, 41024, [7, 5, 6]⟩,
              ⟨(some 24), .load false 1 (.t 23), none, 41032, [8, 7, 5, 6]⟩,
              ⟨(some 25), .bslice 1 [(.str [])] 2 [(0, (.t 19)), (1, (.t 24))], none, 41040, [4, 3, 2, 0, 1, 9, 8, 7, 5, 6]⟩,
              ⟨(some 5), .copy (.t 25), none, 41048, [10, 4, 3, 2, 0, 1, 9, 8, 7, 5, 6]⟩])
            (.seq
             (.region 6 false [
               ⟨(some 6), .copy (.c (.int .i64 0)), none, 49152, []⟩])
             (.block 2
              (.loop
               (.seq
                (.seq
                 (.region 7 false [
                   ⟨(some 26), .copy (.t 6), none, 57344, []⟩,
                   ⟨(some 27), .bin .lss (.t 26) (.c (.int .i64 2)), none, 57352, [0]⟩])
                 (.cond (.t 27)
                  .skip
                  (.exit 2)))
                (.seq
                 (.block 3
                  (.seq
                   (.region 9 false [
                     ⟨(some 30), .copy (.t 5), none, 73728, []⟩,
                     ⟨(some 31), .copy (.t 6), none, 73736, []⟩,
                     ⟨(some 32), .iaddr 1 (.t 30) (.t 31), none, 73744, [0, 1]⟩,
                     ⟨(some 33), .load false 1 (.t 32), none, 73752, [2, 0, 1]⟩,
                     ⟨(some 7), .copy (.t 33), none, 73760, [3, 2, 0, 1]⟩])
                   (.seq
                    (.region 10 false [
                      ⟨(some 34), .copy (.t 3), none, 81920, []⟩,
                      ⟨(some 35), .copy (.t 7), none, 81928, []⟩,
                      ⟨(some 36), .copy (.t 7), none, 81936, []⟩,
                      ⟨(some 37), .bin .add (.t 36) (.c (.str [0])), none, 81944, [2]⟩,
                      ⟨(some 38), .copy (.t 7), none, 81952, []⟩,
                      ⟨(some 39), .bin .add (.t 38) (.c (.str [255])), none, 81960, [4]⟩,
                      ⟨(some 40), .bslice 1 [(.str [])] 3 [(0, (.t 35)), (1, (.t 37)), (2, (.t 39))], none, 81968, [1, 3, 2, 5, 4]⟩,
                      ⟨(some 41), .append 1 16 [(.str [])] (.t 34) (.t 40), none, 81976, [0, 6, 1, 3, 2, 5, 4]⟩,
                      ⟨(some 3), .copy (.t 41), none, 81984, [7, 0, 6, 1, 3, 2, 5, 4]⟩])
                    (.seq
                     (.region 11 false [
                       ⟨(some 42), .copy (.t 7), none, 90112, []⟩,
                       ⟨(some 43), .lenS (.t 42), none, 90120, [0]⟩,
                       ⟨(some 44), .bin .gtr (.t 43) (.c (.int .i64 0)), none, 90128, [1, 0]⟩])
                     (.cond (.t 44)
                      (.region 12 true [
                        ⟨(some 45), .copy (.t 3), none, 98304, []⟩,
                        ⟨(some 46), .copy (.t 7), none, 98312, []⟩,
                        ⟨(some 47), .copy (.t 7), none, 98320, []⟩,
                        ⟨(some 48), .lenS (.t 47), none, 98328, [2]⟩,
                        ⟨(some 49), .bin .sub (.t 48) (.c (.int .i64 1)), none, 98336, [3, 2]⟩,
                        ⟨(some 50), .slstr (.t 46) none (some (.t 49)), none, 98344, [1, 4, 3, 2]⟩,
                        ⟨(some 51), .copy (.t 7), none, 98352, []⟩,
                        ⟨(some 52), .copy (.t 7), none, 98360, []⟩,
                        ⟨(some 53), .lenS (.t 52), none, 98368, [7]⟩,
                        ⟨(some 54), .bin .sub (.t 53) (.c (.int .i64 1)), none, 98376, [8, 7]⟩,
                        ⟨(some 55), .slstr (.t 51) none (some (.t 54)), none, 98384, [6, 9, 8, 7]⟩,
                        ⟨(some 56), .copy (.t 7), none, 98392, []⟩,
                        ⟨(some 57), .copy (.t 7), none, 98400, []⟩,
                        ⟨(some 58), .lenS (.t 57), none, 98408, [12]⟩,
                        ⟨(some 59), .bin .sub (.t 58) (.c (.int .i64 1)), none, 98416, [13, 12]⟩,
                        ⟨(some 60), .indexS (.t 56) (.t 59), none, 98424, [11, 14, 13, 12]⟩,
                        ⟨(some 61), .bin .sub (.t 60) (.c (.int .u8 1)), none, 98432, [15, 11, 14, 13, 12]⟩,
                        ⟨(some 62), .bslice 1 [(.int .u8 0)] 1 [(0, (.t 61))], none, 98440, [16, 15, 11, 14, 13, 12]⟩,
                        ⟨(some 63), .b2s (.t 62), none, 98448, [17, 16, 15, 11, 14, 13, 12]⟩,
                        ⟨(some 64), .bin .add (.t 55) (.t 63), none, 98456, [10, 6, 9, 8, 7, 18, 17, 16, 15, 11, 14, 13, 12]⟩,
                        ⟨(some 65), .bin .add (.t 64) (.c (.str [255])), none, 98464, [19, 10, 6, 9, 8, 7, 18, 17, 16, 15, 11, 14, 13, 12]⟩,
                        ⟨(some 66), .bslice 1 [(.str [])] 2 [(0, (.t 50)), (1, (.t 65))], none, 98472, [5, 1, 4, 3, 2, 20, 19, 10, 6, 9, 8, 7, 18, 17, 16, 15, 11, 14, 13, 12]⟩,
                        ⟨(some 67), .append 1 16 [(.str [])] (.t 45) (.t 66), none, 98480, [0, 21, 5, 1, 4, 3, 2, 20, 19, 10, 6, 9, 8, 7, 18, 17, 16, 15, 11, 14, 13, 12]⟩,
                        ⟨(some 3), .copy (.t 67), none, 98488, [22, 0, 21, 5, 1, 4, 3, 2, 20, 19, 10, 6, 9, 8, 7, 18, 17, 16, 15, 11, 14, 13, 12]⟩])
                      .skip)))))
                 (.region 8 false [
                   ⟨(some 28), .copy (.t 6), none, 65536, []⟩,
                   ⟨(some 29), .bin .add (.t 28) (.c (.int .i64 1)), none, 65544, [0]⟩,
                   ⟨(some 6), .copy (.t 29), none, 65552, [1, 0]⟩]))))))))
          (.region 4 false [
            ⟨(some 13), .copy (.t 4), none, 32768, []⟩,
            ⟨(some 14), .bin .add (.t 13) (.c (.int .i64 1)), none, 32776, [0]⟩,
            ⟨(some 4), .copy (.t 14), none, 32784, [1, 0]⟩]))))))
     (.seq
      (.region 13 false [
        ⟨(some 68), .copy (.t 3), none, 106496, []⟩,
        ⟨(some 2), .copy (.t 68), none, 106504, [0]⟩])
      .ret))))
theorem vf36 : VF Try.prog 36 = some (69, vc36, [.tmp 2]) := by kernel_rfl
/-- downspout/downspoutref02.In -/
def vc38 : VCode :=
  (.seq
   (.region 0 false [
     ⟨(some 4), .copy (.c (.bool false)), none, 0, []⟩])
   (.seq
    (.seq
     (.region 1 false [
       ⟨(some 5), .copy (.c (.int .i64 0)), none, 8192, []⟩])
     (.block 0
      (.loop
       (.seq
        (.seq
         (.region 2 false [
           ⟨(some 6), .copy (.t 5), none, 16384, []⟩,
           ⟨(some 7), .copy (.t 0), none, 16392, []⟩,
           ⟨(some 8), .len (.t 7), none, 16400, [1]⟩,
           ⟨(some 9), .bin .lss (.t 6) (.t 8), none, 16408, [0, 2, 1]⟩])
         (.cond (.t 9)
          .skip
          (.exit 0)))
        (.seq
         (.block 1
          (.seq
           (.region 4 false [
             ⟨(some 12), .copy (.t 0), none, 32768, []⟩,
             ⟨(some 13), .copy (.t 5), none, 32776, []⟩,
             ⟨(some 14), .iaddr 2 (.t 12) (.t 13), none, 32784, [0, 1]⟩,
             ⟨(some 15), .load true 2 (.t 14), none, 32792, [2, 0, 1]⟩,
             ⟨(some 16), .copy (.t 1), none, 32800, []⟩,
             ⟨(some 17), .call (.c (.fn 22 [])) [(.t 15), (.t 16)], none, 32808, [3, 2, 0, 1, 4]⟩])
           (.cond (.t 17)
            (.seq
             (.region 5 false [
               ⟨(some 4), .copy (.c (.bool true)), none, 40960, []⟩])
             .ret)
            .skip)))
         (.region 3 false [
           ⟨(some 10), .copy (.t 5), none, 24576, []⟩,
           ⟨(some 11), .bin .add (.t 10) (.c (.int .i64 1)), none, 24584, [0]⟩,
           ⟨(some 5), .copy (.t 11), none, 24592, [1, 0]⟩]))))))
    (.seq
     (.region 6 false [
       ⟨(some 4), .copy (.c (.bool false)), none, 49152, []⟩])
     .ret)))
theorem vf38 : VF Try.prog 38 = some (18, vc38, [.tmp 4]) := by kernel_rfl
theorem set_take {p : Str} {n : Nat} {c : UInt8} (h : n < p.length) : (p.set n c).take (n + 1) = p.take n ++ [c] := by
  rw [List.take_add_one, List.take_set, List.set_eq_of_length_le (by simp; omega)]
  simp [h]
set_option maxHeartbeats 1000000 in
theorem prefix_vc (p : Str) (hp : p.length ≤ 1000000000) : VC Try.prog 15 [.str p] [] (.agg (encS (prefixL p))) [] := by
  refine vc_of vf15 ?_ (Nat.le_of_ble_eq_true rfl) (by intro vs h; cases h)
  repeat first | refine o_copy ?_ | refine nl ?_ | refine ct_seq ?_ | refine rg ?_ | refine ct_block ?_ | refine bq ?_ | refine o_loads ?_ | refine o_loadp ?_ | refine o_faddr ?_ | refine o_iaddr ?_ | refine o_iaddrO ?_ | refine o_iaddrR ?_ | refine o_b2sR ?_ | refine o_indexS ?_ | refine o_add ?_ | refine o_sub ?_ | refine o_cat ?_ | refine o_bin ?_ | refine o_lenq ?_ | refine o_len ?_ | refine o_loadsA ?_ | refine o_loadpA ?_ | refine o_box ?_ | refine o_alloc ?_ | refine o_bslice ?_ | refine o_s2b ?_ | refine o_store ?_ | refine o_field ?_ | refine o_not ?_ | refine o_pickt ?_ | refine o_pickf ?_ | refine o_build ?_ | refine o_extract ?_ | refine o_iaddrA ?_ | refine o_eqb ?_ | refine o_eqc ?_ | refine o_nilc ?_ | refine o_isnil ?_ | refine o_fn ?_ | refine o_lenS ?_ | refine o_cstr ?_ | refine o_minmax ?_ | refine skF ?_ | refine skU ?_
  refine ct_loopG (fun (g : Nat) => [(0, .str p), (2, .ptr ⟨1, 0⟩ 1 0 0), (3, .own ⟨1, 8200⟩ (p.map encB).length 0 g)])
    (fun g => [(⟨1, 0⟩, ⟨true, false, 2, [[.str [], .str []]]⟩), (⟨1, 8200⟩, blkV 1 (p.map encB))]) (fun g => g)
    (fun g => g ≤ p.length ∧ stripN p g = stripN p p.length) p.length (goes (h1 := by refine ⟨rfl, rfl, ?_, trivial⟩; simp; rfl)) ⟨Nat.le_refl _, rfl⟩ ?_
  rintro n ⟨hn, hs⟩
  (try dsimp only)
  have hel : (p.map encB).length = p.length := List.length_map ..
  repeat first | refine o_copy ?_ | refine nl ?_ | refine ct_seq ?_ | refine rg ?_ | refine ct_block ?_ | refine bq ?_ | refine o_loads ?_ | refine o_loadp ?_ | refine o_faddr ?_ | refine o_iaddr ?_ | refine o_iaddrO ?_ | refine o_iaddrR ?_ | refine o_b2sR ?_ | refine o_indexS ?_ | refine o_add ?_ | refine o_sub ?_ | refine o_cat ?_ | refine o_bin ?_ | refine o_lenq ?_ | refine o_len ?_ | refine o_loadsA ?_ | refine o_loadpA ?_ | refine o_box ?_ | refine o_alloc ?_ | refine o_bslice ?_ | refine o_s2b ?_ | refine o_store ?_ | refine o_field ?_ | refine o_not ?_ | refine o_pickt ?_ | refine o_pickf ?_ | refine o_build ?_ | refine o_extract ?_ | refine o_iaddrA ?_ | refine o_eqb ?_ | refine o_eqc ?_ | refine o_nilc ?_ | refine o_isnil ?_ | refine o_fn ?_ | refine o_lenS ?_ | refine o_cstr ?_ | refine o_minmax ?_ | refine skF ?_ | refine skU ?_
  refine glook (fun hg => ?_) (fun hg => ?_)
  · have hpos : 0 < n := by have := of_decide_eq_true hg; omega
    obtain ⟨m, rfl⟩ : ∃ m, n = m + 1 := ⟨n - 1, by omega⟩
    obtain ⟨c, hc⟩ : ∃ c, p[m]? = some c := ⟨_, List.getElem?_eq_getElem (by omega)⟩
    have hce : (blkV 1 (p.map encB)).els[0 + (((m + 1 : Nat) : Int) - 1).toNat]? = some (encB c) := by
      rw [show 0 + (((m + 1 : Nat) : Int) - 1).toNat = m by omega]
      show (p.map encB)[m]? = _
      rw [List.getElem?_map, hc]; rfl
    repeat first | refine o_copy ?_ | refine nl ?_ | refine ct_seq ?_ | refine rg ?_ | refine ct_block ?_ | refine bq ?_ | refine o_iaddrG ?_ | refine o_loads ?_ | refine o_loadp ?_ | refine o_faddr ?_ | refine o_iaddr ?_ | refine o_iaddrO ?_ | refine o_iaddrR ?_ | refine o_b2sR ?_ | refine o_indexS ?_ | refine o_add ?_ | refine o_sub ?_ | refine o_cat ?_ | refine o_bin ?_ | refine o_lenq ?_ | refine o_len ?_ | refine o_loadsA ?_ | refine o_loadpA ?_ | refine o_box ?_ | refine o_alloc ?_ | refine o_bslice ?_ | refine o_s2b ?_ | refine o_store ?_ | refine o_field ?_ | refine o_not ?_ | refine o_pickt ?_ | refine o_pickf ?_ | refine o_build ?_ | refine o_extract ?_ | refine o_iaddrA ?_ | refine o_eqb ?_ | refine o_eqc ?_ | refine o_nilc ?_ | refine o_isnil ?_ | refine o_fn ?_ | refine o_lenS ?_ | refine o_cstr ?_ | refine o_minmax ?_ | refine skF ?_ | refine skU ?_
    refine cnd (fun h => ct_skip ?_) (fun h => ct_exit ?_)
    · have hc255 : p[m]? = some 255 := by
        rw [hc]; congr 1
        have : (c.toNat : Int) = 255 := by simpa using h
        exact UInt8.toNat_inj.1 (by show c.toNat = 255; omega)
      repeat first | refine o_copy ?_ | refine nl ?_ | refine ct_seq ?_ | refine rg ?_ | refine ct_block ?_ | refine bq ?_ | refine o_slslO ?_ | refine o_loads ?_ | refine o_loadp ?_ | refine o_faddr ?_ | refine o_iaddr ?_ | refine o_iaddrO ?_ | refine o_iaddrR ?_ | refine o_b2sR ?_ | refine o_indexS ?_ | refine o_add ?_ | refine o_sub ?_ | refine o_cat ?_ | refine o_bin ?_ | refine o_lenq ?_ | refine o_len ?_ | refine o_loadsA ?_ | refine o_loadpA ?_ | refine o_box ?_ | refine o_alloc ?_ | refine o_bslice ?_ | refine o_s2b ?_ | refine o_store ?_ | refine o_field ?_ | refine o_not ?_ | refine o_pickt ?_ | refine o_pickf ?_ | refine o_build ?_ | refine o_extract ?_ | refine o_iaddrA ?_ | refine o_eqb ?_ | refine o_eqc ?_ | refine o_nilc ?_ | refine o_isnil ?_ | refine o_fn ?_ | refine o_lenS ?_ | refine o_cstr ?_ | refine o_minmax ?_ | refine skF ?_ | refine skU ?_
      refine agn m ⟨by omega, ?_⟩ (goes (h1 := by refine ⟨rfl, rfl, congrArg (fun x => some (PV.own ⟨1, 8200⟩ (p.map encB).length 0 x)) (?_ : (((m + 1 : Nat) : Int) - 1).toNat - Int.toNat 0 = m), trivial⟩; omega))
      rw [← hs, stripN, if_pos hc255]
    · have hne : ¬ p[m]? = some 255 := by
        rw [hc]
        intro e
        cases e
        exact absurd h (by decide)
      have hst : stripN p (m + 1) = m + 1 := by rw [stripN, if_neg hne]
      repeat first | refine o_copy ?_ | refine nl ?_ | refine ct_seq ?_ | refine rg ?_ | refine ct_block ?_ | refine bq ?_ | refine o_loads ?_ | refine o_loadp ?_ | refine o_faddr ?_ | refine o_iaddr ?_ | refine o_iaddrO ?_ | refine o_iaddrR ?_ | refine o_b2sR ?_ | refine o_indexS ?_ | refine o_add ?_ | refine o_sub ?_ | refine o_cat ?_ | refine o_bin ?_ | refine o_lenq ?_ | refine o_len ?_ | refine o_loadsA ?_ | refine o_loadpA ?_ | refine o_box ?_ | refine o_alloc ?_ | refine o_bslice ?_ | refine o_s2b ?_ | refine o_store ?_ | refine o_field ?_ | refine o_not ?_ | refine o_pickt ?_ | refine o_pickf ?_ | refine o_build ?_ | refine o_extract ?_ | refine o_iaddrA ?_ | refine o_eqb ?_ | refine o_eqc ?_ | refine o_nilc ?_ | refine o_isnil ?_ | refine o_fn ?_ | refine o_lenS ?_ | refine o_cstr ?_ | refine o_minmax ?_ | refine skF ?_ | refine skU ?_
      refine cndt ?_ rfl (decide_eq_true (by omega))
      have hw := wrap_u8_add c
      have hset := set_take (p := p) (n := m) (c := c + 1) (by omega)
      have hmm : 0 + (((m + 1 : Nat) : Int) - 1).toNat = m := by omega
      have hb2 : (((p.set (0 + (((m + 1 : Nat) : Int) - 1).toNat) (c + 1)).map encB).drop 0).take (m + 1) = (p.take m ++ [c + 1]).map encB := by rw [hmm, List.drop_zero, ← List.map_take, hset]
      repeat first | refine o_copy ?_ | refine nl ?_ | refine ct_seq ?_ | refine rg ?_ | refine ct_block ?_ | refine bq ?_ | refine o_iaddrG ?_ | refine o_addE ?_ | refine o_v (vst encB (c + 1)) ?_ | refine o_b2sO hb2 ?_ | refine o_loads ?_ | refine o_loadp ?_ | refine o_faddr ?_ | refine o_iaddr ?_ | refine o_iaddrO ?_ | refine o_iaddrR ?_ | refine o_b2sR ?_ | refine o_indexS ?_ | refine o_add ?_ | refine o_sub ?_ | refine o_cat ?_ | refine o_bin ?_ | refine o_lenq ?_ | refine o_len ?_ | refine o_loadsA ?_ | refine o_loadpA ?_ | refine o_box ?_ | refine o_alloc ?_ | refine o_bslice ?_ | refine o_s2b ?_ | refine o_store ?_ | refine o_field ?_ | refine o_not ?_ | refine o_pickt ?_ | refine o_pickf ?_ | refine o_build ?_ | refine o_extract ?_ | refine o_iaddrA ?_ | refine o_eqb ?_ | refine o_eqc ?_ | refine o_nilc ?_ | refine o_isnil ?_ | refine o_fn ?_ | refine o_lenS ?_ | refine o_cstr ?_ | refine o_minmax ?_ | refine skF ?_ | refine skU ?_
      refine ct_ret ⟨.inr rfl, oC ?_⟩
      have : upL p = p.take m ++ [c + 1] := by
        unfold upL
        rw [← hs, hst]
        simp [List.getD, hc]
      rw [show prefixL p = ⟨p, upL p⟩ from rfl, this]
      rfl
  · have h0 : n = 0 := by have := of_decide_eq_false hg; omega
    subst h0
    repeat first | refine o_copy ?_ | refine nl ?_ | refine ct_seq ?_ | refine rg ?_ | refine ct_block ?_ | refine bq ?_ | refine o_loads ?_ | refine o_loadp ?_ | refine o_faddr ?_ | refine o_iaddr ?_ | refine o_iaddrO ?_ | refine o_iaddrR ?_ | refine o_b2sR ?_ | refine o_indexS ?_ | refine o_add ?_ | refine o_sub ?_ | refine o_cat ?_ | refine o_bin ?_ | refine o_lenq ?_ | refine o_len ?_ | refine o_loadsA ?_ | refine o_loadpA ?_ | refine o_box ?_ | refine o_alloc ?_ | refine o_bslice ?_ | refine o_s2b ?_ | refine o_store ?_ | refine o_field ?_ | refine o_not ?_ | refine o_pickt ?_ | refine o_pickf ?_ | refine o_build ?_ | refine o_extract ?_ | refine o_iaddrA ?_ | refine o_eqb ?_ | refine o_eqc ?_ | refine o_nilc ?_ | refine o_isnil ?_ | refine o_fn ?_ | refine o_lenS ?_ | refine o_cstr ?_ | refine o_minmax ?_ | refine skF ?_ | refine skU ?_
    refine cndf (ct_exit ?_)
    repeat first | refine o_copy ?_ | refine nl ?_ | refine ct_seq ?_ | refine rg ?_ | refine ct_block ?_ | refine bq ?_ | refine o_loads ?_ | refine o_loadp ?_ | refine o_faddr ?_ | refine o_iaddr ?_ | refine o_iaddrO ?_ | refine o_iaddrR ?_ | refine o_b2sR ?_ | refine o_indexS ?_ | refine o_add ?_ | refine o_sub ?_ | refine o_cat ?_ | refine o_bin ?_ | refine o_lenq ?_ | refine o_len ?_ | refine o_loadsA ?_ | refine o_loadpA ?_ | refine o_box ?_ | refine o_alloc ?_ | refine o_bslice ?_ | refine o_s2b ?_ | refine o_store ?_ | refine o_field ?_ | refine o_not ?_ | refine o_pickt ?_ | refine o_pickf ?_ | refine o_build ?_ | refine o_extract ?_ | refine o_iaddrA ?_ | refine o_eqb ?_ | refine o_eqc ?_ | refine o_nilc ?_ | refine o_isnil ?_ | refine o_fn ?_ | refine o_lenS ?_ | refine o_cstr ?_ | refine o_minmax ?_ | refine skF ?_ | refine skU ?_
    refine cndf (ct_skip ?_) rfl (by simp)
    have hb2 : (((p.map encB).drop 0).take 0) = ([] : Str).map encB := rfl
    repeat first | refine o_copy ?_ | refine nl ?_ | refine ct_seq ?_ | refine rg ?_ | refine ct_block ?_ | refine bq ?_ | refine o_b2sO hb2 ?_ | refine o_loads ?_ | refine o_loadp ?_ | refine o_faddr ?_ | refine o_iaddr ?_ | refine o_iaddrO ?_ | refine o_iaddrR ?_ | refine o_b2sR ?_ | refine o_indexS ?_ | refine o_add ?_ | refine o_sub ?_ | refine o_cat ?_ | refine o_bin ?_ | refine o_lenq ?_ | refine o_len ?_ | refine o_loadsA ?_ | refine o_loadpA ?_ | refine o_box ?_ | refine o_alloc ?_ | refine o_bslice ?_ | refine o_s2b ?_ | refine o_store ?_ | refine o_field ?_ | refine o_not ?_ | refine o_pickt ?_ | refine o_pickf ?_ | refine o_build ?_ | refine o_extract ?_ | refine o_iaddrA ?_ | refine o_eqb ?_ | refine o_eqc ?_ | refine o_nilc ?_ | refine o_isnil ?_ | refine o_fn ?_ | refine o_lenS ?_ | refine o_cstr ?_ | refine o_minmax ?_ | refine skF ?_ | refine skU ?_
    refine ct_ret ⟨.inr rfl, oC ?_⟩
    have : upL p = [] := by
      unfold upL
      rw [← hs]
      rfl
    rw [show prefixL p = ⟨p, upL p⟩ from rfl, this]
    rfl

theorem rprefix_vc (p : Str) (hp : p.length ≤ 1000000000) : VC Try.prog 16 [.str p] [] (.agg (encS (prefixL p))) [] := by
  refine vc_of vf16 ?_ (Nat.le_of_ble_eq_true rfl) (by intro vs h; cases h)
  repeat first | refine o_copy ?_ | refine nl ?_ | refine ct_seq ?_ | refine rg ?_ | refine ct_block ?_ | refine bq ?_ | refine o_loads ?_ | refine o_loadp ?_ | refine o_faddr ?_ | refine o_iaddr ?_ | refine o_iaddrO ?_ | refine o_iaddrR ?_ | refine o_b2sR ?_ | refine o_indexS ?_ | refine o_add ?_ | refine o_sub ?_ | refine o_cat ?_ | refine o_bin ?_ | refine o_lenq ?_ | refine o_len ?_ | refine o_loadsA ?_ | refine o_loadpA ?_ | refine o_box ?_ | refine o_alloc ?_ | refine o_bslice ?_ | refine o_s2b ?_ | refine o_store ?_ | refine o_field ?_ | refine o_not ?_ | refine o_pickt ?_ | refine o_pickf ?_ | refine o_build ?_ | refine o_extract ?_ | refine o_iaddrA ?_ | refine o_eqb ?_ | refine o_eqc ?_ | refine o_nilc ?_ | refine o_isnil ?_ | refine o_fn ?_ | refine o_lenS ?_ | refine o_cstr ?_ | refine o_minmax ?_ | refine skF ?_ | refine skU ?_
  refine ct_loopG (fun (g : Nat) => [(0, .str p), (2, .ptr ⟨1, 0⟩ 1 0 0), (3, .int .i64 g)])
    (fun g => [(⟨1, 0⟩, ⟨true, false, 2, [[.str [], .str []]]⟩)]) (fun g => g)
    (fun g => g ≤ p.length ∧ stripN p g = stripN p p.length) p.length goes ⟨Nat.le_refl _, rfl⟩ ?_
  rintro n ⟨hn, hs⟩
  (try dsimp only)
  repeat first | refine o_copy ?_ | refine nl ?_ | refine ct_seq ?_ | refine rg ?_ | refine ct_block ?_ | refine bq ?_ | refine o_loads ?_ | refine o_loadp ?_ | refine o_faddr ?_ | refine o_iaddr ?_ | refine o_iaddrO ?_ | refine o_iaddrR ?_ | refine o_b2sR ?_ | refine o_indexS ?_ | refine o_add ?_ | refine o_sub ?_ | refine o_cat ?_ | refine o_bin ?_ | refine o_lenq ?_ | refine o_len ?_ | refine o_loadsA ?_ | refine o_loadpA ?_ | refine o_box ?_ | refine o_alloc ?_ | refine o_bslice ?_ | refine o_s2b ?_ | refine o_store ?_ | refine o_field ?_ | refine o_not ?_ | refine o_pickt ?_ | refine o_pickf ?_ | refine o_build ?_ | refine o_extract ?_ | refine o_iaddrA ?_ | refine o_eqb ?_ | refine o_eqc ?_ | refine o_nilc ?_ | refine o_isnil ?_ | refine o_fn ?_ | refine o_lenS ?_ | refine o_cstr ?_ | refine o_minmax ?_ | refine skF ?_ | refine skU ?_
  refine glook (fun hg => ?_) (fun hg => ?_)
  · have hpos : 0 < n := by have := of_decide_eq_true hg; omega
    obtain ⟨m, rfl⟩ : ∃ m, n = m + 1 := ⟨n - 1, by omega⟩
    obtain ⟨c, hc⟩ : ∃ c, p[m]? = some c := ⟨_, List.getElem?_eq_getElem (by omega)⟩
    have hce : p[(((m + 1 : Nat) : Int) - 1).toNat]? = some c := by
      rw [show (((m + 1 : Nat) : Int) - 1).toNat = m by omega]; exact hc
    have hmm : ((m + 1 : Nat) : Int) - 1 = (m : Nat) := by omega
    repeat first | refine o_copy ?_ | refine nl ?_ | refine ct_seq ?_ | refine rg ?_ | refine ct_block ?_ | refine bq ?_ | refine o_loads ?_ | refine o_loadp ?_ | refine o_faddr ?_ | refine o_iaddr ?_ | refine o_iaddrO ?_ | refine o_iaddrR ?_ | refine o_b2sR ?_ | refine o_indexS ?_ | refine o_add ?_ | refine o_sub ?_ | refine o_cat ?_ | refine o_bin ?_ | refine o_lenq ?_ | refine o_len ?_ | refine o_loadsA ?_ | refine o_loadpA ?_ | refine o_box ?_ | refine o_alloc ?_ | refine o_bslice ?_ | refine o_s2b ?_ | refine o_store ?_ | refine o_field ?_ | refine o_not ?_ | refine o_pickt ?_ | refine o_pickf ?_ | refine o_build ?_ | refine o_extract ?_ | refine o_iaddrA ?_ | refine o_eqb ?_ | refine o_eqc ?_ | refine o_nilc ?_ | refine o_isnil ?_ | refine o_fn ?_ | refine o_lenS ?_ | refine o_cstr ?_ | refine o_minmax ?_ | refine skF ?_ | refine skU ?_
    refine cnd (fun h => ct_skip ?_) (fun h => ct_exit ?_)
    · have hc255 : p[m]? = some 255 := by
        rw [hc]; congr 1
        have : (c.toNat : Int) = 255 := by simpa using h
        exact UInt8.toNat_inj.1 (by show c.toNat = 255; omega)
      repeat first | refine o_copy ?_ | refine nl ?_ | refine ct_seq ?_ | refine rg ?_ | refine ct_block ?_ | refine bq ?_ | refine o_loads ?_ | refine o_loadp ?_ | refine o_faddr ?_ | refine o_iaddr ?_ | refine o_iaddrO ?_ | refine o_iaddrR ?_ | refine o_b2sR ?_ | refine o_indexS ?_ | refine o_add ?_ | refine o_sub ?_ | refine o_cat ?_ | refine o_bin ?_ | refine o_lenq ?_ | refine o_len ?_ | refine o_loadsA ?_ | refine o_loadpA ?_ | refine o_box ?_ | refine o_alloc ?_ | refine o_bslice ?_ | refine o_s2b ?_ | refine o_store ?_ | refine o_field ?_ | refine o_not ?_ | refine o_pickt ?_ | refine o_pickf ?_ | refine o_build ?_ | refine o_extract ?_ | refine o_iaddrA ?_ | refine o_eqb ?_ | refine o_eqc ?_ | refine o_nilc ?_ | refine o_isnil ?_ | refine o_fn ?_ | refine o_lenS ?_ | refine o_cstr ?_ | refine o_minmax ?_ | refine skF ?_ | refine skU ?_
      refine agn m ⟨by omega, ?_⟩ (goes (h1 := by refine ⟨rfl, rfl, congrArg (fun x => some (PV.int .i64 x)) hmm, trivial⟩))
      rw [← hs, stripN, if_pos hc255]
    · have hne : ¬ p[m]? = some 255 := by
        rw [hc]
        intro e
        cases e
        exact absurd h (by decide)
      have hst : stripN p (m + 1) = m + 1 := by rw [stripN, if_neg hne]
      repeat first | refine o_copy ?_ | refine nl ?_ | refine ct_seq ?_ | refine rg ?_ | refine ct_block ?_ | refine bq ?_ | refine o_loads ?_ | refine o_loadp ?_ | refine o_faddr ?_ | refine o_iaddr ?_ | refine o_iaddrO ?_ | refine o_iaddrR ?_ | refine o_b2sR ?_ | refine o_indexS ?_ | refine o_add ?_ | refine o_sub ?_ | refine o_cat ?_ | refine o_bin ?_ | refine o_lenq ?_ | refine o_len ?_ | refine o_loadsA ?_ | refine o_loadpA ?_ | refine o_box ?_ | refine o_alloc ?_ | refine o_bslice ?_ | refine o_s2b ?_ | refine o_store ?_ | refine o_field ?_ | refine o_not ?_ | refine o_pickt ?_ | refine o_pickf ?_ | refine o_build ?_ | refine o_extract ?_ | refine o_iaddrA ?_ | refine o_eqb ?_ | refine o_eqc ?_ | refine o_nilc ?_ | refine o_isnil ?_ | refine o_fn ?_ | refine o_lenS ?_ | refine o_cstr ?_ | refine o_minmax ?_ | refine skF ?_ | refine skU ?_
      refine cndf (ct_skip ?_) rfl (by simp; omega)
      have hw := wrap_u8_add c
      have hl1 : ((p.drop (Int.toNat 0)).take ((((m + 1 : Nat) : Int) - 1).toNat - Int.toNat 0)).length ≤ 1000000000 := by simp; omega
      repeat first | refine o_copy ?_ | refine nl ?_ | refine ct_seq ?_ | refine rg ?_ | refine ct_block ?_ | refine bq ?_ | refine o_slstr ?_ | refine o_addE ?_ | refine o_loads ?_ | refine o_loadp ?_ | refine o_faddr ?_ | refine o_iaddr ?_ | refine o_iaddrO ?_ | refine o_iaddrR ?_ | refine o_b2sR ?_ | refine o_indexS ?_ | refine o_add ?_ | refine o_sub ?_ | refine o_cat ?_ | refine o_bin ?_ | refine o_lenq ?_ | refine o_len ?_ | refine o_loadsA ?_ | refine o_loadpA ?_ | refine o_box ?_ | refine o_alloc ?_ | refine o_bslice ?_ | refine o_s2b ?_ | refine o_store ?_ | refine o_field ?_ | refine o_not ?_ | refine o_pickt ?_ | refine o_pickf ?_ | refine o_build ?_ | refine o_extract ?_ | refine o_iaddrA ?_ | refine o_eqb ?_ | refine o_eqc ?_ | refine o_nilc ?_ | refine o_isnil ?_ | refine o_fn ?_ | refine o_lenS ?_ | refine o_cstr ?_ | refine o_minmax ?_ | refine skF ?_ | refine skU ?_
      refine ct_ret ⟨.inr rfl, oC ?_⟩
      have : upL p = p.take m ++ [c + 1] := by
        unfold upL
        rw [← hs, hst]
        simp [List.getD, hc]
      rw [show prefixL p = ⟨p, upL p⟩ from rfl, this]
      show [PV.str p, PV.str (_ ++ [UInt8.ofNat (((c + 1).toNat : Int)).toNat])] = _
      rw [ofNat_u8, show (((m + 1 : Nat) : Int) - 1).toNat - Int.toNat 0 = m by omega]
      rfl
  · have h0 : n = 0 := by have := of_decide_eq_false hg; omega
    subst h0
    repeat first | refine o_copy ?_ | refine nl ?_ | refine ct_seq ?_ | refine rg ?_ | refine ct_block ?_ | refine bq ?_ | refine o_loads ?_ | refine o_loadp ?_ | refine o_faddr ?_ | refine o_iaddr ?_ | refine o_iaddrO ?_ | refine o_iaddrR ?_ | refine o_b2sR ?_ | refine o_indexS ?_ | refine o_add ?_ | refine o_sub ?_ | refine o_cat ?_ | refine o_bin ?_ | refine o_lenq ?_ | refine o_len ?_ | refine o_loadsA ?_ | refine o_loadpA ?_ | refine o_box ?_ | refine o_alloc ?_ | refine o_bslice ?_ | refine o_s2b ?_ | refine o_store ?_ | refine o_field ?_ | refine o_not ?_ | refine o_pickt ?_ | refine o_pickf ?_ | refine o_build ?_ | refine o_extract ?_ | refine o_iaddrA ?_ | refine o_eqb ?_ | refine o_eqc ?_ | refine o_nilc ?_ | refine o_isnil ?_ | refine o_fn ?_ | refine o_lenS ?_ | refine o_cstr ?_ | refine o_minmax ?_ | refine skF ?_ | refine skU ?_
    refine cndf (ct_exit ?_)
    repeat first | refine o_copy ?_ | refine nl ?_ | refine ct_seq ?_ | refine rg ?_ | refine ct_block ?_ | refine bq ?_ | refine o_loads ?_ | refine o_loadp ?_ | refine o_faddr ?_ | refine o_iaddr ?_ | refine o_iaddrO ?_ | refine o_iaddrR ?_ | refine o_b2sR ?_ | refine o_indexS ?_ | refine o_add ?_ | refine o_sub ?_ | refine o_cat ?_ | refine o_bin ?_ | refine o_lenq ?_ | refine o_len ?_ | refine o_loadsA ?_ | refine o_loadpA ?_ | refine o_box ?_ | refine o_alloc ?_ | refine o_bslice ?_ | refine o_s2b ?_ | refine o_store ?_ | refine o_field ?_ | refine o_not ?_ | refine o_pickt ?_ | refine o_pickf ?_ | refine o_build ?_ | refine o_extract ?_ | refine o_iaddrA ?_ | refine o_eqb ?_ | refine o_eqc ?_ | refine o_nilc ?_ | refine o_isnil ?_ | refine o_fn ?_ | refine o_lenS ?_ | refine o_cstr ?_ | refine o_minmax ?_ | refine skF ?_ | refine skU ?_
    refine cndt ?_ rfl rfl
    repeat first | refine o_copy ?_ | refine nl ?_ | refine ct_seq ?_ | refine rg ?_ | refine ct_block ?_ | refine bq ?_ | refine o_loads ?_ | refine o_loadp ?_ | refine o_faddr ?_ | refine o_iaddr ?_ | refine o_iaddrO ?_ | refine o_iaddrR ?_ | refine o_b2sR ?_ | refine o_indexS ?_ | refine o_add ?_ | refine o_sub ?_ | refine o_cat ?_ | refine o_bin ?_ | refine o_lenq ?_ | refine o_len ?_ | refine o_loadsA ?_ | refine o_loadpA ?_ | refine o_box ?_ | refine o_alloc ?_ | refine o_bslice ?_ | refine o_s2b ?_ | refine o_store ?_ | refine o_field ?_ | refine o_not ?_ | refine o_pickt ?_ | refine o_pickf ?_ | refine o_build ?_ | refine o_extract ?_ | refine o_iaddrA ?_ | refine o_eqb ?_ | refine o_eqc ?_ | refine o_nilc ?_ | refine o_isnil ?_ | refine o_fn ?_ | refine o_lenS ?_ | refine o_cstr ?_ | refine o_minmax ?_ | refine skF ?_ | refine skU ?_
    refine ct_ret ⟨.inr rfl, oC ?_⟩
    have : upL p = [] := by
      unfold upL
      rw [← hs]
      rfl
    rw [show prefixL p = ⟨p, upL p⟩ from rfl, this]
    rfl
end Go.Proofs
open Go.V Go.Pu
set_option linter.unusedVariables false
set_option linter.unusedSimpArgs false
set_option maxRecDepth 20000
namespace Go.Proofs
/-! Short, In -/
def shortL (l : List SpanL) (n : Int) : Bool := l.all (fun s => decide (s.lo.length ≤ 30) && decide (s.hi.length ≤ 30)) && decide ((l.length : Int) ≤ n)
theorem all_drop {α : Type} {f : α → Bool} {l : List α} {i : Nat} {x : α} (h : l[i]? = some x) : (l.drop i).all f = (f x && (l.drop (i + 1)).all f) := by
  rw [drop_get h, List.all_cons]
theorem short_vc {q : PV} {l : List SpanL} {n : Int} (hq : Sl q (l.map encS)) (hl : l.length ≤ maxLen) : VC Try.prog 12 [q, .int .i64 n] [] (.bool (shortL l n)) [] := by
  refine vc_of vf12 ?_ (Nat.le_of_ble_eq_true rfl) (by intro vs h; cases h)
  unfold maxLen at hl
  repeat first | refine o_copy ?_ | refine nl ?_ | refine ct_seq ?_ | refine rg ?_ | refine ct_block ?_ | refine bq ?_ | refine o_loads ?_ | refine o_loadp ?_ | refine o_faddr ?_ | refine o_iaddr ?_ | refine o_iaddrO ?_ | refine o_iaddrR ?_ | refine o_b2sR ?_ | refine o_indexS ?_ | refine o_add ?_ | refine o_sub ?_ | refine o_cat ?_ | refine o_bin ?_ | refine o_lenq ?_ | refine o_len ?_ | refine o_loadsA ?_ | refine o_loadpA ?_ | refine o_box ?_ | refine o_alloc ?_ | refine o_bslice ?_ | refine o_s2b ?_ | refine o_store ?_ | refine o_field ?_ | refine o_not ?_ | refine o_pickt ?_ | refine o_pickf ?_ | refine o_build ?_ | refine o_extract ?_ | refine o_iaddrA ?_ | refine o_eqb ?_ | refine o_eqc ?_ | refine o_nilc ?_ | refine o_isnil ?_ | refine o_fn ?_ | refine o_lenS ?_ | refine o_cstr ?_ | refine o_minmax ?_ | refine skF ?_ | refine skU ?_
  refine ct_loopG (fun (g : Nat) => [(0, q), (1, .int .i64 n), (5, .int .i64 g)]) (fun g => []) (fun g => l.length - g)
    (fun g => g ≤ l.length ∧ (l.drop g).all (fun s => decide (s.lo.length ≤ 30) && decide (s.hi.length ≤ 30)) = l.all (fun s => decide (s.lo.length ≤ 30) && decide (s.hi.length ≤ 30))) 0 goes ⟨Nat.zero_le _, rfl⟩ ?_
  rintro i ⟨hi, hv⟩
  (try dsimp only)
  repeat first | refine o_copy ?_ | refine nl ?_ | refine ct_seq ?_ | refine rg ?_ | refine ct_block ?_ | refine bq ?_ | refine o_loads ?_ | refine o_loadp ?_ | refine o_faddr ?_ | refine o_iaddr ?_ | refine o_iaddrO ?_ | refine o_iaddrR ?_ | refine o_b2sR ?_ | refine o_indexS ?_ | refine o_add ?_ | refine o_sub ?_ | refine o_cat ?_ | refine o_bin ?_ | refine o_lenq ?_ | refine o_len ?_ | refine o_loadsA ?_ | refine o_loadpA ?_ | refine o_box ?_ | refine o_alloc ?_ | refine o_bslice ?_ | refine o_s2b ?_ | refine o_store ?_ | refine o_field ?_ | refine o_not ?_ | refine o_pickt ?_ | refine o_pickf ?_ | refine o_build ?_ | refine o_extract ?_ | refine o_iaddrA ?_ | refine o_eqb ?_ | refine o_eqc ?_ | refine o_nilc ?_ | refine o_isnil ?_ | refine o_fn ?_ | refine o_lenS ?_ | refine o_cstr ?_ | refine o_minmax ?_ | refine skF ?_ | refine skU ?_
  refine cnd (fun h => ct_skip ?_) (fun h => ct_exit ?_)
  · have hlt : i < l.length := by have h' := of_decide_eq_true h; simp only [List.length_map] at h'; omega
    obtain ⟨x, hx⟩ : ∃ x, l[i]? = some x := ⟨_, List.getElem?_eq_getElem hlt⟩
    have hxe := gm (enc := encS) (n := (i : Int)) hx (by omega)
    rw [all_drop hx] at hv
    repeat first | refine o_copy ?_ | refine nl ?_ | refine ct_seq ?_ | refine rg ?_ | refine ct_block ?_ | refine bq ?_ | refine o_loads ?_ | refine o_loadp ?_ | refine o_faddr ?_ | refine o_iaddr ?_ | refine o_iaddrO ?_ | refine o_iaddrR ?_ | refine o_b2sR ?_ | refine o_indexS ?_ | refine o_add ?_ | refine o_sub ?_ | refine o_cat ?_ | refine o_bin ?_ | refine o_lenq ?_ | refine o_len ?_ | refine o_loadsA ?_ | refine o_loadpA ?_ | refine o_box ?_ | refine o_alloc ?_ | refine o_bslice ?_ | refine o_s2b ?_ | refine o_store ?_ | refine o_field ?_ | refine o_not ?_ | refine o_pickt ?_ | refine o_pickf ?_ | refine o_build ?_ | refine o_extract ?_ | refine o_iaddrA ?_ | refine o_eqb ?_ | refine o_eqc ?_ | refine o_nilc ?_ | refine o_isnil ?_ | refine o_fn ?_ | refine o_lenS ?_ | refine o_cstr ?_ | refine o_minmax ?_ | refine skF ?_ | refine skU ?_
    refine glook (fun hg => ?_) (fun hg => ?_)
    · repeat first | refine o_copy ?_ | refine nl ?_ | refine ct_seq ?_ | refine rg ?_ | refine ct_block ?_ | refine bq ?_ | refine o_loads ?_ | refine o_loadp ?_ | refine o_faddr ?_ | refine o_iaddr ?_ | refine o_iaddrO ?_ | refine o_iaddrR ?_ | refine o_b2sR ?_ | refine o_indexS ?_ | refine o_add ?_ | refine o_sub ?_ | refine o_cat ?_ | refine o_bin ?_ | refine o_lenq ?_ | refine o_len ?_ | refine o_loadsA ?_ | refine o_loadpA ?_ | refine o_box ?_ | refine o_alloc ?_ | refine o_bslice ?_ | refine o_s2b ?_ | refine o_store ?_ | refine o_field ?_ | refine o_not ?_ | refine o_pickt ?_ | refine o_pickf ?_ | refine o_build ?_ | refine o_extract ?_ | refine o_iaddrA ?_ | refine o_eqb ?_ | refine o_eqc ?_ | refine o_nilc ?_ | refine o_isnil ?_ | refine o_fn ?_ | refine o_lenS ?_ | refine o_cstr ?_ | refine o_minmax ?_ | refine skF ?_ | refine skU ?_
      refine cndt ?_
      repeat first | refine o_copy ?_ | refine nl ?_ | refine ct_seq ?_ | refine rg ?_ | refine ct_block ?_ | refine bq ?_ | refine o_loads ?_ | refine o_loadp ?_ | refine o_faddr ?_ | refine o_iaddr ?_ | refine o_iaddrO ?_ | refine o_iaddrR ?_ | refine o_b2sR ?_ | refine o_indexS ?_ | refine o_add ?_ | refine o_sub ?_ | refine o_cat ?_ | refine o_bin ?_ | refine o_lenq ?_ | refine o_len ?_ | refine o_loadsA ?_ | refine o_loadpA ?_ | refine o_box ?_ | refine o_alloc ?_ | refine o_bslice ?_ | refine o_s2b ?_ | refine o_store ?_ | refine o_field ?_ | refine o_not ?_ | refine o_pickt ?_ | refine o_pickf ?_ | refine o_build ?_ | refine o_extract ?_ | refine o_iaddrA ?_ | refine o_eqb ?_ | refine o_eqc ?_ | refine o_nilc ?_ | refine o_isnil ?_ | refine o_fn ?_ | refine o_lenS ?_ | refine o_cstr ?_ | refine o_minmax ?_ | refine skF ?_ | refine skU ?_
      refine ct_ret ⟨.inr rfl, oB ?_⟩
      have : ¬ x.lo.length ≤ 30 := by have := of_decide_eq_true hg; omega
      simp [shortL, ← hv, this]
    · repeat first | refine o_copy ?_ | refine nl ?_ | refine ct_seq ?_ | refine rg ?_ | refine ct_block ?_ | refine bq ?_ | refine o_loads ?_ | refine o_loadp ?_ | refine o_faddr ?_ | refine o_iaddr ?_ | refine o_iaddrO ?_ | refine o_iaddrR ?_ | refine o_b2sR ?_ | refine o_indexS ?_ | refine o_add ?_ | refine o_sub ?_ | refine o_cat ?_ | refine o_bin ?_ | refine o_lenq ?_ | refine o_len ?_ | refine o_loadsA ?_ | refine o_loadpA ?_ | refine o_box ?_ | refine o_alloc ?_ | refine o_bslice ?_ | refine o_s2b ?_ | refine o_store ?_ | refine o_field ?_ | refine o_not ?_ | refine o_pickt ?_ | refine o_pickf ?_ | refine o_build ?_ | refine o_extract ?_ | refine o_iaddrA ?_ | refine o_eqb ?_ | refine o_eqc ?_ | refine o_nilc ?_ | refine o_isnil ?_ | refine o_fn ?_ | refine o_lenS ?_ | refine o_cstr ?_ | refine o_minmax ?_ | refine skF ?_ | refine skU ?_
      refine cnd (fun h2 => ?_) (fun h2 => ct_skip ?_)
      · repeat first | refine o_copy ?_ | refine nl ?_ | refine ct_seq ?_ | refine rg ?_ | refine ct_block ?_ | refine bq ?_ | refine o_loads ?_ | refine o_loadp ?_ | refine o_faddr ?_ | refine o_iaddr ?_ | refine o_iaddrO ?_ | refine o_iaddrR ?_ | refine o_b2sR ?_ | refine o_indexS ?_ | refine o_add ?_ | refine o_sub ?_ | refine o_cat ?_ | refine o_bin ?_ | refine o_lenq ?_ | refine o_len ?_ | refine o_loadsA ?_ | refine o_loadpA ?_ | refine o_box ?_ | refine o_alloc ?_ | refine o_bslice ?_ | refine o_s2b ?_ | refine o_store ?_ | refine o_field ?_ | refine o_not ?_ | refine o_pickt ?_ | refine o_pickf ?_ | refine o_build ?_ | refine o_extract ?_ | refine o_iaddrA ?_ | refine o_eqb ?_ | refine o_eqc ?_ | refine o_nilc ?_ | refine o_isnil ?_ | refine o_fn ?_ | refine o_lenS ?_ | refine o_cstr ?_ | refine o_minmax ?_ | refine skF ?_ | refine skU ?_
        refine ct_ret ⟨.inr rfl, oB ?_⟩
        have : ¬ x.hi.length ≤ 30 := by have := of_decide_eq_true h2; omega
        simp [shortL, ← hv, this]
      · repeat first | refine o_copy ?_ | refine nl ?_ | refine ct_seq ?_ | refine rg ?_ | refine ct_block ?_ | refine bq ?_ | refine o_loads ?_ | refine o_loadp ?_ | refine o_faddr ?_ | refine o_iaddr ?_ | refine o_iaddrO ?_ | refine o_iaddrR ?_ | refine o_b2sR ?_ | refine o_indexS ?_ | refine o_add ?_ | refine o_sub ?_ | refine o_cat ?_ | refine o_bin ?_ | refine o_lenq ?_ | refine o_len ?_ | refine o_loadsA ?_ | refine o_loadpA ?_ | refine o_box ?_ | refine o_alloc ?_ | refine o_bslice ?_ | refine o_s2b ?_ | refine o_store ?_ | refine o_field ?_ | refine o_not ?_ | refine o_pickt ?_ | refine o_pickf ?_ | refine o_build ?_ | refine o_extract ?_ | refine o_iaddrA ?_ | refine o_eqb ?_ | refine o_eqc ?_ | refine o_nilc ?_ | refine o_isnil ?_ | refine o_fn ?_ | refine o_lenS ?_ | refine o_cstr ?_ | refine o_minmax ?_ | refine skF ?_ | refine skU ?_
        refine agn (i + 1) ⟨by omega, ?_⟩ goes
        have h3 : x.hi.length ≤ 30 := by have := of_decide_eq_false h2; omega
        have h4 : x.lo.length ≤ 30 := by have := of_decide_eq_false hg; omega
        rw [← hv]
        simp [h3, h4]
  · have hge : i = l.length := by have h' := of_decide_eq_false h; simp only [List.length_map] at h'; omega
    subst hge
    repeat first | refine o_copy ?_ | refine nl ?_ | refine ct_seq ?_ | refine rg ?_ | refine ct_block ?_ | refine bq ?_ | refine o_loads ?_ | refine o_loadp ?_ | refine o_faddr ?_ | refine o_iaddr ?_ | refine o_iaddrO ?_ | refine o_iaddrR ?_ | refine o_b2sR ?_ | refine o_indexS ?_ | refine o_add ?_ | refine o_sub ?_ | refine o_cat ?_ | refine o_bin ?_ | refine o_lenq ?_ | refine o_len ?_ | refine o_loadsA ?_ | refine o_loadpA ?_ | refine o_box ?_ | refine o_alloc ?_ | refine o_bslice ?_ | refine o_s2b ?_ | refine o_store ?_ | refine o_field ?_ | refine o_not ?_ | refine o_pickt ?_ | refine o_pickf ?_ | refine o_build ?_ | refine o_extract ?_ | refine o_iaddrA ?_ | refine o_eqb ?_ | refine o_eqc ?_ | refine o_nilc ?_ | refine o_isnil ?_ | refine o_fn ?_ | refine o_lenS ?_ | refine o_cstr ?_ | refine o_minmax ?_ | refine skF ?_ | refine skU ?_
    refine ct_ret ⟨.inr rfl, oB ?_⟩
    rw [List.drop_length] at hv
    simp [shortL, ← hv]

/-! Near -/
abbrev encT (s : Str) : List PV := [.str s]
def cutE (e : Str) : Str := (e.drop (Int.toNat 0)).take (((e.length : Int) - 1).toNat - Int.toNat 0)
def lowE (e : Str) : UInt8 := UInt8.ofNat (IntKind.u8.wrap (((e.getD (e.length - 1) 0).toNat : Int) - 1)).toNat
def near1 (e : Str) : List Str := if e.length = 0 then [e, e ++ [0], e ++ [255]] else [e, e ++ [0], e ++ [255]] ++ [cutE e, cutE e ++ [lowE e] ++ [255]]
def nearL (l : List SpanL) : List Str := l.foldl (fun o s => o ++ near1 s.lo ++ near1 s.hi) [[], [0], [97], [255]]
theorem near1_len (e : Str) : (near1 e).length ≤ 5 := by unfold near1; split <;> simp
theorem cutE_len (e : Str) : (cutE e).length ≤ e.length := by simp only [cutE, List.length_take, List.length_drop]; omega
theorem near1_mem {e k : Str} (h : k ∈ near1 e) : k.length ≤ e.length + 2 := by
  have := cutE_len e
  unfold near1 at h
  split at h
  · simp at h
    rcases h with rfl | rfl | rfl <;> simp
  · simp at h
    rcases h with rfl | rfl | rfl | rfl | rfl <;> simp <;> omega
theorem nearL_mem {l : List SpanL} {n : Nat} (hl : ∀ s ∈ l, s.lo.length ≤ n ∧ s.hi.length ≤ n) {k : Str} (h : k ∈ nearL l) : k.length ≤ n + 2 := by
  have key : ∀ (l : List SpanL) (o : List Str), (∀ s ∈ l, s.lo.length ≤ n ∧ s.hi.length ≤ n) → (∀ k ∈ o, k.length ≤ n + 2) → ∀ k ∈ l.foldl (fun o s => o ++ near1 s.lo ++ near1 s.hi) o, k.length ≤ n + 2 := by
    intro l
    induction l with
    | nil => intro o _ ho; exact ho
    | cons s l ih =>
      intro o hs ho
      refine ih _ (fun t ht => hs t (by simp [ht])) (fun k hk => ?_)
      obtain ⟨h1, h2⟩ := hs s (by simp)
      simp only [List.mem_append] at hk
      rcases hk with (hk | hk) | hk
      · exact ho k hk
      · have := near1_mem hk; omega
      · have := near1_mem hk; omega
  exact key l _ hl (by intro k hk; simp at hk; rcases hk with rfl | rfl | rfl | rfl <;> simp) k h
theorem nearL_len (l : List SpanL) : (nearL l).length ≤ 4 + 10 * l.length := by
  have key : ∀ (l : List SpanL) (o : List Str), (l.foldl (fun o s => o ++ near1 s.lo ++ near1 s.hi) o).length ≤ o.length + 10 * l.length := by
    intro l
    induction l with
    | nil => intro o; simp
    | cons s l ih =>
      intro o
      refine Nat.le_trans (ih _) ?_
      have h1 := near1_len s.lo
      have h2 := near1_len s.hi
      simp only [List.length_append, List.length_cons]
      omega
  exact key l _
set_option maxHeartbeats 2000000 in
theorem near_vc {q : PV} {l : List SpanL} (hq : Sl q (l.map encS)) (hl : l.length ≤ 1000) (hs : ∀ s ∈ l, s.lo.length ≤ 1000 ∧ s.hi.length ≤ 1000) : VC Try.prog 36 [q] [] (ownV ⟨0, 0⟩ ((nearL l).map encT)) [blkV 1 ((nearL l).map encT)] := by
  refine vc_of vf36 ?_ (Nat.le_of_ble_eq_true rfl) (by intro vs h; cases h)
  repeat first | refine o_copy ?_ | refine nl ?_ | refine ct_seq ?_ | refine rg ?_ | refine ct_block ?_ | refine bq ?_ | refine o_loads ?_ | refine o_loadp ?_ | refine o_faddr ?_ | refine o_iaddr ?_ | refine o_iaddrO ?_ | refine o_iaddrR ?_ | refine o_b2sR ?_ | refine o_indexS ?_ | refine o_add ?_ | refine o_sub ?_ | refine o_cat ?_ | refine o_bin ?_ | refine o_lenq ?_ | refine o_len ?_ | refine o_loadsA ?_ | refine o_loadpA ?_ | refine o_box ?_ | refine o_alloc ?_ | refine o_bslice ?_ | refine o_s2b ?_ | refine o_store ?_ | refine o_field ?_ | refine o_not ?_ | refine o_pickt ?_ | refine o_pickf ?_ | refine o_build ?_ | refine o_extract ?_ | refine o_iaddrA ?_ | refine o_eqb ?_ | refine o_eqc ?_ | refine o_nilc ?_ | refine o_isnil ?_ | refine o_fn ?_ | refine o_lenS ?_ | refine o_cstr ?_ | refine o_minmax ?_ | refine skF ?_ | refine skU ?_
  refine ct_loopG (fun (g : Nat × List Str) => [(0, q), (3, ownV ⟨1, 8192⟩ (g.2.map encT)), (4, .int .i64 g.1)]) (fun g => [(⟨1, 8192⟩, blkV 1 (g.2.map encT))]) (fun g => l.length - g.1)
    (fun g => g.1 ≤ l.length ∧ g.2.length ≤ 4 + 10 * g.1 ∧ (l.drop g.1).foldl (fun o s => o ++ near1 s.lo ++ near1 s.hi) g.2 = nearL l) (0, [[], [0], [97], [255]]) goes ⟨Nat.zero_le _, by simp, rfl⟩ ?_
  rintro ⟨i, o⟩ ⟨hi, hol, hv⟩
  dsimp only at hi hol hv ⊢
  repeat first | refine o_copy ?_ | refine nl ?_ | refine ct_seq ?_ | refine rg ?_ | refine ct_block ?_ | refine bq ?_ | refine o_loads ?_ | refine o_loadp ?_ | refine o_faddr ?_ | refine o_iaddr ?_ | refine o_iaddrO ?_ | refine o_iaddrR ?_ | refine o_b2sR ?_ | refine o_indexS ?_ | refine o_add ?_ | refine o_sub ?_ | refine o_cat ?_ | refine o_bin ?_ | refine o_lenq ?_ | refine o_len ?_ | refine o_loadsA ?_ | refine o_loadpA ?_ | refine o_box ?_ | refine o_alloc ?_ | refine o_bslice ?_ | refine o_s2b ?_ | refine o_store ?_ | refine o_field ?_ | refine o_not ?_ | refine o_pickt ?_ | refine o_pickf ?_ | refine o_build ?_ | refine o_extract ?_ | refine o_iaddrA ?_ | refine o_eqb ?_ | refine o_eqc ?_ | refine o_nilc ?_ | refine o_isnil ?_ | refine o_fn ?_ | refine o_lenS ?_ | refine o_cstr ?_ | refine o_minmax ?_ | refine skF ?_ | refine skU ?_
  refine cnd (fun h => ct_skip ?_) (fun h => ct_exit ?_)
  · have hlt : i < l.length := by have h' := of_decide_eq_true h; simp only [List.length_map] at h'; omega
    obtain ⟨x, hx⟩ : ∃ x, l[i]? = some x := ⟨_, List.getElem?_eq_getElem hlt⟩
    have hxe := gm (enc := encS) (n := (i : Int)) hx (by omega)
    have hxs := hs x (List.mem_of_getElem? hx)
    rw [drop_get hx, List.foldl_cons] at hv
    repeat first | refine o_copy ?_ | refine nl ?_ | refine ct_seq ?_ | refine rg ?_ | refine ct_block ?_ | refine bq ?_ | refine o_loads ?_ | refine o_loadp ?_ | refine o_faddr ?_ | refine o_iaddr ?_ | refine o_iaddrO ?_ | refine o_iaddrR ?_ | refine o_b2sR ?_ | refine o_indexS ?_ | refine o_add ?_ | refine o_sub ?_ | refine o_cat ?_ | refine o_bin ?_ | refine o_lenq ?_ | refine o_len ?_ | refine o_loadsA ?_ | refine o_loadpA ?_ | refine o_box ?_ | refine o_alloc ?_ | refine o_bslice ?_ | refine o_s2b ?_ | refine o_store ?_ | refine o_field ?_ | refine o_not ?_ | refine o_pickt ?_ | refine o_pickf ?_ | refine o_build ?_ | refine o_extract ?_ | refine o_iaddrA ?_ | refine o_eqb ?_ | refine o_eqc ?_ | refine o_nilc ?_ | refine o_isnil ?_ | refine o_fn ?_ | refine o_lenS ?_ | refine o_cstr ?_ | refine o_minmax ?_ | refine skF ?_ | refine skU ?_
    refine ct_loopG (fun (g : Nat × List Str) => [(0, q), (3, ownV ⟨1, 8192⟩ (g.2.map encT)), (4, .int .i64 i), (5, .own ⟨1, 41040⟩ 2 0 2), (6, .int .i64 g.1)])
      (fun g => [(⟨1, 8192⟩, blkV 1 (g.2.map encT)), (⟨1, 41040⟩, blkV 1 [[.str x.lo], [.str x.hi]])]) (fun g => 2 - g.1)
      (fun g => g.1 ≤ 2 ∧ g.2.length ≤ 4 + 10 * i + 5 * g.1 ∧ ([x.lo, x.hi].drop g.1).foldl (fun o e => o ++ near1 e) g.2 = o ++ near1 x.lo ++ near1 x.hi) (0, o) goes ⟨by simp, by simp; omega, rfl⟩ ?_
    rintro ⟨k, p⟩ ⟨hk, hpl, hw⟩
    dsimp only at hk hpl hw ⊢
    repeat first | refine o_copy ?_ | refine nl ?_ | refine ct_seq ?_ | refine rg ?_ | refine ct_block ?_ | refine bq ?_ | refine o_loads ?_ | refine o_loadp ?_ | refine o_faddr ?_ | refine o_iaddr ?_ | refine o_iaddrO ?_ | refine o_iaddrR ?_ | refine o_b2sR ?_ | refine o_indexS ?_ | refine o_add ?_ | refine o_sub ?_ | refine o_cat ?_ | refine o_bin ?_ | refine o_lenq ?_ | refine o_len ?_ | refine o_loadsA ?_ | refine o_loadpA ?_ | refine o_box ?_ | refine o_alloc ?_ | refine o_bslice ?_ | refine o_s2b ?_ | refine o_store ?_ | refine o_field ?_ | refine o_not ?_ | refine o_pickt ?_ | refine o_pickf ?_ | refine o_build ?_ | refine o_extract ?_ | refine o_iaddrA ?_ | refine o_eqb ?_ | refine o_eqc ?_ | refine o_nilc ?_ | refine o_isnil ?_ | refine o_fn ?_ | refine o_lenS ?_ | refine o_cstr ?_ | refine o_minmax ?_ | refine skF ?_ | refine skU ?_
    refine cnd (fun h2 => ct_skip ?_) (fun h2 => ct_exit ?_)
    · have hk2 : k < 2 := by have h' := of_decide_eq_true h2; omega
      obtain ⟨e, he⟩ : ∃ e, [x.lo, x.hi][k]? = some e := ⟨_, List.getElem?_eq_getElem (by simpa using hk2)⟩
      have hke : (blkV 1 [[PV.str x.lo], [.str x.hi]]).els[0 + (k : Int).toNat]? = some [.str e] := by
        rw [show 0 + (k : Int).toNat = k by omega]
        show (List.map encT [x.lo, x.hi])[k]? = _
        rw [List.getElem?_map, he]; rfl
      have hel : e.length ≤ 1000 := by
        have := List.mem_of_getElem? he
        simp at this
        rcases this with rfl | rfl
        · exact hxs.1
        · exact hxs.2
      rw [drop_get he, List.foldl_cons] at hw
      repeat first | refine o_copy ?_ | refine nl ?_ | refine ct_seq ?_ | refine rg ?_ | refine ct_block ?_ | refine bq ?_ | refine o_iaddrG ?_ | refine o_v (vaps encT p [e, e ++ [0], e ++ [255]]) ?_ | refine o_loads ?_ | refine o_loadp ?_ | refine o_faddr ?_ | refine o_iaddr ?_ | refine o_iaddrO ?_ | refine o_iaddrR ?_ | refine o_b2sR ?_ | refine o_indexS ?_ | refine o_add ?_ | refine o_sub ?_ | refine o_cat ?_ | refine o_bin ?_ | refine o_lenq ?_ | refine o_len ?_ | refine o_loadsA ?_ | refine o_loadpA ?_ | refine o_box ?_ | refine o_alloc ?_ | refine o_bslice ?_ | refine o_s2b ?_ | refine o_store ?_ | refine o_field ?_ | refine o_not ?_ | refine o_pickt ?_ | refine o_pickf ?_ | refine o_build ?_ | refine o_extract ?_ | refine o_iaddrA ?_ | refine o_eqb ?_ | refine o_eqc ?_ | refine o_nilc ?_ | refine o_isnil ?_ | refine o_fn ?_ | refine o_lenS ?_ | refine o_cstr ?_ | refine o_minmax ?_ | refine skF ?_ | refine skU ?_
      refine cnd (fun h3 => ?_) (fun h3 => ct_skip ?_)
      · have hpos : 0 < e.length := by have h' := of_decide_eq_true h3; omega
        obtain ⟨c, hc⟩ : ∃ c, e[e.length - 1]? = some c := ⟨_, List.getElem?_eq_getElem (by omega)⟩
        have hce : e[(((e.length : Nat) : Int) - 1).toNat]? = some c := by rw [show (((e.length : Nat) : Int) - 1).toNat = e.length - 1 by omega]; exact hc
        have hlow : lowE e = UInt8.ofNat (IntKind.u8.wrap ((c.toNat : Int) - 1)).toNat := by simp only [lowE, List.getD, hc, Option.getD_some]
        have hn1 : near1 e = [e, e ++ [0], e ++ [255]] ++ [cutE e, cutE e ++ [UInt8.ofNat (IntKind.u8.wrap ((c.toNat : Int) - 1)).toNat] ++ [255]] := by rw [near1, if_neg (by omega), hlow]
        repeat first | refine o_copy ?_ | refine nl ?_ | refine ct_seq ?_ | refine rg ?_ | refine ct_block ?_ | refine bq ?_ | refine o_slstr ?_ | refine o_v (vaps encT (p ++ [e, e ++ [0], e ++ [255]]) [cutE e, cutE e ++ [UInt8.ofNat (IntKind.u8.wrap ((c.toNat : Int) - 1)).toNat] ++ [255]]) ?_ | refine o_loads ?_ | refine o_loadp ?_ | refine o_faddr ?_ | refine o_iaddr ?_ | refine o_iaddrO ?_ | refine o_iaddrR ?_ | refine o_b2sR ?_ | refine o_indexS ?_ | refine o_add ?_ | refine o_sub ?_ | refine o_cat ?_ | refine o_bin ?_ | refine o_lenq ?_ | refine o_len ?_ | refine o_loadsA ?_ | refine o_loadpA ?_ | refine o_box ?_ | refine o_alloc ?_ | refine o_bslice ?_ | refine o_s2b ?_ | refine o_store ?_ | refine o_field ?_ | refine o_not ?_ | refine o_pickt ?_ | refine o_pickf ?_ | refine o_build ?_ | refine o_extract ?_ | refine o_iaddrA ?_ | refine o_eqb ?_ | refine o_eqc ?_ | refine o_nilc ?_ | refine o_isnil ?_ | refine o_fn ?_ | refine o_lenS ?_ | refine o_cstr ?_ | refine o_minmax ?_ | refine skF ?_ | refine skU ?_
        refine agn (k + 1, (p ++ [e, e ++ [0], e ++ [255]]) ++ [cutE e, cutE e ++ [UInt8.ofNat (IntKind.u8.wrap ((c.toNat : Int) - 1)).toNat] ++ [255]]) ⟨by simp only; omega, by simp only [List.length_append, List.length_cons, List.length_nil]; omega, ?_⟩ goes
        rw [← hw, hn1]
        simp only [List.append_assoc]
      · have h0 : e.length = 0 := by have h' := of_decide_eq_false h3; omega
        have hn1 : near1 e = [e, e ++ [0], e ++ [255]] := by rw [near1, if_pos h0]
        repeat first | refine o_copy ?_ | refine nl ?_ | refine ct_seq ?_ | refine rg ?_ | refine ct_block ?_ | refine bq ?_ | refine o_loads ?_ | refine o_loadp ?_ | refine o_faddr ?_ | refine o_iaddr ?_ | refine o_iaddrO ?_ | refine o_iaddrR ?_ | refine o_b2sR ?_ | refine o_indexS ?_ | refine o_add ?_ | refine o_sub ?_ | refine o_cat ?_ | refine o_bin ?_ | refine o_lenq ?_ | refine o_len ?_ | refine o_loadsA ?_ | refine o_loadpA ?_ | refine o_box ?_ | refine o_alloc ?_ | refine o_bslice ?_ | refine o_s2b ?_ | refine o_store ?_ | refine o_field ?_ | refine o_not ?_ | refine o_pickt ?_ | refine o_pickf ?_ | refine o_build ?_ | refine o_extract ?_ | refine o_iaddrA ?_ | refine o_eqb ?_ | refine o_eqc ?_ | refine o_nilc ?_ | refine o_isnil ?_ | refine o_fn ?_ | refine o_lenS ?_ | refine o_cstr ?_ | refine o_minmax ?_ | refine skF ?_ | refine skU ?_
        refine agn (k + 1, p ++ [e, e ++ [0], e ++ [255]]) ⟨by simp only; omega, by simp only [List.length_append, List.length_cons, List.length_nil]; omega, ?_⟩ goes
        rw [← hw, hn1]
    · have hk2 : k = 2 := by have h' := of_decide_eq_false h2; omega
      subst hk2
      repeat first | refine o_copy ?_ | refine nl ?_ | refine ct_seq ?_ | refine rg ?_ | refine ct_block ?_ | refine bq ?_ | refine o_loads ?_ | refine o_loadp ?_ | refine o_faddr ?_ | refine o_iaddr ?_ | refine o_iaddrO ?_ | refine o_iaddrR ?_ | refine o_b2sR ?_ | refine o_indexS ?_ | refine o_add ?_ | refine o_sub ?_ | refine o_cat ?_ | refine o_bin ?_ | refine o_lenq ?_ | refine o_len ?_ | refine o_loadsA ?_ | refine o_loadpA ?_ | refine o_box ?_ | refine o_alloc ?_ | refine o_bslice ?_ | refine o_s2b ?_ | refine o_store ?_ | refine o_field ?_ | refine o_not ?_ | refine o_pickt ?_ | refine o_pickf ?_ | refine o_build ?_ | refine o_extract ?_ | refine o_iaddrA ?_ | refine o_eqb ?_ | refine o_eqc ?_ | refine o_nilc ?_ | refine o_isnil ?_ | refine o_fn ?_ | refine o_lenS ?_ | refine o_cstr ?_ | refine o_minmax ?_ | refine skF ?_ | refine skU ?_
      refine agn (i + 1, p) ⟨by simp only; omega, by simp only; omega, ?_⟩ goes
      rw [← hv, ← hw]
      rfl
  · have hge : i = l.length := by have h' := of_decide_eq_false h; simp only [List.length_map] at h'; omega
    subst hge
    rw [List.drop_length] at hv
    repeat first | refine o_copy ?_ | refine nl ?_ | refine ct_seq ?_ | refine rg ?_ | refine ct_block ?_ | refine bq ?_ | refine o_loads ?_ | refine o_loadp ?_ | refine o_faddr ?_ | refine o_iaddr ?_ | refine o_iaddrO ?_ | refine o_iaddrR ?_ | refine o_b2sR ?_ | refine o_indexS ?_ | refine o_add ?_ | refine o_sub ?_ | refine o_cat ?_ | refine o_bin ?_ | refine o_lenq ?_ | refine o_len ?_ | refine o_loadsA ?_ | refine o_loadpA ?_ | refine o_box ?_ | refine o_alloc ?_ | refine o_bslice ?_ | refine o_s2b ?_ | refine o_store ?_ | refine o_field ?_ | refine o_not ?_ | refine o_pickt ?_ | refine o_pickf ?_ | refine o_build ?_ | refine o_extract ?_ | refine o_iaddrA ?_ | refine o_eqb ?_ | refine o_eqc ?_ | refine o_nilc ?_ | refine o_isnil ?_ | refine o_fn ?_ | refine o_lenS ?_ | refine o_cstr ?_ | refine o_minmax ?_ | refine skF ?_ | refine skU ?_
    refine ct_ret ⟨.inr rfl, oOwn ?_⟩
    rw [← hv]
    rfl
end Go.Proofs
