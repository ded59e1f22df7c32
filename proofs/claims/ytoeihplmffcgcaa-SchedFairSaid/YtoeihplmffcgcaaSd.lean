/- Sd -/
import Derived.Test.YtoeihplmffcgcaaSc
open Go.V Go.Pu
set_option linter.unusedVariables false
set_option linter.unusedSimpArgs false
set_option maxRecDepth 20000
namespace Go.Proofs
/-- downspout/downspoutlaw31.SchedMatchesReference -/
def vc3 : VCode :=
 (.seq
 (.region 0 false [
 ⟨(some 3), .box (.t 0), none, 0, []⟩,
 ⟨(some 4), .box (.t 1), none, 8, []⟩,
 ⟨(some 6), .copy (.c (.bool false)), none, 16, []⟩])
 (.seq
 (.region 1 false [
 ⟨(some 24), .call (.c (.fn 10 [])) [], none, 8192, []⟩,
 ⟨(some 7), .copy (.t 24), none, 8200, [0]⟩])
 (.seq
 (.region 2 false [
 ⟨(some 25), .load true 2 (.t 3), none, 16384, []⟩,
 ⟨(some 26), .call (.c (.fn 11 [])) [(.t 25)], none, 16392, [0]⟩,
 ⟨(some 8), .alloc [.nils, .nils, (.int .i64 0), .nils], none, 16400, []⟩,
 ⟨none, .store 4 (.t 8) (.t 26), none, 16408, [2, 1, 0]⟩])
 (.seq
 (.seq
 (.region 3 false [
 ⟨(some 9), .copy (.c (.int .i64 0)), none, 24576, []⟩])
 (.block 0
 (.loop
 (.seq
 (.seq
 (.region 4 false [
 ⟨(some 27), .copy (.t 9), none, 32768, []⟩,
 ⟨(some 28), .copy (.t 2), none, 32776, []⟩,
 ⟨(some 29), .len (.t 28), none, 32784, [1]⟩,
 ⟨(some 30), .bin .lss (.t 27) (.t 29), none, 32792, [0, 2, 1]⟩,
 ⟨(some 31), .copy (.t 30), none, 32800, [3, 0, 2, 1]⟩,
 ⟨(some 32), .copy (.t 9), (some (4, 31, true)), 32808, [4, 3, 0, 2, 1]⟩,
 ⟨(some 33), .bin .lss (.t 32) (.c (.int .i64 4)), (some (4, 31, true)), 32816, [5, 4, 3, 0, 2, 1]⟩,
 ⟨(some 34), .pick (.t 31) (.t 33) (.c (.bool false)), none, 32824, [4, 3, 0, 2, 1, 6, 5]⟩])
 (.cond (.t 34)
 .skip
 (.exit 0)))
 (.seq
 (.block 1
 (.seq
 (.region 6 true [
 ⟨(some 38), .load true 4 (.t 8), none, 49152, []⟩,
 ⟨(some 39), .copy (.t 2), none, 49160, []⟩,
 ⟨(some 40), .copy (.t 9), none, 49168, []⟩,
 ⟨(some 41), .iaddr 1 (.t 39) (.t 40), none, 49176, [1, 2]⟩,
 ⟨(some 42), .load false 1 (.t 41), none, 49184, [3, 1, 2]⟩,
 ⟨(some 43), .conv .i64 (.t 42), none, 49192, [4, 3, 1, 2]⟩,
 ⟨(some 44), .call (.c (.fn 12 [])) [(.t 38), (.t 43)], none, 49200, [0, 5, 4, 3, 1, 2]⟩,
 ⟨(some 37), .copy (.t 44), none, 49208, [6, 0, 5, 4, 3, 1, 2]⟩,
 ⟨(some 45), .extract (.t 37) 0, none, 49216, [7, 6, 0, 5, 4, 3, 1, 2]⟩,
 ⟨(some 46), .extract (.t 37) 1, none, 49224, [7, 6, 0, 5, 4, 3, 1, 2]⟩,
 ⟨(some 10), .alloc [.nils, .nils, (.int .i64 0), .nils], none, 49232, []⟩,
 ⟨none, .store 4 (.t 10) (.t 45), none, 49240, [10, 8, 7, 6, 0, 5, 4, 3, 1, 2]⟩,
 ⟨(some 11), .copy (.t 46), none, 49248, [9, 7, 6, 0, 5, 4, 3, 1, 2, 11, 10, 8]⟩])
 (.seq
 (.region 7 true [
 ⟨(some 48), .load true 4 (.t 8), none, 57344, []⟩,
 ⟨(some 49), .copy (.t 2), none, 57352, []⟩,
 ⟨(some 50), .copy (.t 9), none, 57360, []⟩,
 ⟨(some 51), .iaddr 1 (.t 49) (.t 50), none, 57368, [1, 2]⟩,
 ⟨(some 52), .load false 1 (.t 51), none, 57376, [3, 1, 2]⟩,
 ⟨(some 53), .conv .i64 (.t 52), none, 57384, [4, 3, 1, 2]⟩,
 ⟨(some 54), .call (.c (.fn 13 [])) [(.t 48), (.t 53)], none, 57392, [0, 5, 4, 3, 1, 2]⟩,
 ⟨(some 47), .copy (.t 54), none, 57400, [6, 0, 5, 4, 3, 1, 2]⟩,
 ⟨(some 55), .extract (.t 47) 0, none, 57408, [7, 6, 0, 5, 4, 3, 1, 2]⟩,
 ⟨(some 56), .extract (.t 47) 1, none, 57416, [7, 6, 0, 5, 4, 3, 1, 2]⟩,
 ⟨(some 12), .alloc [.nils, .nils, (.int .i64 0), .nils], none, 57424, []⟩,
 ⟨none, .store 4 (.t 12) (.t 55), none, 57432, [10, 8, 7, 6, 0, 5, 4, 3, 1, 2]⟩,
 ⟨(some 13), .copy (.t 56), none, 57440, [9, 7, 6, 0, 5, 4, 3, 1, 2, 11, 10, 8]⟩])
 (.seq
 (.region 8 false [
 ⟨(some 58), .load true 4 (.t 12), none, 65536, []⟩,
 ⟨(some 59), .load true 3 (.t 4), none, 65544, []⟩,
 ⟨(some 60), .call (.c (.fn 14 [])) [(.t 58), (.t 59)], none, 65552, [0, 1]⟩,
 ⟨(some 57), .copy (.t 60), none, 65560, [2, 0, 1]⟩,
 ⟨(some 61), .extract (.t 57) 0, none, 65568, [3, 2, 0, 1]⟩,
 ⟨(some 62), .extract (.t 57) 1, none, 65576, [3, 2, 0, 1]⟩,
 ⟨(some 14), .alloc [.nils, .nils, (.int .i64 0), .nils], none, 65584, []⟩,
 ⟨none, .store 4 (.t 14) (.t 61), none, 65592, [6, 4, 3, 2, 0, 1]⟩,
 ⟨(some 15), .copy (.t 62), none, 65600, [5, 3, 2, 0, 1, 7, 6, 4]⟩])
 (.seq
 (.region 9 false [
 ⟨(some 64), .load true 4 (.t 12), none, 73728, []⟩,
 ⟨(some 65), .load true 3 (.t 4), none, 73736, []⟩,
 ⟨(some 66), .call (.c (.fn 15 [])) [(.t 64), (.t 65)], none, 73744, [0, 1]⟩,
 ⟨(some 63), .copy (.t 66), none, 73752, [2, 0, 1]⟩,
 ⟨(some 67), .extract (.t 63) 0, none, 73760, [3, 2, 0, 1]⟩,
 ⟨(some 68), .extract (.t 63) 1, none, 73768, [3, 2, 0, 1]⟩,
 ⟨(some 16), .alloc [.nils, .nils, (.int .i64 0), .nils], none, 73776, []⟩,
 ⟨none, .store 4 (.t 16) (.t 67), none, 73784, [6, 4, 3, 2, 0, 1]⟩,
 ⟨(some 17), .copy (.t 68), none, 73792, [5, 3, 2, 0, 1, 7, 6, 4]⟩])
 (.seq
 (.seq
 (.region 10 true [
 ⟨(some 69), .load true 4 (.t 10), none, 81920, []⟩,
 ⟨(some 70), .load true 4 (.t 12), none, 81928, []⟩,
 ⟨(some 71), .call (.c (.fn 16 [])) [(.t 69), (.t 70)], none, 81936, [0, 1]⟩,
 ⟨(some 72), .not (.t 71), none, 81944, [2, 0, 1]⟩,
 ⟨(some 73), .copy (.t 72), none, 81952, [3, 2, 0, 1]⟩,
 ⟨(some 74), .copy (.t 11), (some (4, 73, false)), 81960, [4, 3, 2, 0, 1]⟩,
 ⟨(some 75), .copy (.t 13), (some (4, 73, false)), 81968, [4, 3, 2, 0, 1]⟩,
 ⟨(some 76), .call (.c (.fn 17 [])) [(.t 74), (.t 75)], (some (4, 73, false)), 81976, [5, 4, 3, 2, 0, 1, 6]⟩,
 ⟨(some 77), .not (.t 76), (some (4, 73, false)), 81984, [7, 5, 4, 3, 2, 0, 1, 6]⟩,
 ⟨(some 78), .pick (.t 73) (.c (.bool true)) (.t 77), none, 81992, [4, 3, 2, 0, 1, 8, 7, 5, 6]⟩,
 ⟨(some 79), .copy (.t 78), none, 82000, [9, 4, 3, 2, 0, 1, 8, 7, 5, 6]⟩,
 ⟨(some 80), .load true 4 (.t 14), (some (10, 79, false)), 82008, [10, 9, 4, 3, 2, 0, 1, 8, 7, 5, 6]⟩,
 ⟨(some 81), .load true 4 (.t 16), (some (10, 79, false)), 82016, [10, 9, 4, 3, 2, 0, 1, 8, 7, 5, 6]⟩,
 ⟨(some 82), .call (.c (.fn 16 [])) [(.t 80), (.t 81)], (some (10, 79, false)), 82024, [11, 10, 9, 4, 3, 2, 0, 1, 8, 7, 5, 6, 12]⟩,
 ⟨(some 83), .not (.t 82), (some (10, 79, false)), 82032, [13, 11, 10, 9, 4, 3, 2, 0, 1, 8, 7, 5, 6, 12]⟩,
 ⟨(some 84), .pick (.t 79) (.c (.bool true)) (.t 83), none, 82040, [10, 9, 4, 3, 2, 0, 1, 8, 7, 5, 6, 14, 13, 11, 12]⟩,
 ⟨(some 85), .copy (.t 84), none, 82048, [15, 10, 9, 4, 3, 2, 0, 1, 8, 7, 5, 6, 14, 13, 11, 12]⟩,
 ⟨(some 86), .copy (.t 15), (some (16, 85, false)), 82056, [16, 15, 10, 9, 4, 3, 2, 0, 1, 8, 7, 5, 6, 14, 13, 11, 12]⟩,
 ⟨(some 87), .copy (.t 17), (some (16, 85, false)), 82064, [16, 15, 10, 9, 4, 3, 2, 0, 1, 8, 7, 5, 6, 14, 13, 11, 12]⟩,
 ⟨(some 88), .bin .neq (.t 86) (.t 87), (some (16, 85, false)), 82072, [17, 16, 15, 10, 9, 4, 3, 2, 0, 1, 8, 7, 5, 6, 14, 13, 11, 12, 18]⟩,
 ⟨(some 89), .pick (.t 85) (.c (.bool true)) (.t 88), none, 82080, [16, 15, 10, 9, 4, 3, 2, 0, 1, 8, 7, 5, 6, 14, 13, 11, 12, 19, 17, 18]⟩,
 ⟨(some 90), .copy (.t 89), none, 82088, [20, 16, 15, 10, 9, 4, 3, 2, 0, 1, 8, 7, 5, 6, 14, 13, 11, 12, 19, 17, 18]⟩,
 ⟨(some 91), .load true 4 (.t 12), (some (21, 90, false)), 82096, [21, 20, 16, 15, 10, 9, 4, 3, 2, 0, 1, 8, 7, 5, 6, 14, 13, 11, 12, 19, 17, 18]⟩,
 ⟨(some 92), .call (.c (.fn 18 [])) [(.t 91)], (some (21, 90, false)), 82104, [22, 21, 20, 16, 15, 10, 9, 4, 3, 2, 0, 1, 8, 7, 5, 6, 14, 13, 11, 12, 19, 17, 18]⟩,
 ⟨(some 93), .load true 4 (.t 12), (some (21, 90, false)), 82112, [21, 20, 16, 15, 10, 9, 4, 3, 2, 0, 1, 8, 7, 5, 6, 14, 13, 11, 12, 19, 17, 18]⟩,
 ⟨(some 94), .call (.c (.fn 19 [])) [(.t 93)], (some (21, 90, false)), 82120, [24, 21, 20, 16, 15, 10, 9, 4, 3, 2, 0, 1, 8, 7, 5, 6, 14, 13, 11, 12, 19, 17, 18, 23, 22]⟩,
 ⟨(some 95), .bin .eql (.t 94) (.c (.int .i64 0)), (some (21, 90, false)), 82128, [25, 24, 21, 20, 16, 15, 10, 9, 4, 3, 2, 0, 1, 8, 7, 5, 6, 14, 13, 11, 12, 19, 17, 18, 23, 22]⟩,
 ⟨(some 96), .eqb true (.t 92) (.t 95), (some (21, 90, false)), 82136, [23, 22, 21, 20, 16, 15, 10, 9, 4, 3, 2, 0, 1, 8, 7, 5, 6, 14, 13, 11, 12, 19, 17, 18, 26, 25, 24]⟩,
 ⟨(some 97), .pick (.t 90) (.c (.bool true)) (.t 96), none, 82144, [21, 20, 16, 15, 10, 9, 4, 3, 2, 0, 1, 8, 7, 5, 6, 14, 13, 11, 12, 19, 17, 18, 27, 23, 22, 26, 25, 24]⟩])
 (.cond (.t 97)
 (.seq
 (.region 11 false [
 ⟨(some 6), .copy (.c (.bool false)), none, 90112, []⟩])
 .ret)
 .skip))
 (.region 12 false [
 ⟨(some 98), .load true 4 (.t 16), none, 98304, []⟩,
 ⟨none, .store 4 (.t 8) (.t 98), none, 98312, [0]⟩])))))))
 (.region 5 false [
 ⟨(some 35), .copy (.t 9), none, 40960, []⟩,
 ⟨(some 36), .bin .add (.t 35) (.c (.int .i64 1)), none, 40968, [0]⟩,
 ⟨(some 9), .copy (.t 36), none, 40976, [1, 0]⟩]))))))
 (.seq
 (.region 13 false [
 ⟨(some 99), .bslice 1 [(.int .i64 0)] 0 [], none, 106496, []⟩,
 ⟨(some 18), .copy (.t 99), none, 106504, [0]⟩])
 (.seq
 (.seq
 (.region 14 false [
 ⟨(some 19), .copy (.c (.int .i64 0)), none, 114688, []⟩])
 (.block 2
 (.loop
 (.seq
 (.seq
 (.region 15 false [
 ⟨(some 100), .copy (.t 19), none, 122880, []⟩,
 ⟨(some 101), .copy (.t 2), none, 122888, []⟩,
 ⟨(some 102), .len (.t 101), none, 122896, [1]⟩,
 ⟨(some 103), .bin .lss (.t 100) (.t 102), none, 122904, [0, 2, 1]⟩,
 ⟨(some 104), .copy (.t 103), none, 122912, [3, 0, 2, 1]⟩,
 ⟨(some 105), .copy (.t 19), (some (4, 104, true)), 122920, [4, 3, 0, 2, 1]⟩,
 ⟨(some 106), .bin .lss (.t 105) (.c (.int .i64 10)), (some (4, 104, true)), 122928, [5, 4, 3, 0, 2, 1]⟩,
 ⟨(some 107), .pick (.t 104) (.t 106) (.c (.bool false)), none, 122936, [4, 3, 0, 2, 1, 6, 5]⟩])
 (.cond (.t 107)
 .skip
 (.exit 2)))
 (.seq
 (.block 3
 (.region 17 false [
 ⟨(some 110), .copy (.t 18), none, 139264, []⟩,
 ⟨(some 111), .copy (.t 2), none, 139272, []⟩,
 ⟨(some 112), .copy (.t 19), none, 139280, []⟩,
 ⟨(some 113), .iaddr 1 (.t 111) (.t 112), none, 139288, [1, 2]⟩,
 ⟨(some 114), .load false 1 (.t 113), none, 139296, [3, 1, 2]⟩,
 ⟨(some 115), .conv .i64 (.t 114), none, 139304, [4, 3, 1, 2]⟩,
 ⟨(some 116), .bslice 1 [(.int .i64 0)] 1 [(0, (.t 115))], none, 139312, [5, 4, 3, 1, 2]⟩,
 ⟨(some 117), .append 1 8 [(.int .i64 0)] (.t 110) (.t 116), none, 139320, [0, 6, 5, 4, 3, 1, 2]⟩,
 ⟨(some 18), .copy (.t 117), none, 139328, [7, 0, 6, 5, 4, 3, 1, 2]⟩]))
 (.region 16 false [
 ⟨(some 108), .copy (.t 19), none, 131072, []⟩,
 ⟨(some 109), .bin .add (.t 108) (.c (.int .i64 1)), none, 131080, [0]⟩,
 ⟨(some 19), .copy (.t 109), none, 131088, [1, 0]⟩]))))))
 (.seq
 (.region 18 false [
 ⟨(some 119), .copy (.t 18), none, 147456, []⟩,
 ⟨(some 120), .call (.c (.fn 20 [])) [(.t 119)], none, 147464, [0]⟩,
 ⟨(some 118), .copy (.t 120), none, 147472, [1, 0]⟩,
 ⟨(some 121), .extract (.t 118) 0, none, 147480, [2, 1, 0]⟩,
 ⟨(some 122), .extract (.t 118) 1, none, 147488, [2, 1, 0]⟩,
 ⟨(some 20), .alloc [.nils, .nils, (.int .i64 0), .nils], none, 147496, []⟩,
 ⟨none, .store 4 (.t 20) (.t 121), none, 147504, [5, 3, 2, 1, 0]⟩,
 ⟨(some 21), .copy (.t 122), none, 147512, [4, 2, 1, 0, 6, 5, 3]⟩])
 (.seq
 (.region 19 false [
 ⟨(some 124), .copy (.t 18), none, 155648, []⟩,
 ⟨(some 125), .call (.c (.fn 21 [])) [(.t 124)], none, 155656, [0]⟩,
 ⟨(some 123), .copy (.t 125), none, 155664, [1, 0]⟩,
 ⟨(some 126), .extract (.t 123) 0, none, 155672, [2, 1, 0]⟩,
 ⟨(some 127), .extract (.t 123) 1, none, 155680, [2, 1, 0]⟩,
 ⟨(some 22), .alloc [.nils, .nils, (.int .i64 0), .nils], none, 155688, []⟩,
 ⟨none, .store 4 (.t 22) (.t 126), none, 155696, [5, 3, 2, 1, 0]⟩,
 ⟨(some 23), .copy (.t 127), none, 155704, [4, 2, 1, 0, 6, 5, 3]⟩])
 (.seq
 (.region 20 false [
 ⟨(some 128), .load true 4 (.t 20), none, 163840, []⟩,
 ⟨(some 129), .load true 4 (.t 22), none, 163848, []⟩,
 ⟨(some 130), .call (.c (.fn 16 [])) [(.t 128), (.t 129)], none, 163856, [0, 1]⟩,
 ⟨(some 131), .copy (.t 130), none, 163864, [2, 0, 1]⟩,
 ⟨(some 132), .copy (.t 21), (some (3, 131, true)), 163872, [3, 2, 0, 1]⟩,
 ⟨(some 133), .copy (.t 23), (some (3, 131, true)), 163880, [3, 2, 0, 1]⟩,
 ⟨(some 134), .bin .eql (.t 132) (.t 133), (some (3, 131, true)), 163888, [4, 3, 2, 0, 1, 5]⟩,
 ⟨(some 135), .pick (.t 131) (.t 134) (.c (.bool false)), none, 163896, [3, 2, 0, 1, 6, 4, 5]⟩,
 ⟨(some 136), .copy (.t 135), none, 163904, [7, 3, 2, 0, 1, 6, 4, 5]⟩,
 ⟨(some 137), .copy (.t 7), (some (8, 136, true)), 163912, [8, 7, 3, 2, 0, 1, 6, 4, 5]⟩,
 ⟨(some 138), .pick (.t 136) (.t 137) (.c (.bool false)), none, 163920, [8, 7, 3, 2, 0, 1, 6, 4, 5, 9]⟩,
 ⟨(some 6), .copy (.t 138), none, 163928, [10, 8, 7, 3, 2, 0, 1, 6, 4, 5, 9]⟩])
 .ret)))))))))
theorem vf3 : VF Try.prog 3 = some (139, vc3, [.tmp 6]) := by kernel_rfl
theorem newR_small (w : List Int) (h : w.length ≤ 1000000) : Small (newR w).1 := by
  unfold newR
  split
  · exact emptyL_small
  · refine ⟨h, by simp [newL]; exact h, by simp [newL]; exact h, fun l hl => ?_⟩
    simp only [newL] at hl
    rw [List.eq_of_mem_replicate hl]
    simp
set_option maxHeartbeats 8000000 in
theorem matches_law_vc {x : RawL} (hx : RawOk x) (j : JobL) {w : List Int} (hwk : HOk w) : VC Try.prog 3 [.agg (encRaw x), .agg (encJ j), .sh false (w.map encH)] [] (.bool true) [] := by
  have hw0 := madeL_wf x
  have hm := made_vc hx
  generalize madeL x = s0 at hw0 hm
  have hwl : (w.map encH).length = w.length := by simp
  refine vc_of vf3 ?_ (Nat.le_of_ble_eq_true rfl) (by intro vs h; cases h)
  refine ct_seq (rg ?_)
  repeat first | refine o_copy ?_ | refine o_loads ?_ | refine o_loadp ?_ | refine o_iaddr ?_ | refine o_iaddrO ?_ | refine o_iaddrR ?_ | refine o_add ?_ | refine o_cat ?_ | refine o_bin ?_ | refine o_lenq ?_ | refine o_len ?_ | refine o_loadsA ?_ | refine o_loadpA ?_ | refine o_box ?_ | refine o_alloc ?_ | refine o_bslice ?_ | refine o_store ?_ | refine o_not ?_ | refine o_pickt ?_ | refine o_pickf ?_ | refine o_extract ?_ | refine o_eqb ?_ | refine skF ?_ | refine skU ?_
  refine nl (ct_seq (rg ?_))
  repeat first | refine o_copy ?_ | refine cv0 sanity_vc ?_ | refine o_loads ?_ | refine o_loadp ?_ | refine o_iaddr ?_ | refine o_iaddrO ?_ | refine o_iaddrR ?_ | refine o_add ?_ | refine o_cat ?_ | refine o_bin ?_ | refine o_lenq ?_ | refine o_len ?_ | refine o_loadsA ?_ | refine o_loadpA ?_ | refine o_box ?_ | refine o_alloc ?_ | refine o_bslice ?_ | refine o_store ?_ | refine o_not ?_ | refine o_pickt ?_ | refine o_pickf ?_ | refine o_extract ?_ | refine o_eqb ?_ | refine skF ?_ | refine skU ?_
  refine nl (ct_seq (rg ?_))
  repeat first | refine o_copy ?_ | refine cf hm ?_ | refine o_loads ?_ | refine o_loadp ?_ | refine o_iaddr ?_ | refine o_iaddrO ?_ | refine o_iaddrR ?_ | refine o_add ?_ | refine o_cat ?_ | refine o_bin ?_ | refine o_lenq ?_ | refine o_len ?_ | refine o_loadsA ?_ | refine o_loadpA ?_ | refine o_box ?_ | refine o_alloc ?_ | refine o_bslice ?_ | refine o_store ?_ | refine o_not ?_ | refine o_pickt ?_ | refine o_pickf ?_ | refine o_extract ?_ | refine o_eqb ?_ | refine skF ?_ | refine skU ?_
  refine nl ?_
  refine ct_mid (lvl := 1) (fun (_ : Unit) => [(2, .sh false (w.map encH)), (7, .bool true)]) (fun _ => []) (fun _ => True) ?_ ?_
  · repeat first | refine o_copy ?_ | refine nl ?_ | refine ct_seq ?_ | refine rg ?_ | refine ct_block ?_ | refine bq ?_ | refine o_loads ?_ | refine o_loadp ?_ | refine o_iaddr ?_ | refine o_iaddrO ?_ | refine o_iaddrR ?_ | refine o_add ?_ | refine o_cat ?_ | refine o_bin ?_ | refine o_lenq ?_ | refine o_len ?_ | refine o_loadsA ?_ | refine o_loadpA ?_ | refine o_box ?_ | refine o_alloc ?_ | refine o_bslice ?_ | refine o_store ?_ | refine o_not ?_ | refine o_pickt ?_ | refine o_pickf ?_ | refine o_extract ?_ | refine o_eqb ?_ | refine skF ?_ | refine skU ?_
    refine ct_loopG (fun (g : Nat × SchL) => [(2, .sh false (w.map encH)), (4, .ptr ⟨1, 8⟩ 1 0 0), (7, .bool true), (8, .ptr ⟨1, 16400⟩ 1 0 0), (9, .int .i64 g.1)]) (fun g => [(⟨1, 8⟩, ⟨true, false, 3, [encJ j]⟩), (⟨1, 16400⟩, ⟨true, false, 4, [encSc g.2]⟩)]) (fun g => 4 - g.1)
      (fun g => g.1 ≤ 4 ∧ g.1 ≤ w.length ∧ WF g.2) (0, s0) goesD ⟨by omega, Nat.zero_le _, hw0⟩ ?_
    rintro ⟨i, s⟩ ⟨hi, hiw, hw⟩
    dsimp only at hi hiw hw ⊢
    by_cases h1 : i < w.length
    · have g1 : decide ((i : Int) < ((w.map encH).length : Int)) = true := by rw [hwl]; simpa using h1
      by_cases h2 : i < 4
      · have g2 : decide ((i : Int) < 4) = true := by simp; omega
        obtain ⟨b, hb⟩ : ∃ b, w[i]? = some b := ⟨_, List.getElem?_eq_getElem h1⟩
        have hbe := gm (enc := encH) (n := (i : Int)) hb (by omega)
        have hbb := hwk.1 b (List.mem_of_getElem? hb)
        have c1 : IntKind.i64.wrap b = b := wrap64 (by omega) (by omega)
        obtain ⟨s', l, hr⟩ := runs_total hw b
        have hrun := run_vc hw hr (by omega) (by omega)
        have hrrun := rrun_vc hw hr (by omega) (by omega)
        obtain ⟨k', hg', _, _⟩ := hr.goes hw
        have hw' := hr.wf hw
        have hwl2 := hg'.wait.1
        have hwt := hw.wt
        have hadd := add_vc hw' j
        have hradd := radd_vc hw' j
        have hwa := addR_wf hw' j
        generalize addR s' j = r at hadd hradd hwa
        obtain ⟨a, e⟩ := r
        dsimp only at hadd hradd hwa
        have q1 := same_vc (WF.small hw') (WF.small hw')
        have q2 := same_jobs_vc (a := l) (b := l) (by omega) (by omega)
        have q3 := same_vc (WF.small hwa) (WF.small hwa)
        have q4 := idle_vc (wait_ok hw').1 (wait_ok hw').2
        have q5 := rwaiting_vc (wait_ok hw').1 (wait_ok hw').2
        have z1 : (!decide (s' = s')) = false := by simp
        have z2 : (!decide (l = l)) = false := by simp
        have z3 : (!decide (a = a)) = false := by simp
        have z4 : (e != e) = false := by simp
        have z5 : (!(decide (waitL s'.q = 0) == ((waitL s'.q : Int) == 0))) = false := by
          by_cases h : waitL s'.q = 0 <;> simp [h]
        repeat first | refine o_copy ?_ | refine nl ?_ | refine ct_seq ?_ | refine rg ?_ | refine ct_block ?_ | refine bq ?_ | refine o_loads ?_ | refine o_loadp ?_ | refine o_iaddr ?_ | refine o_iaddrO ?_ | refine o_iaddrR ?_ | refine o_add ?_ | refine o_cat ?_ | refine o_bin ?_ | refine o_lenq ?_ | refine o_len ?_ | refine o_loadsA ?_ | refine o_loadpA ?_ | refine o_box ?_ | refine o_alloc ?_ | refine o_bslice ?_ | refine o_store ?_ | refine o_not ?_ | refine o_pickt ?_ | refine o_pickf ?_ | refine o_extract ?_ | refine o_eqb ?_ | refine skF ?_ | refine skU ?_
        refine cndt (ct_skip ?_)
        repeat first | refine o_copy ?_ | refine nl ?_ | refine ct_seq ?_ | refine rg ?_ | refine ct_block ?_ | refine bq ?_ | refine o_convE ?_ | refine cf hrun ?_ | refine cf hrrun ?_ | refine cf hadd ?_ | refine cf hradd ?_ | refine cv0 q1 ?_ | refine cv0 q2 ?_ | refine cv0 q3 ?_ | refine cv0 q4 ?_ | refine cv0 q5 ?_ | refine o_loads ?_ | refine o_loadp ?_ | refine o_iaddr ?_ | refine o_iaddrO ?_ | refine o_iaddrR ?_ | refine o_add ?_ | refine o_cat ?_ | refine o_bin ?_ | refine o_lenq ?_ | refine o_len ?_ | refine o_loadsA ?_ | refine o_loadpA ?_ | refine o_box ?_ | refine o_alloc ?_ | refine o_bslice ?_ | refine o_store ?_ | refine o_not ?_ | refine o_pickt ?_ | refine o_pickf ?_ | refine o_extract ?_ | refine o_eqb ?_ | refine skF ?_ | refine skU ?_
        refine cndf (ct_skip ?_)
        repeat first | refine o_copy ?_ | refine nl ?_ | refine ct_seq ?_ | refine rg ?_ | refine ct_block ?_ | refine bq ?_ | refine o_loads ?_ | refine o_loadp ?_ | refine o_iaddr ?_ | refine o_iaddrO ?_ | refine o_iaddrR ?_ | refine o_add ?_ | refine o_cat ?_ | refine o_bin ?_ | refine o_lenq ?_ | refine o_len ?_ | refine o_loadsA ?_ | refine o_loadpA ?_ | refine o_box ?_ | refine o_alloc ?_ | refine o_bslice ?_ | refine o_store ?_ | refine o_not ?_ | refine o_pickt ?_ | refine o_pickf ?_ | refine o_extract ?_ | refine o_eqb ?_ | refine skF ?_ | refine skU ?_
        exact agn (i + 1, a) ⟨(by simp only; omega), (by simp only; omega), hwa⟩ goesD
      · have g2 : decide ((i : Int) < 4) = false := by simp; omega
        repeat first | refine o_copy ?_ | refine nl ?_ | refine ct_seq ?_ | refine rg ?_ | refine ct_block ?_ | refine bq ?_ | refine o_loads ?_ | refine o_loadp ?_ | refine o_iaddr ?_ | refine o_iaddrO ?_ | refine o_iaddrR ?_ | refine o_add ?_ | refine o_cat ?_ | refine o_bin ?_ | refine o_lenq ?_ | refine o_len ?_ | refine o_loadsA ?_ | refine o_loadpA ?_ | refine o_box ?_ | refine o_alloc ?_ | refine o_bslice ?_ | refine o_store ?_ | refine o_not ?_ | refine o_pickt ?_ | refine o_pickf ?_ | refine o_extract ?_ | refine o_eqb ?_ | refine skF ?_ | refine skU ?_
        refine cndf (ct_exit ?_)
        exact mid0 () trivial goesD
    · have g1 : decide ((i : Int) < ((w.map encH).length : Int)) = false := by rw [hwl]; simp; omega
      repeat first | refine o_copy ?_ | refine nl ?_ | refine ct_seq ?_ | refine rg ?_ | refine ct_block ?_ | refine bq ?_ | refine o_loads ?_ | refine o_loadp ?_ | refine o_iaddr ?_ | refine o_iaddrO ?_ | refine o_iaddrR ?_ | refine o_add ?_ | refine o_cat ?_ | refine o_bin ?_ | refine o_lenq ?_ | refine o_len ?_ | refine o_loadsA ?_ | refine o_loadpA ?_ | refine o_box ?_ | refine o_alloc ?_ | refine o_bslice ?_ | refine o_store ?_ | refine o_not ?_ | refine o_pickt ?_ | refine o_pickf ?_ | refine o_extract ?_ | refine o_eqb ?_ | refine skF ?_ | refine skU ?_
      refine cndf (ct_exit ?_)
      exact mid0 () trivial goesD
  rintro ⟨⟩ _
  repeat first | refine o_copy ?_ | refine nl ?_ | refine ct_seq ?_ | refine rg ?_ | refine ct_block ?_ | refine bq ?_ | refine o_loads ?_ | refine o_loadp ?_ | refine o_iaddr ?_ | refine o_iaddrO ?_ | refine o_iaddrR ?_ | refine o_add ?_ | refine o_cat ?_ | refine o_bin ?_ | refine o_lenq ?_ | refine o_len ?_ | refine o_loadsA ?_ | refine o_loadpA ?_ | refine o_box ?_ | refine o_alloc ?_ | refine o_bslice ?_ | refine o_store ?_ | refine o_not ?_ | refine o_pickt ?_ | refine o_pickf ?_ | refine o_extract ?_ | refine o_eqb ?_ | refine skF ?_ | refine skU ?_
  refine ct_loopG (fun (g : Nat) => [(2, .sh false (w.map encH)), (7, .bool true), (18, ownV ⟨1, 106496⟩ ((w.take g).map encI)), (19, .int .i64 g)]) (fun g => [(⟨1, 106496⟩, blkV 1 ((w.take g).map encI))]) (fun g => 10 - g)
    (fun g => g ≤ 10 ∧ g ≤ w.length) 0 goesD ⟨by omega, Nat.zero_le _⟩ ?_
  rintro i ⟨hi, hiw⟩
  have tl : (w.take i).length = i := by simp; omega
  have hn1 := new_vc (w := w.take i) (by omega)
  have hn2 := rnew_vc (w := w.take i) (by omega)
  have hsm := newR_small (w.take i) (by omega)
  generalize hq : newR (w.take i) = q at hn1 hn2 hsm
  have q1 := same_vc hsm hsm
  have z1 : decide (q.1 = q.1) = true := by simp
  have z2 : (q.2 == q.2) = true := by simp
  by_cases h1 : i < w.length
  · have g1 : decide ((i : Int) < ((w.map encH).length : Int)) = true := by rw [hwl]; simpa using h1
    by_cases h2 : i < 10
    · have g2 : decide ((i : Int) < 10) = true := by simp; omega
      obtain ⟨b, hb⟩ : ∃ b, w[i]? = some b := ⟨_, List.getElem?_eq_getElem h1⟩
      have hbe := gm (enc := encH) (n := (i : Int)) hb (by omega)
      have hbb := hwk.1 b (List.mem_of_getElem? hb)
      have c1 : IntKind.i64.wrap b = b := wrap64 (by omega) (by omega)
      repeat first | refine o_copy ?_ | refine nl ?_ | refine ct_seq ?_ | refine rg ?_ | refine ct_block ?_ | refine bq ?_ | refine o_loads ?_ | refine o_loadp ?_ | refine o_iaddr ?_ | refine o_iaddrO ?_ | refine o_iaddrR ?_ | refine o_add ?_ | refine o_cat ?_ | refine o_bin ?_ | refine o_lenq ?_ | refine o_len ?_ | refine o_loadsA ?_ | refine o_loadpA ?_ | refine o_box ?_ | refine o_alloc ?_ | refine o_bslice ?_ | refine o_store ?_ | refine o_not ?_ | refine o_pickt ?_ | refine o_pickf ?_ | refine o_extract ?_ | refine o_eqb ?_ | refine skF ?_ | refine skU ?_
      refine cndt (ct_skip ?_)
      repeat first | refine o_copy ?_ | refine nl ?_ | refine ct_seq ?_ | refine rg ?_ | refine ct_block ?_ | refine bq ?_ | refine o_convE ?_ | refine o_v (vap encI b) ?_ | refine o_loads ?_ | refine o_loadp ?_ | refine o_iaddr ?_ | refine o_iaddrO ?_ | refine o_iaddrR ?_ | refine o_add ?_ | refine o_cat ?_ | refine o_bin ?_ | refine o_lenq ?_ | refine o_len ?_ | refine o_loadsA ?_ | refine o_loadpA ?_ | refine o_box ?_ | refine o_alloc ?_ | refine o_bslice ?_ | refine o_store ?_ | refine o_not ?_ | refine o_pickt ?_ | refine o_pickf ?_ | refine o_extract ?_ | refine o_eqb ?_ | refine skF ?_ | refine skU ?_
      refine agn (i + 1) ⟨by omega, by omega⟩ ?_
      show Imp _ ⟨_, [(2, _), (7, _), (18, ownV ⟨1, 106496⟩ ((w.take (i + 1)).map encI)), (19, _)], [(⟨1, 106496⟩, blkV 1 ((w.take (i + 1)).map encI))]⟩
      rw [show w.take (i + 1) = w.take i ++ [b] from by rw [List.take_add_one, hb]; rfl]
      exact goesD
    · have g2 : decide ((i : Int) < 10) = false := by simp; omega
      repeat first | refine o_copy ?_ | refine nl ?_ | refine ct_seq ?_ | refine rg ?_ | refine ct_block ?_ | refine bq ?_ | refine o_loads ?_ | refine o_loadp ?_ | refine o_iaddr ?_ | refine o_iaddrO ?_ | refine o_iaddrR ?_ | refine o_add ?_ | refine o_cat ?_ | refine o_bin ?_ | refine o_lenq ?_ | refine o_len ?_ | refine o_loadsA ?_ | refine o_loadpA ?_ | refine o_box ?_ | refine o_alloc ?_ | refine o_bslice ?_ | refine o_store ?_ | refine o_not ?_ | refine o_pickt ?_ | refine o_pickf ?_ | refine o_extract ?_ | refine o_eqb ?_ | refine skF ?_ | refine skU ?_
      refine cndf (ct_exit ?_)
      repeat first | refine o_copy ?_ | refine nl ?_ | refine ct_seq ?_ | refine rg ?_ | refine ct_block ?_ | refine bq ?_ | refine cf hn1 ?_ | refine cf hn2 ?_ | refine cv0 q1 ?_ | refine o_loads ?_ | refine o_loadp ?_ | refine o_iaddr ?_ | refine o_iaddrO ?_ | refine o_iaddrR ?_ | refine o_add ?_ | refine o_cat ?_ | refine o_bin ?_ | refine o_lenq ?_ | refine o_len ?_ | refine o_loadsA ?_ | refine o_loadpA ?_ | refine o_box ?_ | refine o_alloc ?_ | refine o_bslice ?_ | refine o_store ?_ | refine o_not ?_ | refine o_pickt ?_ | refine o_pickf ?_ | refine o_extract ?_ | refine o_eqb ?_ | refine skF ?_ | refine skU ?_
      exact ct_ret ⟨.inr rfl, oB rfl⟩
  · have g1 : decide ((i : Int) < ((w.map encH).length : Int)) = false := by rw [hwl]; simp; omega
    repeat first | refine o_copy ?_ | refine nl ?_ | refine ct_seq ?_ | refine rg ?_ | refine ct_block ?_ | refine bq ?_ | refine o_loads ?_ | refine o_loadp ?_ | refine o_iaddr ?_ | refine o_iaddrO ?_ | refine o_iaddrR ?_ | refine o_add ?_ | refine o_cat ?_ | refine o_bin ?_ | refine o_lenq ?_ | refine o_len ?_ | refine o_loadsA ?_ | refine o_loadpA ?_ | refine o_box ?_ | refine o_alloc ?_ | refine o_bslice ?_ | refine o_store ?_ | refine o_not ?_ | refine o_pickt ?_ | refine o_pickf ?_ | refine o_extract ?_ | refine o_eqb ?_ | refine skF ?_ | refine skU ?_
    refine cndf (ct_exit ?_)
    repeat first | refine o_copy ?_ | refine nl ?_ | refine ct_seq ?_ | refine rg ?_ | refine ct_block ?_ | refine bq ?_ | refine cf hn1 ?_ | refine cf hn2 ?_ | refine cv0 q1 ?_ | refine o_loads ?_ | refine o_loadp ?_ | refine o_iaddr ?_ | refine o_iaddrO ?_ | refine o_iaddrR ?_ | refine o_add ?_ | refine o_cat ?_ | refine o_bin ?_ | refine o_lenq ?_ | refine o_len ?_ | refine o_loadsA ?_ | refine o_loadpA ?_ | refine o_box ?_ | refine o_alloc ?_ | refine o_bslice ?_ | refine o_store ?_ | refine o_not ?_ | refine o_pickt ?_ | refine o_pickf ?_ | refine o_extract ?_ | refine o_eqb ?_ | refine skF ?_ | refine skU ?_
    exact ct_ret ⟨.inr rfl, oB rfl⟩
end Go.Proofs
open Go.V Go.Pu
set_option linter.unusedVariables false
set_option linter.unusedSimpArgs false
set_option maxRecDepth 20000
namespace Go.Proofs
/-- downspout/downspoutlaw31.SchedFair -/
def vc8 : VCode :=
 (.seq
 (.region 0 false [
 ⟨(some 2), .box (.t 0), none, 0, []⟩,
 ⟨(some 4), .copy (.c (.bool false)), none, 8, []⟩])
 (.seq
 (.region 1 false [
 ⟨(some 16), .call (.c (.fn 10 [])) [], none, 8192, []⟩,
 ⟨(some 5), .copy (.t 16), none, 8200, [0]⟩])
 (.seq
 (.region 2 false [
 ⟨(some 17), .load true 2 (.t 2), none, 16384, []⟩,
 ⟨(some 18), .call (.c (.fn 11 [])) [(.t 17)], none, 16392, [0]⟩,
 ⟨(some 6), .alloc [.nils, .nils, (.int .i64 0), .nils], none, 16400, []⟩,
 ⟨none, .store 4 (.t 6) (.t 18), none, 16408, [2, 1, 0]⟩])
 (.seq
 (.region 3 false [
 ⟨(some 19), .load true 4 (.t 6), none, 24576, []⟩,
 ⟨(some 20), .bslice 3 [(.int .i64 0), (.int .i64 0), (.int .i64 0)] 0 [], none, 24584, []⟩,
 ⟨(some 7), .alloc [.nils, .nils, (.int .i64 0), .nils], none, 24592, []⟩,
 ⟨none, .store 4 (.t 7) (.t 19), none, 24600, [2, 0]⟩,
 ⟨(some 8), .copy (.t 20), none, 24608, [1, 3, 2, 0]⟩])
 (.seq
 (.seq
 (.region 4 false [
 ⟨(some 9), .copy (.c (.int .i64 0)), none, 32768, []⟩])
 (.block 0
 (.loop
 (.seq
 (.seq
 (.region 5 false [
 ⟨(some 21), .copy (.t 9), none, 40960, []⟩,
 ⟨(some 22), .copy (.t 1), none, 40968, []⟩,
 ⟨(some 23), .len (.t 22), none, 40976, [1]⟩,
 ⟨(some 24), .bin .lss (.t 21) (.t 23), none, 40984, [0, 2, 1]⟩,
 ⟨(some 25), .copy (.t 24), none, 40992, [3, 0, 2, 1]⟩,
 ⟨(some 26), .copy (.t 9), (some (4, 25, true)), 41000, [4, 3, 0, 2, 1]⟩,
 ⟨(some 27), .bin .lss (.t 26) (.c (.int .i64 6)), (some (4, 25, true)), 41008, [5, 4, 3, 0, 2, 1]⟩,
 ⟨(some 28), .pick (.t 25) (.t 27) (.c (.bool false)), none, 41016, [4, 3, 0, 2, 1, 6, 5]⟩])
 (.cond (.t 28)
 .skip
 (.exit 0)))
 (.seq
 (.block 1
 (.seq
 (.region 7 true [
 ⟨(some 32), .load true 4 (.t 7), none, 57344, []⟩,
 ⟨(some 33), .copy (.t 1), none, 57352, []⟩,
 ⟨(some 34), .copy (.t 9), none, 57360, []⟩,
 ⟨(some 35), .iaddr 1 (.t 33) (.t 34), none, 57368, [1, 2]⟩,
 ⟨(some 36), .load false 1 (.t 35), none, 57376, [3, 1, 2]⟩,
 ⟨(some 37), .conv .i64 (.t 36), none, 57384, [4, 3, 1, 2]⟩,
 ⟨(some 38), .call (.c (.fn 12 [])) [(.t 32), (.t 37)], none, 57392, [0, 5, 4, 3, 1, 2]⟩,
 ⟨(some 31), .copy (.t 38), none, 57400, [6, 0, 5, 4, 3, 1, 2]⟩,
 ⟨(some 39), .extract (.t 31) 0, none, 57408, [7, 6, 0, 5, 4, 3, 1, 2]⟩,
 ⟨(some 40), .extract (.t 31) 1, none, 57416, [7, 6, 0, 5, 4, 3, 1, 2]⟩,
 ⟨(some 10), .alloc [.nils, .nils, (.int .i64 0), .nils], none, 57424, []⟩,
 ⟨none, .store 4 (.t 10) (.t 39), none, 57432, [10, 8, 7, 6, 0, 5, 4, 3, 1, 2]⟩,
 ⟨(some 11), .copy (.t 40), none, 57440, [9, 7, 6, 0, 5, 4, 3, 1, 2, 11, 10, 8]⟩])
 (.seq
 (.seq
 (.region 8 false [
 ⟨(some 41), .faddr 3 (.t 10), none, 65536, []⟩,
 ⟨(some 42), .load false 1 (.t 41), none, 65544, [0]⟩,
 ⟨(some 43), .len (.t 42), none, 65552, [1, 0]⟩,
 ⟨(some 44), .faddr 3 (.t 6), none, 65560, []⟩,
 ⟨(some 45), .load false 1 (.t 44), none, 65568, [3]⟩,
 ⟨(some 46), .len (.t 45), none, 65576, [4, 3]⟩,
 ⟨(some 47), .bin .neq (.t 43) (.t 46), none, 65584, [2, 1, 0, 5, 4, 3]⟩,
 ⟨(some 48), .copy (.t 47), none, 65592, [6, 2, 1, 0, 5, 4, 3]⟩,
 ⟨(some 49), .faddr 0 (.t 10), (some (7, 48, false)), 65600, [7, 6, 2, 1, 0, 5, 4, 3]⟩,
 ⟨(some 50), .load false 1 (.t 49), (some (7, 48, false)), 65608, [8, 7, 6, 2, 1, 0, 5, 4, 3]⟩,
 ⟨(some 51), .len (.t 50), (some (7, 48, false)), 65616, [9, 8, 7, 6, 2, 1, 0, 5, 4, 3]⟩,
 ⟨(some 52), .faddr 0 (.t 6), (some (7, 48, false)), 65624, [7, 6, 2, 1, 0, 5, 4, 3]⟩,
 ⟨(some 53), .load false 1 (.t 52), (some (7, 48, false)), 65632, [11, 7, 6, 2, 1, 0, 5, 4, 3]⟩,
 ⟨(some 54), .len (.t 53), (some (7, 48, false)), 65640, [12, 11, 7, 6, 2, 1, 0, 5, 4, 3]⟩,
 ⟨(some 55), .bin .neq (.t 51) (.t 54), (some (7, 48, false)), 65648, [10, 9, 8, 7, 6, 2, 1, 0, 5, 4, 3, 13, 12, 11]⟩,
 ⟨(some 56), .pick (.t 48) (.c (.bool true)) (.t 55), none, 65656, [7, 6, 2, 1, 0, 5, 4, 3, 14, 10, 9, 8, 13, 12, 11]⟩,
 ⟨(some 57), .copy (.t 56), none, 65664, [15, 7, 6, 2, 1, 0, 5, 4, 3, 14, 10, 9, 8, 13, 12, 11]⟩,
 ⟨(some 58), .faddr 1 (.t 10), (some (16, 57, false)), 65672, [16, 15, 7, 6, 2, 1, 0, 5, 4, 3, 14, 10, 9, 8, 13, 12, 11]⟩,
 ⟨(some 59), .load false 1 (.t 58), (some (16, 57, false)), 65680, [17, 16, 15, 7, 6, 2, 1, 0, 5, 4, 3, 14, 10, 9, 8, 13, 12, 11]⟩,
 ⟨(some 60), .len (.t 59), (some (16, 57, false)), 65688, [18, 17, 16, 15, 7, 6, 2, 1, 0, 5, 4, 3, 14, 10, 9, 8, 13, 12, 11]⟩,
 ⟨(some 61), .faddr 1 (.t 6), (some (16, 57, false)), 65696, [16, 15, 7, 6, 2, 1, 0, 5, 4, 3, 14, 10, 9, 8, 13, 12, 11]⟩,
 ⟨(some 62), .load false 1 (.t 61), (some (16, 57, false)), 65704, [20, 16, 15, 7, 6, 2, 1, 0, 5, 4, 3, 14, 10, 9, 8, 13, 12, 11]⟩,
 ⟨(some 63), .len (.t 62), (some (16, 57, false)), 65712, [21, 20, 16, 15, 7, 6, 2, 1, 0, 5, 4, 3, 14, 10, 9, 8, 13, 12, 11]⟩,
 ⟨(some 64), .bin .neq (.t 60) (.t 63), (some (16, 57, false)), 65720, [19, 18, 17, 16, 15, 7, 6, 2, 1, 0, 5, 4, 3, 14, 10, 9, 8, 13, 12, 11, 22, 21, 20]⟩,
 ⟨(some 65), .pick (.t 57) (.c (.bool true)) (.t 64), none, 65728, [16, 15, 7, 6, 2, 1, 0, 5, 4, 3, 14, 10, 9, 8, 13, 12, 11, 23, 19, 18, 17, 22, 21, 20]⟩,
 ⟨(some 66), .copy (.t 65), none, 65736, [24, 16, 15, 7, 6, 2, 1, 0, 5, 4, 3, 14, 10, 9, 8, 13, 12, 11, 23, 19, 18, 17, 22, 21, 20]⟩,
 ⟨(some 67), .faddr 2 (.t 10), (some (25, 66, false)), 65744, [25, 24, 16, 15, 7, 6, 2, 1, 0, 5, 4, 3, 14, 10, 9, 8, 13, 12, 11, 23, 19, 18, 17, 22, 21, 20]⟩,
 ⟨(some 68), .load false 1 (.t 67), (some (25, 66, false)), 65752, [26, 25, 24, 16, 15, 7, 6, 2, 1, 0, 5, 4, 3, 14, 10, 9, 8, 13, 12, 11, 23, 19, 18, 17, 22, 21, 20]⟩,
 ⟨(some 69), .bin .lss (.t 68) (.c (.int .i64 0)), (some (25, 66, false)), 65760, [27, 26, 25, 24, 16, 15, 7, 6, 2, 1, 0, 5, 4, 3, 14, 10, 9, 8, 13, 12, 11, 23, 19, 18, 17, 22, 21, 20]⟩,
 ⟨(some 70), .pick (.t 66) (.c (.bool true)) (.t 69), none, 65768, [25, 24, 16, 15, 7, 6, 2, 1, 0, 5, 4, 3, 14, 10, 9, 8, 13, 12, 11, 23, 19, 18, 17, 22, 21, 20, 28, 27, 26]⟩,
 ⟨(some 71), .copy (.t 70), none, 65776, [29, 25, 24, 16, 15, 7, 6, 2, 1, 0, 5, 4, 3, 14, 10, 9, 8, 13, 12, 11, 23, 19, 18, 17, 22, 21, 20, 28, 27, 26]⟩,
 ⟨(some 72), .faddr 2 (.t 10), (some (30, 71, false)), 65784, [30, 29, 25, 24, 16, 15, 7, 6, 2, 1, 0, 5, 4, 3, 14, 10, 9, 8, 13, 12, 11, 23, 19, 18, 17, 22, 21, 20, 28, 27, 26]⟩,
 ⟨(some 73), .load false 1 (.t 72), (some (30, 71, false)), 65792, [31, 30, 29, 25, 24, 16, 15, 7, 6, 2, 1, 0, 5, 4, 3, 14, 10, 9, 8, 13, 12, 11, 23, 19, 18, 17, 22, 21, 20, 28, 27, 26]⟩,
 ⟨(some 74), .faddr 0 (.t 10), (some (30, 71, false)), 65800, [30, 29, 25, 24, 16, 15, 7, 6, 2, 1, 0, 5, 4, 3, 14, 10, 9, 8, 13, 12, 11, 23, 19, 18, 17, 22, 21, 20, 28, 27, 26]⟩,
 ⟨(some 75), .load false 1 (.t 74), (some (30, 71, false)), 65808, [33, 30, 29, 25, 24, 16, 15, 7, 6, 2, 1, 0, 5, 4, 3, 14, 10, 9, 8, 13, 12, 11, 23, 19, 18, 17, 22, 21, 20, 28, 27, 26]⟩,
 ⟨(some 76), .len (.t 75), (some (30, 71, false)), 65816, [34, 33, 30, 29, 25, 24, 16, 15, 7, 6, 2, 1, 0, 5, 4, 3, 14, 10, 9, 8, 13, 12, 11, 23, 19, 18, 17, 22, 21, 20, 28, 27, 26]⟩,
 ⟨(some 77), .bin .geq (.t 73) (.t 76), (some (30, 71, false)), 65824, [32, 31, 30, 29, 25, 24, 16, 15, 7, 6, 2, 1, 0, 5, 4, 3, 14, 10, 9, 8, 13, 12, 11, 23, 19, 18, 17, 22, 21, 20, 28, 27, 26, 35, 34, 33]⟩,
 ⟨(some 78), .pick (.t 71) (.c (.bool true)) (.t 77), none, 65832, [30, 29, 25, 24, 16, 15, 7, 6, 2, 1, 0, 5, 4, 3, 14, 10, 9, 8, 13, 12, 11, 23, 19, 18, 17, 22, 21, 20, 28, 27, 26, 36, 32, 31, 35, 34, 33]⟩])
 (.cond (.t 78)
 (.seq
 (.region 9 false [
 ⟨(some 4), .copy (.c (.bool false)), none, 73728, []⟩])
 .ret)
 .skip))
 (.region 10 true [
 ⟨(some 79), .load true 4 (.t 10), none, 81920, []⟩,
 ⟨(some 80), .copy (.t 8), none, 81928, []⟩,
 ⟨(some 81), .copy (.t 11), none, 81936, []⟩,
 ⟨(some 82), .append 3 24 [(.int .i64 0), (.int .i64 0), (.int .i64 0)] (.t 80) (.t 81), none, 81944, [1, 2]⟩,
 ⟨none, .store 4 (.t 7) (.t 79), none, 81952, [0, 3, 1, 2]⟩,
 ⟨(some 8), .copy (.t 82), none, 81960, [3, 1, 2, 4, 0]⟩]))))
 (.region 6 false [
 ⟨(some 29), .copy (.t 9), none, 49152, []⟩,
 ⟨(some 30), .bin .add (.t 29) (.c (.int .i64 1)), none, 49160, [0]⟩,
 ⟨(some 9), .copy (.t 30), none, 49168, [1, 0]⟩]))))))
 (.seq
 (.seq
 (.region 11 false [
 ⟨(some 12), .copy (.c (.int .i64 0)), none, 90112, []⟩])
 (.block 2
 (.loop
 (.seq
 (.seq
 (.region 12 false [
 ⟨(some 83), .copy (.t 12), none, 98304, []⟩,
 ⟨(some 84), .faddr 3 (.t 6), none, 98312, []⟩,
 ⟨(some 85), .load false 1 (.t 84), none, 98320, [1]⟩,
 ⟨(some 86), .len (.t 85), none, 98328, [2, 1]⟩,
 ⟨(some 87), .bin .lss (.t 83) (.t 86), none, 98336, [0, 3, 2, 1]⟩])
 (.cond (.t 87)
 .skip
 (.exit 2)))
 (.seq
 (.block 3
 (.seq
 (.region 14 false [
 ⟨(some 13), .copy (.c (.int .i64 0)), none, 114688, []⟩])
 (.block 4
 (.loop
 (.seq
 (.seq
 (.region 15 false [
 ⟨(some 90), .copy (.t 13), none, 122880, []⟩,
 ⟨(some 91), .faddr 3 (.t 6), none, 122888, []⟩,
 ⟨(some 92), .load false 1 (.t 91), none, 122896, [1]⟩,
 ⟨(some 93), .len (.t 92), none, 122904, [2, 1]⟩,
 ⟨(some 94), .bin .lss (.t 90) (.t 93), none, 122912, [0, 3, 2, 1]⟩])
 (.cond (.t 94)
 .skip
 (.exit 4)))
 (.seq
 (.block 5
 (.seq
 (.seq
 (.region 17 false [
 ⟨(some 97), .copy (.t 12), none, 139264, []⟩,
 ⟨(some 98), .copy (.t 13), none, 139272, []⟩,
 ⟨(some 99), .bin .eql (.t 97) (.t 98), none, 139280, [0, 1]⟩,
 ⟨(some 100), .copy (.t 99), none, 139288, [2, 0, 1]⟩,
 ⟨(some 101), .faddr 3 (.t 7), (some (3, 100, false)), 139296, [3, 2, 0, 1]⟩,
 ⟨(some 102), .load false 1 (.t 101), (some (3, 100, false)), 139304, [4, 3, 2, 0, 1]⟩,
 ⟨(some 103), .copy (.t 12), (some (3, 100, false)), 139312, [3, 2, 0, 1]⟩,
 ⟨(some 104), .iaddr 1 (.t 102) (.t 103), (some (3, 100, false)), 139320, [5, 4, 3, 2, 0, 1, 6]⟩,
 ⟨(some 105), .load false 1 (.t 104), (some (3, 100, false)), 139328, [7, 5, 4, 3, 2, 0, 1, 6]⟩,
 ⟨(some 106), .len (.t 105), (some (3, 100, false)), 139336, [8, 7, 5, 4, 3, 2, 0, 1, 6]⟩,
 ⟨(some 107), .bin .eql (.t 106) (.c (.int .i64 0)), (some (3, 100, false)), 139344, [9, 8, 7, 5, 4, 3, 2, 0, 1, 6]⟩,
 ⟨(some 108), .pick (.t 100) (.c (.bool true)) (.t 107), none, 139352, [3, 2, 0, 1, 10, 9, 8, 7, 5, 4, 6]⟩,
 ⟨(some 109), .copy (.t 108), none, 139360, [11, 3, 2, 0, 1, 10, 9, 8, 7, 5, 4, 6]⟩,
 ⟨(some 110), .faddr 3 (.t 7), (some (12, 109, false)), 139368, [12, 11, 3, 2, 0, 1, 10, 9, 8, 7, 5, 4, 6]⟩,
 ⟨(some 111), .load false 1 (.t 110), (some (12, 109, false)), 139376, [13, 12, 11, 3, 2, 0, 1, 10, 9, 8, 7, 5, 4, 6]⟩,
 ⟨(some 112), .copy (.t 13), (some (12, 109, false)), 139384, [12, 11, 3, 2, 0, 1, 10, 9, 8, 7, 5, 4, 6]⟩,
 ⟨(some 113), .iaddr 1 (.t 111) (.t 112), (some (12, 109, false)), 139392, [14, 13, 12, 11, 3, 2, 0, 1, 10, 9, 8, 7, 5, 4, 6, 15]⟩,
 ⟨(some 114), .load false 1 (.t 113), (some (12, 109, false)), 139400, [16, 14, 13, 12, 11, 3, 2, 0, 1, 10, 9, 8, 7, 5, 4, 6, 15]⟩,
 ⟨(some 115), .len (.t 114), (some (12, 109, false)), 139408, [17, 16, 14, 13, 12, 11, 3, 2, 0, 1, 10, 9, 8, 7, 5, 4, 6, 15]⟩,
 ⟨(some 116), .bin .eql (.t 115) (.c (.int .i64 0)), (some (12, 109, false)), 139416, [18, 17, 16, 14, 13, 12, 11, 3, 2, 0, 1, 10, 9, 8, 7, 5, 4, 6, 15]⟩,
 ⟨(some 117), .pick (.t 109) (.c (.bool true)) (.t 116), none, 139424, [12, 11, 3, 2, 0, 1, 10, 9, 8, 7, 5, 4, 6, 19, 18, 17, 16, 14, 13, 15]⟩])
 (.cond (.t 117)
 (.exit 5)
 .skip))
 (.seq
 (.region 18 true [
 ⟨(some 118), .faddr 0 (.t 6), none, 147456, []⟩,
 ⟨(some 119), .load false 1 (.t 118), none, 147464, [0]⟩,
 ⟨(some 120), .copy (.t 12), none, 147472, []⟩,
 ⟨(some 121), .iaddr 1 (.t 119) (.t 120), none, 147480, [1, 0, 2]⟩,
 ⟨(some 122), .load false 1 (.t 121), none, 147488, [3, 1, 0, 2]⟩,
 ⟨(some 123), .faddr 0 (.t 6), none, 147496, []⟩,
 ⟨(some 124), .load false 1 (.t 123), none, 147504, [5]⟩,
 ⟨(some 125), .copy (.t 13), none, 147512, []⟩,
 ⟨(some 126), .iaddr 1 (.t 124) (.t 125), none, 147520, [6, 5, 7]⟩,
 ⟨(some 127), .load false 1 (.t 126), none, 147528, [8, 6, 5, 7]⟩,
 ⟨(some 14), .copy (.t 122), none, 147536, [4, 3, 1, 0, 2]⟩,
 ⟨(some 15), .copy (.t 127), none, 147544, [9, 8, 6, 5, 7, 10, 4, 3, 1, 0, 2]⟩])
 (.seq
 (.region 19 false [
 ⟨(some 128), .copy (.t 8), none, 155648, []⟩,
 ⟨(some 129), .copy (.t 12), none, 155656, []⟩,
 ⟨(some 130), .call (.c (.fn 22 [])) [(.t 128), (.t 129)], none, 155664, [0, 1]⟩,
 ⟨(some 131), .call (.c (.fn 23 [])) [(.t 130)], none, 155672, [2, 0, 1]⟩,
 ⟨(some 132), .copy (.t 15), none, 155680, []⟩,
 ⟨(some 133), .bin .mul (.t 131) (.t 132), none, 155688, [3, 2, 0, 1, 4]⟩,
 ⟨(some 134), .copy (.t 8), none, 155696, []⟩,
 ⟨(some 135), .copy (.t 13), none, 155704, []⟩,
 ⟨(some 136), .call (.c (.fn 22 [])) [(.t 134), (.t 135)], none, 155712, [6, 7, 3, 2, 0, 1]⟩,
 ⟨(some 137), .call (.c (.fn 23 [])) [(.t 136)], none, 155720, [8, 6, 7, 3, 2, 0, 1]⟩,
 ⟨(some 138), .copy (.t 14), none, 155728, []⟩,
 ⟨(some 139), .bin .mul (.t 137) (.t 138), none, 155736, [9, 8, 6, 7, 3, 2, 0, 1, 10]⟩,
 ⟨(some 140), .bin .sub (.t 133) (.t 139), none, 155744, [5, 3, 2, 0, 1, 4, 11, 9, 8, 6, 7, 10]⟩,
 ⟨(some 141), .copy (.t 14), none, 155752, []⟩,
 ⟨(some 142), .bin .mul (.c (.int .i64 3)) (.t 141), none, 155760, [13]⟩,
 ⟨(some 143), .copy (.t 15), none, 155768, []⟩,
 ⟨(some 144), .bin .mul (.t 142) (.t 143), none, 155776, [14, 13, 15]⟩,
 ⟨(some 145), .copy (.t 14), none, 155784, []⟩,
 ⟨(some 146), .copy (.t 15), none, 155792, []⟩,
 ⟨(some 147), .bin .add (.t 145) (.t 146), none, 155800, [17, 18]⟩,
 ⟨(some 148), .bin .mul (.c (.int .i64 80)) (.t 147), none, 155808, [19, 17, 18]⟩,
 ⟨(some 149), .bin .add (.t 144) (.t 148), none, 155816, [16, 14, 13, 15, 20, 19, 17, 18]⟩,
 ⟨(some 150), .bin .gtr (.t 140) (.t 149), none, 155824, [12, 5, 3, 2, 0, 1, 4, 11, 9, 8, 6, 7, 10, 21, 16, 14, 13, 15, 20, 19, 17, 18]⟩])
 (.cond (.t 150)
 (.seq
 (.region 20 false [
 ⟨(some 4), .copy (.c (.bool false)), none, 163840, []⟩])
 .ret)
 .skip)))))
 (.region 16 false [
 ⟨(some 95), .copy (.t 13), none, 131072, []⟩,
 ⟨(some 96), .bin .add (.t 95) (.c (.int .i64 1)), none, 131080, [0]⟩,
 ⟨(some 13), .copy (.t 96), none, 131088, [1, 0]⟩])))))))
 (.region 13 false [
 ⟨(some 88), .copy (.t 12), none, 106496, []⟩,
 ⟨(some 89), .bin .add (.t 88) (.c (.int .i64 1)), none, 106504, [0]⟩,
 ⟨(some 12), .copy (.t 89), none, 106512, [1, 0]⟩]))))))
 (.seq
 (.region 21 false [
 ⟨(some 151), .copy (.t 5), none, 172032, []⟩,
 ⟨(some 4), .copy (.t 151), none, 172040, [0]⟩])
 .ret)))))))
theorem vf8 : VF Try.prog 8 = some (152, vc8, [.tmp 4]) := by kernel_rfl
theorem made_fw {s : SchL} {w : List Int} (hw : WF s) (h : Mk s (newL w)) (h1 : 1 ≤ w.length) (hb : ∀ x ∈ w, 1 ≤ x ∧ x ≤ 100) : FW s ∧ s.turn = 0 ∧ ∀ i, i < s.w.length → (s.c[i]?).getD 0 = if i = 0 then (s.w[i]?).getD 0 else 0 := by
  have ht : s.turn = 0 := h.t
  have hc : ∀ i, i < s.w.length → (s.c[i]?).getD 0 = if i = 0 then (s.w[i]?).getD 0 else 0 := by
    intro i hi
    have hsw : s.w = w := h.w
    rw [hsw] at hi ⊢
    rw [h.c]
    simp only [newL]
    rw [getD_set (by simp; omega)]
    split
    · rename_i he; rw [he]
    · rw [List.getElem?_replicate, if_pos hi]; rfl
  refine ⟨⟨fun i l hl => h.j l (List.mem_of_getElem? hl), fun i hi => ?_⟩, ht, hc⟩
  rw [hc i hi, ht]
  split
  · omega
  · omega
set_option maxHeartbeats 16000000 in
theorem fair_law_vc {x : RawL} (hx : RawOk x) {w : List Int} (hwk : HOk w) : VC Try.prog 8 [.agg (encRaw x), .sh false (w.map encH)] [] (.bool true) [] := by
  have hw0 := madeL_wf x
  have hm := made_vc hx
  have hjb := (made_mk x).j
  obtain ⟨hfw, hturn, hcr⟩ := made_fw hw0 (made_mk x) (weights_len x).1 (weights_b x)
  generalize madeL x = s0 at hw0 hm hjb hfw hturn hcr
  have hwl : (w.map encH).length = w.length := by simp
  have hwt0 := hw0.wt
  have hlq0 := hw0.lq
  have hn8 := hw0.n8
  refine vc_of vf8 ?_ (Nat.le_of_ble_eq_true rfl) (by intro vs h; cases h)
  refine ct_seq (rg ?_)
  repeat first | refine o_copy ?_ | refine o_loads ?_ | refine o_loadp ?_ | refine o_faddr ?_ | refine o_iaddr ?_ | refine o_iaddrO ?_ | refine o_iaddrR ?_ | refine o_add ?_ | refine o_sub ?_ | refine o_mul ?_ | refine o_cat ?_ | refine o_bin ?_ | refine o_lenq ?_ | refine o_len ?_ | refine o_loadsA ?_ | refine o_loadpA ?_ | refine o_box ?_ | refine o_alloc ?_ | refine o_bslice ?_ | refine o_store ?_ | refine o_pickt ?_ | refine o_pickf ?_ | refine o_extract ?_ | refine skF ?_ | refine skU ?_
  refine nl (ct_seq (rg ?_))
  repeat first | refine o_copy ?_ | refine cv0 sanity_vc ?_ | refine o_loads ?_ | refine o_loadp ?_ | refine o_faddr ?_ | refine o_iaddr ?_ | refine o_iaddrO ?_ | refine o_iaddrR ?_ | refine o_add ?_ | refine o_sub ?_ | refine o_mul ?_ | refine o_cat ?_ | refine o_bin ?_ | refine o_lenq ?_ | refine o_len ?_ | refine o_loadsA ?_ | refine o_loadpA ?_ | refine o_box ?_ | refine o_alloc ?_ | refine o_bslice ?_ | refine o_store ?_ | refine o_pickt ?_ | refine o_pickf ?_ | refine o_extract ?_ | refine skF ?_ | refine skU ?_
  refine nl (ct_seq (rg ?_))
  repeat first | refine o_copy ?_ | refine cf hm ?_ | refine o_loads ?_ | refine o_loadp ?_ | refine o_faddr ?_ | refine o_iaddr ?_ | refine o_iaddrO ?_ | refine o_iaddrR ?_ | refine o_add ?_ | refine o_sub ?_ | refine o_mul ?_ | refine o_cat ?_ | refine o_bin ?_ | refine o_lenq ?_ | refine o_len ?_ | refine o_loadsA ?_ | refine o_loadpA ?_ | refine o_box ?_ | refine o_alloc ?_ | refine o_bslice ?_ | refine o_store ?_ | refine o_pickt ?_ | refine o_pickf ?_ | refine o_extract ?_ | refine skF ?_ | refine skU ?_
  refine nl (ct_seq (rg ?_))
  repeat first | refine o_copy ?_ | refine o_loads ?_ | refine o_loadp ?_ | refine o_faddr ?_ | refine o_iaddr ?_ | refine o_iaddrO ?_ | refine o_iaddrR ?_ | refine o_add ?_ | refine o_sub ?_ | refine o_mul ?_ | refine o_cat ?_ | refine o_bin ?_ | refine o_lenq ?_ | refine o_len ?_ | refine o_loadsA ?_ | refine o_loadpA ?_ | refine o_box ?_ | refine o_alloc ?_ | refine o_bslice ?_ | refine o_store ?_ | refine o_pickt ?_ | refine o_pickf ?_ | refine o_extract ?_ | refine skF ?_ | refine skU ?_
  refine nl ?_
  refine ct_mid (lvl := 1) (fun (g : SchL × List JobL) => [(5, .bool true), (6, .ptr ⟨1, 16400⟩ 1 0 0), (7, .ptr ⟨1, 24592⟩ 1 0 0), (8, ownV ⟨1, 24584⟩ (g.2.map encJ))]) (fun g => [(⟨1, 16400⟩, ⟨true, false, 4, [encSc s0]⟩), (⟨1, 24592⟩, ⟨true, false, 4, [encSc g.1]⟩), (⟨1, 24584⟩, blkV 3 (g.2.map encJ))]) (fun g => ∃ k, Goes s0 g.2 g.1 k) ?_ ?_
  · repeat first | refine o_copy ?_ | refine nl ?_ | refine ct_seq ?_ | refine rg ?_ | refine ct_block ?_ | refine bq ?_ | refine o_loads ?_ | refine o_loadp ?_ | refine o_faddr ?_ | refine o_iaddr ?_ | refine o_iaddrO ?_ | refine o_iaddrR ?_ | refine o_add ?_ | refine o_sub ?_ | refine o_mul ?_ | refine o_cat ?_ | refine o_bin ?_ | refine o_lenq ?_ | refine o_len ?_ | refine o_loadsA ?_ | refine o_loadpA ?_ | refine o_box ?_ | refine o_alloc ?_ | refine o_bslice ?_ | refine o_store ?_ | refine o_pickt ?_ | refine o_pickf ?_ | refine o_extract ?_ | refine skF ?_ | refine skU ?_
    refine ct_loopG (fun (g : Nat × SchL × List JobL) => [(1, .sh false (w.map encH)), (5, .bool true), (6, .ptr ⟨1, 16400⟩ 1 0 0), (7, .ptr ⟨1, 24592⟩ 1 0 0), (8, ownV ⟨1, 24584⟩ (g.2.2.map encJ)), (9, .int .i64 g.1)]) (fun g => [(⟨1, 16400⟩, ⟨true, false, 4, [encSc s0]⟩), (⟨1, 24592⟩, ⟨true, false, 4, [encSc g.2.1]⟩), (⟨1, 24584⟩, blkV 3 (g.2.2.map encJ))]) (fun g => 6 - g.1)
      (fun g => g.1 ≤ 6 ∧ g.1 ≤ w.length ∧ ∃ k, Goes s0 g.2.2 g.2.1 k) (0, s0, []) goesD ⟨by omega, Nat.zero_le _, 0, .nil _⟩ ?_
    rintro ⟨i, s, got⟩ ⟨hi, hiw, k, hg⟩
    dsimp only at hi hiw hg ⊢
    have hw := hg.wf hw0
    have hgl := hg.wait.1
    by_cases h1 : i < w.length
    · have g1 : decide ((i : Int) < ((w.map encH).length : Int)) = true := by rw [hwl]; simpa using h1
      by_cases h2 : i < 6
      · have g2 : decide ((i : Int) < 6) = true := by simp; omega
        obtain ⟨b, hb⟩ : ∃ b, w[i]? = some b := ⟨_, List.getElem?_eq_getElem h1⟩
        have hbe := gm (enc := encH) (n := (i : Int)) hb (by omega)
        have hbb := hwk.1 b (List.mem_of_getElem? hb)
        have c1 : IntKind.i64.wrap b = b := wrap64 (by omega) (by omega)
        obtain ⟨s', l, hr⟩ := runs_total hw b
        have hrun := run_vc hw hr (by omega) (by omega)
        obtain ⟨k', hg', _, _⟩ := hr.goes hw
        have hw' := hr.wf hw
        have hlens := (hg.trans hg').lens
        have hwl2 := hg'.wait.1
        have z1 : (((s'.q.map encQ).length : Int) != ((s0.q.map encQ).length : Int)) = false := by simp [hlens.2]
        have z2 : (((s'.w.map encI).length : Int) != ((s0.w.map encI).length : Int)) = false := by simp [hlens.1]
        have z3 : (((s'.c.map encI).length : Int) != ((s0.c.map encI).length : Int)) = false := by simp [hw'.lc, hw0.lc, hlens.1]
        have z4 : decide ((s'.turn : Int) < 0) = false := by simp
        have z5 : decide ((s'.turn : Int) ≥ ((s'.w.map encI).length : Int)) = false := by have := hw'.tn; simp; omega
        repeat first | refine o_copy ?_ | refine nl ?_ | refine ct_seq ?_ | refine rg ?_ | refine ct_block ?_ | refine bq ?_ | refine o_loads ?_ | refine o_loadp ?_ | refine o_faddr ?_ | refine o_iaddr ?_ | refine o_iaddrO ?_ | refine o_iaddrR ?_ | refine o_add ?_ | refine o_sub ?_ | refine o_mul ?_ | refine o_cat ?_ | refine o_bin ?_ | refine o_lenq ?_ | refine o_len ?_ | refine o_loadsA ?_ | refine o_loadpA ?_ | refine o_box ?_ | refine o_alloc ?_ | refine o_bslice ?_ | refine o_store ?_ | refine o_pickt ?_ | refine o_pickf ?_ | refine o_extract ?_ | refine skF ?_ | refine skU ?_
        refine cndt (ct_skip ?_)
        repeat first | refine o_copy ?_ | refine nl ?_ | refine ct_seq ?_ | refine rg ?_ | refine ct_block ?_ | refine bq ?_ | refine o_convE ?_ | refine cf hrun ?_ | refine o_loads ?_ | refine o_loadp ?_ | refine o_faddr ?_ | refine o_iaddr ?_ | refine o_iaddrO ?_ | refine o_iaddrR ?_ | refine o_add ?_ | refine o_sub ?_ | refine o_mul ?_ | refine o_cat ?_ | refine o_bin ?_ | refine o_lenq ?_ | refine o_len ?_ | refine o_loadsA ?_ | refine o_loadpA ?_ | refine o_box ?_ | refine o_alloc ?_ | refine o_bslice ?_ | refine o_store ?_ | refine o_pickt ?_ | refine o_pickf ?_ | refine o_extract ?_ | refine skF ?_ | refine skU ?_
        refine cndf (ct_skip ?_)
        repeat first | refine o_copy ?_ | refine nl ?_ | refine ct_seq ?_ | refine rg ?_ | refine ct_block ?_ | refine bq ?_ | refine o_v (vaps encJ got l) ?_ | refine o_loads ?_ | refine o_loadp ?_ | refine o_faddr ?_ | refine o_iaddr ?_ | refine o_iaddrO ?_ | refine o_iaddrR ?_ | refine o_add ?_ | refine o_sub ?_ | refine o_mul ?_ | refine o_cat ?_ | refine o_bin ?_ | refine o_lenq ?_ | refine o_len ?_ | refine o_loadsA ?_ | refine o_loadpA ?_ | refine o_box ?_ | refine o_alloc ?_ | refine o_bslice ?_ | refine o_store ?_ | refine o_pickt ?_ | refine o_pickf ?_ | refine o_extract ?_ | refine skF ?_ | refine skU ?_
        exact agn (i + 1, s', got ++ l) ⟨(by simp only; omega), (by simp only; omega), _, hg.trans hg'⟩ goesD
      · have g2 : decide ((i : Int) < 6) = false := by simp; omega
        repeat first | refine o_copy ?_ | refine nl ?_ | refine ct_seq ?_ | refine rg ?_ | refine ct_block ?_ | refine bq ?_ | refine o_loads ?_ | refine o_loadp ?_ | refine o_faddr ?_ | refine o_iaddr ?_ | refine o_iaddrO ?_ | refine o_iaddrR ?_ | refine o_add ?_ | refine o_sub ?_ | refine o_mul ?_ | refine o_cat ?_ | refine o_bin ?_ | refine o_lenq ?_ | refine o_len ?_ | refine o_loadsA ?_ | refine o_loadpA ?_ | refine o_box ?_ | refine o_alloc ?_ | refine o_bslice ?_ | refine o_store ?_ | refine o_pickt ?_ | refine o_pickf ?_ | refine o_extract ?_ | refine skF ?_ | refine skU ?_
        refine cndf (ct_exit ?_)
        exact mid0 (s, got) ⟨k, hg⟩ goesD
    · have g1 : decide ((i : Int) < ((w.map encH).length : Int)) = false := by rw [hwl]; simp; omega
      repeat first | refine o_copy ?_ | refine nl ?_ | refine ct_seq ?_ | refine rg ?_ | refine ct_block ?_ | refine bq ?_ | refine o_loads ?_ | refine o_loadp ?_ | refine o_faddr ?_ | refine o_iaddr ?_ | refine o_iaddrO ?_ | refine o_iaddrR ?_ | refine o_add ?_ | refine o_sub ?_ | refine o_mul ?_ | refine o_cat ?_ | refine o_bin ?_ | refine o_lenq ?_ | refine o_len ?_ | refine o_loadsA ?_ | refine o_loadpA ?_ | refine o_box ?_ | refine o_alloc ?_ | refine o_bslice ?_ | refine o_store ?_ | refine o_pickt ?_ | refine o_pickf ?_ | refine o_extract ?_ | refine skF ?_ | refine skU ?_
      refine cndf (ct_exit ?_)
      exact mid0 (s, got) ⟨k, hg⟩ goesD
  rintro ⟨a, got⟩ ⟨k, hg⟩
  dsimp only at hg ⊢
  have hwa := hg.wf hw0
  have hgl := hg.wait.1
  have hlens := hg.lens
  have hgj : ∀ j ∈ got, 0 ≤ j.c ∧ j.c ≤ 1000000 := fun j hj => by
    have := (hg.all hjb).1 j hj
    omega
  have hgj80 := (hg.all hjb).1
  have hof : ∀ i : Int, (ofL got i).length ≤ 64 ∧ (∀ j ∈ ofL got i, 0 ≤ j.c ∧ j.c ≤ 1000000) ∧ 0 ≤ totalL (ofL got i) ∧ totalL (ofL got i) ≤ 5120 := by
    intro i
    have h1 := List.length_filter_le (fun j : JobL => j.t == i) got
    have h2 : ∀ j ∈ ofL got i, j ∈ got := fun j hj => (List.mem_filter.1 hj).1
    have h3 : (ofL got i).length ≤ 64 := by simp only [ofL]; omega
    have h4 := totalL_b (l := ofL got i) (c := 80) fun j hj => hgj80 j (h2 j hj)
    exact ⟨h3, fun j hj => hgj j (h2 j hj), h4.1, by omega⟩
  repeat first | refine o_copy ?_ | refine nl ?_ | refine ct_seq ?_ | refine rg ?_ | refine ct_block ?_ | refine bq ?_ | refine o_loads ?_ | refine o_loadp ?_ | refine o_faddr ?_ | refine o_iaddr ?_ | refine o_iaddrO ?_ | refine o_iaddrR ?_ | refine o_add ?_ | refine o_sub ?_ | refine o_mul ?_ | refine o_cat ?_ | refine o_bin ?_ | refine o_lenq ?_ | refine o_len ?_ | refine o_loadsA ?_ | refine o_loadpA ?_ | refine o_box ?_ | refine o_alloc ?_ | refine o_bslice ?_ | refine o_store ?_ | refine o_pickt ?_ | refine o_pickf ?_ | refine o_extract ?_ | refine skF ?_ | refine skU ?_
  refine ct_loopG (fun (g : Nat) => [(5, .bool true), (6, .ptr ⟨1, 16400⟩ 1 0 0), (7, .ptr ⟨1, 24592⟩ 1 0 0), (8, ownV ⟨1, 24584⟩ (got.map encJ)), (12, .int .i64 g)]) (fun g => [(⟨1, 16400⟩, ⟨true, false, 4, [encSc s0]⟩), (⟨1, 24592⟩, ⟨true, false, 4, [encSc a]⟩), (⟨1, 24584⟩, blkV 3 (got.map encJ))]) (fun g => s0.q.length - g)
    (fun g => g ≤ s0.q.length) 0 goesD (Nat.zero_le _) ?_
  intro i hi
  repeat first | refine o_copy ?_ | refine nl ?_ | refine ct_seq ?_ | refine rg ?_ | refine ct_block ?_ | refine bq ?_ | refine o_loads ?_ | refine o_loadp ?_ | refine o_faddr ?_ | refine o_iaddr ?_ | refine o_iaddrO ?_ | refine o_iaddrR ?_ | refine o_add ?_ | refine o_sub ?_ | refine o_mul ?_ | refine o_cat ?_ | refine o_bin ?_ | refine o_lenq ?_ | refine o_len ?_ | refine o_loadsA ?_ | refine o_loadpA ?_ | refine o_box ?_ | refine o_alloc ?_ | refine o_bslice ?_ | refine o_store ?_ | refine o_pickt ?_ | refine o_pickf ?_ | refine o_extract ?_ | refine skF ?_ | refine skU ?_
  refine cnd (fun h => ct_skip ?_) (fun h => ct_exit ?_)
  rotate_left
  · repeat first | refine o_copy ?_ | refine nl ?_ | refine ct_seq ?_ | refine rg ?_ | refine ct_block ?_ | refine bq ?_ | refine o_loads ?_ | refine o_loadp ?_ | refine o_faddr ?_ | refine o_iaddr ?_ | refine o_iaddrO ?_ | refine o_iaddrR ?_ | refine o_add ?_ | refine o_sub ?_ | refine o_mul ?_ | refine o_cat ?_ | refine o_bin ?_ | refine o_lenq ?_ | refine o_len ?_ | refine o_loadsA ?_ | refine o_loadpA ?_ | refine o_box ?_ | refine o_alloc ?_ | refine o_bslice ?_ | refine o_store ?_ | refine o_pickt ?_ | refine o_pickf ?_ | refine o_extract ?_ | refine skF ?_ | refine skU ?_
    exact ct_ret ⟨.inr rfl, oB rfl⟩
  have hil : i < s0.q.length := by have h' := of_decide_eq_true h; simp only [List.length_map] at h'; omega
  repeat first | refine o_copy ?_ | refine nl ?_ | refine ct_seq ?_ | refine rg ?_ | refine ct_block ?_ | refine bq ?_ | refine o_loads ?_ | refine o_loadp ?_ | refine o_faddr ?_ | refine o_iaddr ?_ | refine o_iaddrO ?_ | refine o_iaddrR ?_ | refine o_add ?_ | refine o_sub ?_ | refine o_mul ?_ | refine o_cat ?_ | refine o_bin ?_ | refine o_lenq ?_ | refine o_len ?_ | refine o_loadsA ?_ | refine o_loadpA ?_ | refine o_box ?_ | refine o_alloc ?_ | refine o_bslice ?_ | refine o_store ?_ | refine o_pickt ?_ | refine o_pickf ?_ | refine o_extract ?_ | refine skF ?_ | refine skU ?_
  refine ct_loopG (fun (g : Nat) => [(5, .bool true), (6, .ptr ⟨1, 16400⟩ 1 0 0), (7, .ptr ⟨1, 24592⟩ 1 0 0), (8, ownV ⟨1, 24584⟩ (got.map encJ)), (12, .int .i64 i), (13, .int .i64 g)]) (fun g => [(⟨1, 16400⟩, ⟨true, false, 4, [encSc s0]⟩), (⟨1, 24592⟩, ⟨true, false, 4, [encSc a]⟩), (⟨1, 24584⟩, blkV 3 (got.map encJ))]) (fun g => s0.q.length - g)
    (fun g => g ≤ s0.q.length) 0 goesD (Nat.zero_le _) ?_
  intro j hj
  repeat first | refine o_copy ?_ | refine nl ?_ | refine ct_seq ?_ | refine rg ?_ | refine ct_block ?_ | refine bq ?_ | refine o_loads ?_ | refine o_loadp ?_ | refine o_faddr ?_ | refine o_iaddr ?_ | refine o_iaddrO ?_ | refine o_iaddrR ?_ | refine o_add ?_ | refine o_sub ?_ | refine o_mul ?_ | refine o_cat ?_ | refine o_bin ?_ | refine o_lenq ?_ | refine o_len ?_ | refine o_loadsA ?_ | refine o_loadpA ?_ | refine o_box ?_ | refine o_alloc ?_ | refine o_bslice ?_ | refine o_store ?_ | refine o_pickt ?_ | refine o_pickf ?_ | refine o_extract ?_ | refine skF ?_ | refine skU ?_
  refine cnd (fun h => ct_skip ?_) (fun h => ct_exit ?_)
  rotate_left
  · repeat first | refine o_copy ?_ | refine nl ?_ | refine ct_seq ?_ | refine rg ?_ | refine ct_block ?_ | refine bq ?_ | refine o_loads ?_ | refine o_loadp ?_ | refine o_faddr ?_ | refine o_iaddr ?_ | refine o_iaddrO ?_ | refine o_iaddrR ?_ | refine o_add ?_ | refine o_sub ?_ | refine o_mul ?_ | refine o_cat ?_ | refine o_bin ?_ | refine o_lenq ?_ | refine o_len ?_ | refine o_loadsA ?_ | refine o_loadpA ?_ | refine o_box ?_ | refine o_alloc ?_ | refine o_bslice ?_ | refine o_store ?_ | refine o_pickt ?_ | refine o_pickf ?_ | refine o_extract ?_ | refine skF ?_ | refine skU ?_
    exact agn (i + 1) (by omega) goesD
  have hjl : j < s0.q.length := by have h' := of_decide_eq_true h; simp only [List.length_map] at h'; omega
  by_cases hij : i = j
  · have e1 : ((i : Int) == (j : Int)) = true := by simp [hij]
    repeat first | refine o_copy ?_ | refine nl ?_ | refine ct_seq ?_ | refine rg ?_ | refine ct_block ?_ | refine bq ?_ | refine o_loads ?_ | refine o_loadp ?_ | refine o_faddr ?_ | refine o_iaddr ?_ | refine o_iaddrO ?_ | refine o_iaddrR ?_ | refine o_add ?_ | refine o_sub ?_ | refine o_mul ?_ | refine o_cat ?_ | refine o_bin ?_ | refine o_lenq ?_ | refine o_len ?_ | refine o_loadsA ?_ | refine o_loadpA ?_ | refine o_box ?_ | refine o_alloc ?_ | refine o_bslice ?_ | refine o_store ?_ | refine o_pickt ?_ | refine o_pickf ?_ | refine o_extract ?_ | refine skF ?_ | refine skU ?_
    refine cndt (ct_exit ?_)
    repeat first | refine o_copy ?_ | refine nl ?_ | refine ct_seq ?_ | refine rg ?_ | refine ct_block ?_ | refine bq ?_ | refine o_loads ?_ | refine o_loadp ?_ | refine o_faddr ?_ | refine o_iaddr ?_ | refine o_iaddrO ?_ | refine o_iaddrR ?_ | refine o_add ?_ | refine o_sub ?_ | refine o_mul ?_ | refine o_cat ?_ | refine o_bin ?_ | refine o_lenq ?_ | refine o_len ?_ | refine o_loadsA ?_ | refine o_loadpA ?_ | refine o_box ?_ | refine o_alloc ?_ | refine o_bslice ?_ | refine o_store ?_ | refine o_pickt ?_ | refine o_pickf ?_ | refine o_extract ?_ | refine skF ?_ | refine skU ?_
    exact agn (j + 1) (by omega) goesD
  have e1 : ((i : Int) == (j : Int)) = false := by simp; omega
  obtain ⟨yi, hyi⟩ : ∃ y, a.q[i]? = some y := ⟨_, List.getElem?_eq_getElem (by rw [hlens.2]; exact hil)⟩
  obtain ⟨yj, hyj⟩ : ∃ y, a.q[j]? = some y := ⟨_, List.getElem?_eq_getElem (by rw [hlens.2]; exact hjl)⟩
  have hyie := gm (enc := encQ) (n := (i : Int)) hyi (by omega)
  have hyje := gm (enc := encQ) (n := (j : Int)) hyj (by omega)
  have mi : (yi.map encJ).length = yi.length := by simp
  have mj : (yj.map encJ).length = yj.length := by simp
  by_cases hi0 : yi = []
  · have e2 : (((yi.map encJ).length : Int) == 0) = true := by rw [mi, hi0]; rfl
    repeat first | refine o_copy ?_ | refine nl ?_ | refine ct_seq ?_ | refine rg ?_ | refine ct_block ?_ | refine bq ?_ | refine o_loads ?_ | refine o_loadp ?_ | refine o_faddr ?_ | refine o_iaddr ?_ | refine o_iaddrO ?_ | refine o_iaddrR ?_ | refine o_add ?_ | refine o_sub ?_ | refine o_mul ?_ | refine o_cat ?_ | refine o_bin ?_ | refine o_lenq ?_ | refine o_len ?_ | refine o_loadsA ?_ | refine o_loadpA ?_ | refine o_box ?_ | refine o_alloc ?_ | refine o_bslice ?_ | refine o_store ?_ | refine o_pickt ?_ | refine o_pickf ?_ | refine o_extract ?_ | refine skF ?_ | refine skU ?_
    refine cndt (ct_exit ?_)
    repeat first | refine o_copy ?_ | refine nl ?_ | refine ct_seq ?_ | refine rg ?_ | refine ct_block ?_ | refine bq ?_ | refine o_loads ?_ | refine o_loadp ?_ | refine o_faddr ?_ | refine o_iaddr ?_ | refine o_iaddrO ?_ | refine o_iaddrR ?_ | refine o_add ?_ | refine o_sub ?_ | refine o_mul ?_ | refine o_cat ?_ | refine o_bin ?_ | refine o_lenq ?_ | refine o_len ?_ | refine o_loadsA ?_ | refine o_loadpA ?_ | refine o_box ?_ | refine o_alloc ?_ | refine o_bslice ?_ | refine o_store ?_ | refine o_pickt ?_ | refine o_pickf ?_ | refine o_extract ?_ | refine skF ?_ | refine skU ?_
    exact agn (j + 1) (by omega) goesD
  have hi1 : 0 < yi.length := List.length_pos_iff.2 hi0
  have e2 : (((yi.map encJ).length : Int) == 0) = false := by rw [mi]; simp; omega
  by_cases hj0 : yj = []
  · have e3 : (((yj.map encJ).length : Int) == 0) = true := by rw [mj, hj0]; rfl
    repeat first | refine o_copy ?_ | refine nl ?_ | refine ct_seq ?_ | refine rg ?_ | refine ct_block ?_ | refine bq ?_ | refine o_loads ?_ | refine o_loadp ?_ | refine o_faddr ?_ | refine o_iaddr ?_ | refine o_iaddrO ?_ | refine o_iaddrR ?_ | refine o_add ?_ | refine o_sub ?_ | refine o_mul ?_ | refine o_cat ?_ | refine o_bin ?_ | refine o_lenq ?_ | refine o_len ?_ | refine o_loadsA ?_ | refine o_loadpA ?_ | refine o_box ?_ | refine o_alloc ?_ | refine o_bslice ?_ | refine o_store ?_ | refine o_pickt ?_ | refine o_pickf ?_ | refine o_extract ?_ | refine skF ?_ | refine skU ?_
    refine cndt (ct_exit ?_)
    repeat first | refine o_copy ?_ | refine nl ?_ | refine ct_seq ?_ | refine rg ?_ | refine ct_block ?_ | refine bq ?_ | refine o_loads ?_ | refine o_loadp ?_ | refine o_faddr ?_ | refine o_iaddr ?_ | refine o_iaddrO ?_ | refine o_iaddrR ?_ | refine o_add ?_ | refine o_sub ?_ | refine o_mul ?_ | refine o_cat ?_ | refine o_bin ?_ | refine o_lenq ?_ | refine o_len ?_ | refine o_loadsA ?_ | refine o_loadpA ?_ | refine o_box ?_ | refine o_alloc ?_ | refine o_bslice ?_ | refine o_store ?_ | refine o_pickt ?_ | refine o_pickf ?_ | refine o_extract ?_ | refine skF ?_ | refine skU ?_
    exact agn (j + 1) (by omega) goesD
  have hj1 : 0 < yj.length := List.length_pos_iff.2 hj0
  have e3 : (((yj.map encJ).length : Int) == 0) = false := by rw [mj]; simp; omega
  obtain ⟨wi, hwi⟩ : ∃ y, s0.w[i]? = some y := ⟨_, List.getElem?_eq_getElem (by omega)⟩
  obtain ⟨wj, hwj⟩ : ∃ y, s0.w[j]? = some y := ⟨_, List.getElem?_eq_getElem (by omega)⟩
  have hwie := gm (enc := encI) (n := (i : Int)) hwi (by omega)
  have hwje := gm (enc := encI) (n := (j : Int)) hwj (by omega)
  have bi := hw0.ws _ _ hwi
  have bj := hw0.ws _ _ hwj
  have hfair := fair_plain hw0 hfw hg hturn hcr (i := i) (j := j) (by omega) (by omega) (by rw [hyi]; simpa using hi0) (by rw [hyj]; simpa using hj0)
  rw [hwi, hwj] at hfair
  simp only [Option.getD_some] at hfair
  obtain ⟨oi1, oi2, oi3, oi4⟩ := hof i
  obtain ⟨oj1, oj2, oj3, oj4⟩ := hof j
  have p1 : 0 ≤ totalL (ofL got (i : Int)) * wj ∧ totalL (ofL got (i : Int)) * wj ≤ 5120 * 100 := ⟨Int.mul_nonneg oi3 (by omega), Int.mul_le_mul oi4 bj.2 (by omega) (by omega)⟩
  have p2 : 0 ≤ totalL (ofL got (j : Int)) * wi ∧ totalL (ofL got (j : Int)) * wi ≤ 5120 * 100 := ⟨Int.mul_nonneg oj3 (by omega), Int.mul_le_mul oj4 bi.2 (by omega) (by omega)⟩
  have p3 : 0 ≤ 3 * wi * wj ∧ 3 * wi * wj ≤ 300 * 100 := ⟨Int.mul_nonneg (by omega) (by omega), Int.mul_le_mul (by omega) bj.2 (by omega) (by omega)⟩
  have t1 := of_vc (l := got) (t := (i : Int)) (by omega)
  have t2 := of_vc (l := got) (t := (j : Int)) (by omega)
  have t3 := total_vc (l := ofL got (i : Int)) (by omega) oi2
  have t4 := total_vc (l := ofL got (j : Int)) (by omega) oj2
  have e4 : decide (totalL (ofL got (i : Int)) * wj - totalL (ofL got (j : Int)) * wi > 3 * wi * wj + 80 * (wi + wj)) = false := by simp; omega
  repeat first | refine o_copy ?_ | refine nl ?_ | refine ct_seq ?_ | refine rg ?_ | refine ct_block ?_ | refine bq ?_ | refine o_loads ?_ | refine o_loadp ?_ | refine o_faddr ?_ | refine o_iaddr ?_ | refine o_iaddrO ?_ | refine o_iaddrR ?_ | refine o_add ?_ | refine o_sub ?_ | refine o_mul ?_ | refine o_cat ?_ | refine o_bin ?_ | refine o_lenq ?_ | refine o_len ?_ | refine o_loadsA ?_ | refine o_loadpA ?_ | refine o_box ?_ | refine o_alloc ?_ | refine o_bslice ?_ | refine o_store ?_ | refine o_pickt ?_ | refine o_pickf ?_ | refine o_extract ?_ | refine skF ?_ | refine skU ?_
  refine cndf (ct_skip ?_)
  repeat first | refine o_copy ?_ | refine nl ?_ | refine ct_seq ?_ | refine rg ?_ | refine ct_block ?_ | refine bq ?_ | refine cv t1 ?_ | refine cv t2 ?_ | refine cv0 t3 ?_ | refine cv0 t4 ?_ | refine o_loads ?_ | refine o_loadp ?_ | refine o_faddr ?_ | refine o_iaddr ?_ | refine o_iaddrO ?_ | refine o_iaddrR ?_ | refine o_add ?_ | refine o_sub ?_ | refine o_mul ?_ | refine o_cat ?_ | refine o_bin ?_ | refine o_lenq ?_ | refine o_len ?_ | refine o_loadsA ?_ | refine o_loadpA ?_ | refine o_box ?_ | refine o_alloc ?_ | refine o_bslice ?_ | refine o_store ?_ | refine o_pickt ?_ | refine o_pickf ?_ | refine o_extract ?_ | refine skF ?_ | refine skU ?_
  refine cndf (ct_skip ?_)
  repeat first | refine o_copy ?_ | refine nl ?_ | refine ct_seq ?_ | refine rg ?_ | refine ct_block ?_ | refine bq ?_ | refine o_loads ?_ | refine o_loadp ?_ | refine o_faddr ?_ | refine o_iaddr ?_ | refine o_iaddrO ?_ | refine o_iaddrR ?_ | refine o_add ?_ | refine o_sub ?_ | refine o_mul ?_ | refine o_cat ?_ | refine o_bin ?_ | refine o_lenq ?_ | refine o_len ?_ | refine o_loadsA ?_ | refine o_loadpA ?_ | refine o_box ?_ | refine o_alloc ?_ | refine o_bslice ?_ | refine o_store ?_ | refine o_pickt ?_ | refine o_pickf ?_ | refine o_extract ?_ | refine skF ?_ | refine skU ?_
  exact agn (j + 1) (by omega) goesD
end Go.Proofs
open Go.V Go.Pu
set_option linter.unusedVariables false
namespace Go.Proofs
theorem decU8 {l : List (List PV)} (h : InTy (.sl [.int .u8]) (.sh false l)) : ∃ xs : List Nat, l = xs.map encU8 ∧ (∀ n ∈ xs, n < 256) ∧ xs.length ≤ maxLen := by
  obtain ⟨xs, h1, h2⟩ := decodeL (enc := fun (a : { n : Nat // n < 256 }) => encU8 a.1) h fun e hl hc => by
    obtain ⟨a, rfl⟩ := list1 hl
    obtain ⟨x, rfl, hx⟩ := in_u8 (hc 0 _ _ rfl rfl)
    exact ⟨⟨x, hx⟩, rfl⟩
  refine ⟨xs.map (·.1), by rw [h1, List.map_map]; rfl, fun n hn => ?_, by simpa using h2⟩
  obtain ⟨a, _, rfl⟩ := List.mem_map.1 hn
  exact a.2
theorem decLP {l : List (List PV)} (h : InTy (.sl [.int .u8, .int .u8]) (.sh false l)) : ∃ xs : List (Nat × Nat), l = xs.map encLP ∧ (∀ p ∈ xs, p.1 < 256 ∧ p.2 < 256) ∧ xs.length ≤ maxLen := by
  obtain ⟨xs, h1, h2⟩ := decodeL (enc := fun (a : { n : Nat × Nat // n.1 < 256 ∧ n.2 < 256 }) => encLP a.1) h fun e hl hc => by
    obtain ⟨a, b, rfl⟩ := list2 hl
    obtain ⟨x, rfl, hx⟩ := in_u8 (hc 0 _ _ rfl rfl)
    obtain ⟨y, rfl, hy⟩ := in_u8 (hc 1 _ _ rfl rfl)
    exact ⟨⟨(x, y), hx, hy⟩, rfl⟩
  refine ⟨xs.map (·.1), by rw [h1, List.map_map]; rfl, fun n hn => ?_, by simpa using h2⟩
  obtain ⟨a, _, rfl⟩ := List.mem_map.1 hn
  exact a.2
theorem in_i16 {p : PV} (h : InTy (.int .i16) p) : ∃ n : Int, p = .int .i16 n ∧ -32768 ≤ n ∧ n ≤ 32767 := by
  obtain ⟨n, rfl, hw⟩ := in_int h
  have : -32768 ≤ n ∧ n ≤ 32767 := by
    simp [Lit.wf, IntKind.min, IntKind.max, IntKind.signed, IntKind.bits] at hw
    omega
  exact ⟨n, rfl, this⟩
theorem decH {l : List (List PV)} (h : InTy (.sl [.int .i16]) (.sh false l)) : ∃ xs : List Int, l = xs.map encH ∧ HOk xs := by
  obtain ⟨xs, h1, h2⟩ := decodeL (enc := fun (a : { n : Int // -32768 ≤ n ∧ n ≤ 32767 }) => encH a.1) h fun e hl hc => by
    obtain ⟨a, rfl⟩ := list1 hl
    obtain ⟨x, rfl, hx⟩ := in_i16 (hc 0 _ _ rfl rfl)
    exact ⟨⟨x, hx⟩, rfl⟩
  refine ⟨xs.map (·.1), by rw [h1, List.map_map]; rfl, fun n hn => ?_, by simpa [maxLen] using h2⟩
  obtain ⟨a, _, rfl⟩ := List.mem_map.1 hn
  exact a.2
theorem decRaw {q : List PV} (n : q.length = [CTy.sl [.int .u8], .sl [.int .u8, .int .u8]].length) (i : ∀ (j : Nat) (c : CTy) (p : PV), [CTy.sl [.int .u8], .sl [.int .u8, .int .u8]][j]? = some c → q[j]? = some p → InTy c p) : ∃ x : RawL, q = encRaw x ∧ RawOk x := by
  obtain ⟨a, b, rfl⟩ := list2 n
  obtain ⟨l1, rfl, i1⟩ := in_sl (i 0 _ _ rfl rfl)
  obtain ⟨l2, rfl, i2⟩ := in_sl (i 1 _ _ rfl rfl)
  obtain ⟨x1, rfl, h1, h2⟩ := decU8 i1
  obtain ⟨x2, rfl, h3, h4⟩ := decLP i2
  exact ⟨⟨x1, x2⟩, rfl, h1, h3, by simpa [maxLen] using h2, by simpa [maxLen] using h4⟩
theorem decJob {q : List PV} (n : q.length = [CTy.int .i64, .int .i64, .int .i64].length) (i : ∀ (j : Nat) (c : CTy) (p : PV), [CTy.int .i64, .int .i64, .int .i64][j]? = some c → q[j]? = some p → InTy c p) : ∃ j : JobL, q = encJ j := by
  obtain ⟨a, b, c, rfl⟩ := list3 n
  obtain ⟨x, rfl, _⟩ := in_int (i 0 _ _ rfl rfl)
  obtain ⟨y, rfl, _⟩ := in_int (i 1 _ _ rfl rfl)
  obtain ⟨z, rfl, _⟩ := in_int (i 2 _ _ rfl rfl)
  exact ⟨⟨x, y, z⟩, rfl⟩
theorem wf_i16 {n : Int} (hw : (Lit.int .i16 n).wf = true) : -32768 ≤ n ∧ n ≤ 32767 := by
  simp [Lit.wf, IntKind.min, IntKind.max, IntKind.signed, IntKind.bits] at hw
  omega
theorem schedJobs_in (q : List PV) (n : q.length = [CTy.sl [.int .u8], .sl [.int .u8, .int .u8]].length) (i : ∀ (j : Nat) (c : CTy) (p : PV), [CTy.sl [.int .u8], .sl [.int .u8, .int .u8]][j]? = some c → q[j]? = some p → InTy c p) (b : Int) (hb : (Lit.int .i16 b).wf = true) : VC Try.prog 4 [.agg q, .int .i16 b] [] (.bool true) [] := by
  obtain ⟨x, rfl, hx⟩ := decRaw n i
  obtain ⟨h1, h2⟩ := wf_i16 hb
  exact jobs_law_vc hx h1 h2
theorem schedBudget_in (q : List PV) (n : q.length = [CTy.sl [.int .u8], .sl [.int .u8, .int .u8]].length) (i : ∀ (j : Nat) (c : CTy) (p : PV), [CTy.sl [.int .u8], .sl [.int .u8, .int .u8]][j]? = some c → q[j]? = some p → InTy c p) (b : Int) (hb : (Lit.int .i16 b).wf = true) : VC Try.prog 5 [.agg q, .int .i16 b] [] (.bool true) [] := by
  obtain ⟨x, rfl, hx⟩ := decRaw n i
  obtain ⟨h1, h2⟩ := wf_i16 hb
  exact budget_law_vc hx h1 h2
theorem schedWorks_in (q : List PV) (n : q.length = [CTy.sl [.int .u8], .sl [.int .u8, .int .u8]].length) (i : ∀ (j : Nat) (c : CTy) (p : PV), [CTy.sl [.int .u8], .sl [.int .u8, .int .u8]][j]? = some c → q[j]? = some p → InTy c p) (b : Int) (hb : (Lit.int .i16 b).wf = true) : VC Try.prog 7 [.agg q, .int .i16 b] [] (.bool true) [] := by
  obtain ⟨x, rfl, hx⟩ := decRaw n i
  obtain ⟨h1, h2⟩ := wf_i16 hb
  exact works_law_vc hx h1 h2
theorem schedOrder_in (q : List PV) (n : q.length = [CTy.sl [.int .u8], .sl [.int .u8, .int .u8]].length) (i : ∀ (j : Nat) (c : CTy) (p : PV), [CTy.sl [.int .u8], .sl [.int .u8, .int .u8]][j]? = some c → q[j]? = some p → InTy c p) (l : List (List PV)) (il : InTy (.sl [.int .i16]) (.sh false l)) : VC Try.prog 6 [.agg q, .sh false l] [] (.bool true) [] := by
  obtain ⟨x, rfl, hx⟩ := decRaw n i
  obtain ⟨w, rfl, hw⟩ := decH il
  exact order_law_vc hx hw
theorem schedFair_in (q : List PV) (n : q.length = [CTy.sl [.int .u8], .sl [.int .u8, .int .u8]].length) (i : ∀ (j : Nat) (c : CTy) (p : PV), [CTy.sl [.int .u8], .sl [.int .u8, .int .u8]][j]? = some c → q[j]? = some p → InTy c p) (l : List (List PV)) (il : InTy (.sl [.int .i16]) (.sh false l)) : VC Try.prog 8 [.agg q, .sh false l] [] (.bool true) [] := by
  obtain ⟨x, rfl, hx⟩ := decRaw n i
  obtain ⟨w, rfl, hw⟩ := decH il
  exact fair_law_vc hx hw
theorem schedMatches_in (q : List PV) (n : q.length = [CTy.sl [.int .u8], .sl [.int .u8, .int .u8]].length) (i : ∀ (j : Nat) (c : CTy) (p : PV), [CTy.sl [.int .u8], .sl [.int .u8, .int .u8]][j]? = some c → q[j]? = some p → InTy c p)
    (q2 : List PV) (n2 : q2.length = [CTy.int .i64, .int .i64, .int .i64].length) (i2 : ∀ (j : Nat) (c : CTy) (p : PV), [CTy.int .i64, .int .i64, .int .i64][j]? = some c → q2[j]? = some p → InTy c p) (l : List (List PV)) (il : InTy (.sl [.int .i16]) (.sh false l)) : VC Try.prog 3 [.agg q, .agg q2, .sh false l] [] (.bool true) [] := by
  obtain ⟨x, rfl, hx⟩ := decRaw n i
  obtain ⟨j, rfl⟩ := decJob n2 i2
  obtain ⟨w, rfl, hw⟩ := decH il
  exact matches_law_vc hx j hw
theorem schedRefuses_in (q : List PV) (n : q.length = [CTy.sl [.int .u8], .sl [.int .u8, .int .u8]].length) (i : ∀ (j : Nat) (c : CTy) (p : PV), [CTy.sl [.int .u8], .sl [.int .u8, .int .u8]][j]? = some c → q[j]? = some p → InTy c p)
    (q2 : List PV) (n2 : q2.length = [CTy.int .i64, .int .i64, .int .i64].length) (i2 : ∀ (j : Nat) (c : CTy) (p : PV), [CTy.int .i64, .int .i64, .int .i64][j]? = some c → q2[j]? = some p → InTy c p) (b : Int) (hb : (Lit.int .u8 b).wf = true) : VC Try.prog 9 [.agg q, .agg q2, .int .u8 b] [] (.bool true) [] := by
  obtain ⟨x, rfl, hx⟩ := decRaw n i
  obtain ⟨j, rfl⟩ := decJob n2 i2
  have h : 0 ≤ b ∧ b < 256 := by
    simp [Lit.wf, IntKind.min, IntKind.max, IntKind.signed, IntKind.bits] at hb
    omega
  have e : b = ((b.toNat : Nat) : Int) := by omega
  rw [e]
  exact refuses_vc hx j (by omega)
end Go.Proofs
