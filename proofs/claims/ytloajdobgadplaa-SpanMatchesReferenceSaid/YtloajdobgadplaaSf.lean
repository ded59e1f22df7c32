/- Sf -/
import Derived.Test.YtloajdobgadplaaSe
open Go.V Go.Pu
set_option linter.unusedVariables false
set_option linter.unusedSimpArgs false
set_option maxRecDepth 20000
namespace Go.Proofs
/-- slices.partialInsertionSortCmpFunc[downspout/api.Span] -/
def vc65 : VCode :=
 (.seq
 (.region 0 false [
 ⟨(some 8), .copy (.c (.bool false)), none, 0, []⟩])
 (.seq
 (.region 1 false [
 ⟨(some 13), .copy (.t 1), none, 8192, []⟩,
 ⟨(some 14), .bin .add (.t 13) (.c (.int .i64 1)), none, 8200, [0]⟩,
 ⟨(some 9), .copy (.t 14), none, 8208, [1, 0]⟩])
 (.seq
 (.seq
 (.region 2 false [
 ⟨(some 10), .copy (.c (.int .i64 0)), none, 16384, []⟩])
 (.block 0
 (.loop
 (.seq
 (.seq
 (.region 3 false [
 ⟨(some 15), .copy (.t 10), none, 24576, []⟩,
 ⟨(some 16), .bin .lss (.t 15) (.c (.int .i64 5)), none, 24584, [0]⟩])
 (.cond (.t 16)
 .skip
 (.exit 0)))
 (.seq
 (.block 1
 (.seq
 (.block 2
 (.loop
 (.seq
 (.seq
 (.region 5 true [
 ⟨(some 19), .copy (.t 9), none, 40960, []⟩,
 ⟨(some 20), .copy (.t 2), none, 40968, []⟩,
 ⟨(some 21), .bin .lss (.t 19) (.t 20), none, 40976, [0, 1]⟩,
 ⟨(some 22), .copy (.t 21), none, 40984, [2, 0, 1]⟩,
 ⟨(some 23), .copy (.t 3), (some (3, 22, true)), 40992, [3, 2, 0, 1]⟩,
 ⟨(some 24), .copy (.t 0), (some (3, 22, true)), 41000, [3, 2, 0, 1]⟩,
 ⟨(some 25), .copy (.t 9), (some (3, 22, true)), 41008, [3, 2, 0, 1]⟩,
 ⟨(some 26), .iaddr 2 (.t 24) (.t 25), (some (3, 22, true)), 41016, [5, 3, 2, 0, 1, 6]⟩,
 ⟨(some 27), .load true 2 (.t 26), (some (3, 22, true)), 41024, [7, 5, 3, 2, 0, 1, 6]⟩,
 ⟨(some 28), .copy (.t 0), (some (3, 22, true)), 41032, [3, 2, 0, 1]⟩,
 ⟨(some 29), .copy (.t 9), (some (3, 22, true)), 41040, [3, 2, 0, 1]⟩,
 ⟨(some 30), .bin .sub (.t 29) (.c (.int .i64 1)), (some (3, 22, true)), 41048, [10, 3, 2, 0, 1]⟩,
 ⟨(some 31), .iaddr 2 (.t 28) (.t 30), (some (3, 22, true)), 41056, [9, 3, 2, 0, 1, 11, 10]⟩,
 ⟨(some 32), .load true 2 (.t 31), (some (3, 22, true)), 41064, [12, 9, 3, 2, 0, 1, 11, 10]⟩,
 ⟨(some 33), .call (.t 23) [(.t 27), (.t 32)], (some (3, 22, true)), 41072, [4, 3, 2, 0, 1, 8, 7, 5, 6, 13, 12, 9, 11, 10]⟩,
 ⟨(some 34), .bin .lss (.t 33) (.c (.int .i64 0)), (some (3, 22, true)), 41080, [14, 4, 3, 2, 0, 1, 8, 7, 5, 6, 13, 12, 9, 11, 10]⟩,
 ⟨(some 35), .not (.t 34), (some (3, 22, true)), 41088, [15, 14, 4, 3, 2, 0, 1, 8, 7, 5, 6, 13, 12, 9, 11, 10]⟩,
 ⟨(some 36), .pick (.t 22) (.t 35) (.c (.bool false)), none, 41096, [3, 2, 0, 1, 16, 15, 14, 4, 8, 7, 5, 6, 13, 12, 9, 11, 10]⟩])
 (.cond (.t 36)
 .skip
 (.exit 2)))
 (.block 3
 (.region 6 false [
 ⟨(some 37), .copy (.t 9), none, 49152, []⟩,
 ⟨(some 38), .bin .add (.t 37) (.c (.int .i64 1)), none, 49160, [0]⟩,
 ⟨(some 9), .copy (.t 38), none, 49168, [1, 0]⟩])))))
 (.seq
 (.seq
 (.region 7 false [
 ⟨(some 39), .copy (.t 9), none, 57344, []⟩,
 ⟨(some 40), .copy (.t 2), none, 57352, []⟩,
 ⟨(some 41), .bin .eql (.t 39) (.t 40), none, 57360, [0, 1]⟩])
 (.cond (.t 41)
 (.seq
 (.region 8 false [
 ⟨(some 8), .copy (.c (.bool true)), none, 65536, []⟩])
 .ret)
 .skip))
 (.seq
 (.seq
 (.region 9 false [
 ⟨(some 42), .copy (.t 2), none, 73728, []⟩,
 ⟨(some 43), .copy (.t 1), none, 73736, []⟩,
 ⟨(some 44), .bin .sub (.t 42) (.t 43), none, 73744, [0, 1]⟩,
 ⟨(some 45), .bin .lss (.t 44) (.c (.int .i64 50)), none, 73752, [2, 0, 1]⟩])
 (.cond (.t 45)
 (.seq
 (.region 10 false [
 ⟨(some 8), .copy (.c (.bool false)), none, 81920, []⟩])
 .ret)
 .skip))
 (.seq
 (.region 11 true [
 ⟨(some 46), .copy (.t 0), none, 90112, []⟩,
 ⟨(some 47), .copy (.t 9), none, 90120, []⟩,
 ⟨(some 48), .copy (.t 0), none, 90128, []⟩,
 ⟨(some 49), .copy (.t 9), none, 90136, []⟩,
 ⟨(some 50), .bin .sub (.t 49) (.c (.int .i64 1)), none, 90144, [3]⟩,
 ⟨(some 51), .copy (.t 0), none, 90152, []⟩,
 ⟨(some 52), .copy (.t 9), none, 90160, []⟩,
 ⟨(some 53), .bin .sub (.t 52) (.c (.int .i64 1)), none, 90168, [6]⟩,
 ⟨(some 54), .iaddr 2 (.t 51) (.t 53), none, 90176, [5, 7, 6]⟩,
 ⟨(some 55), .load true 2 (.t 54), none, 90184, [8, 5, 7, 6]⟩,
 ⟨(some 56), .copy (.t 0), none, 90192, []⟩,
 ⟨(some 57), .copy (.t 9), none, 90200, []⟩,
 ⟨(some 58), .iaddr 2 (.t 56) (.t 57), none, 90208, [10, 11]⟩,
 ⟨(some 59), .load true 2 (.t 58), none, 90216, [12, 10, 11]⟩,
 ⟨(some 60), .iaddr 2 (.t 46) (.t 47), none, 90224, [0, 1, 5, 6, 7, 8, 9, 13, 12, 10, 11]⟩,
 ⟨none, .store 2 (.t 60) (.t 55), none, 90232, [14, 0, 1, 5, 6, 7, 8, 9, 13, 12, 10, 11]⟩,
 ⟨(some 61), .iaddr 2 (.t 48) (.t 50), none, 90240, [2, 4, 3, 0, 1, 5, 6, 7, 8, 9, 10, 11, 12, 13, 14, 15]⟩,
 ⟨none, .store 2 (.t 61) (.t 59), none, 90248, [16, 2, 4, 3, 0, 1, 5, 6, 7, 8, 9, 10, 11, 12, 13, 14, 15]⟩])
 (.seq
 (.seq
 (.region 12 false [
 ⟨(some 62), .copy (.t 9), none, 98304, []⟩,
 ⟨(some 63), .copy (.t 1), none, 98312, []⟩,
 ⟨(some 64), .bin .sub (.t 62) (.t 63), none, 98320, [0, 1]⟩,
 ⟨(some 65), .bin .geq (.t 64) (.c (.int .i64 2)), none, 98328, [2, 0, 1]⟩])
 (.cond (.t 65)
 (.seq
 (.region 13 false [
 ⟨(some 66), .copy (.t 9), none, 106496, []⟩,
 ⟨(some 67), .bin .sub (.t 66) (.c (.int .i64 1)), none, 106504, [0]⟩,
 ⟨(some 11), .copy (.t 67), none, 106512, [1, 0]⟩])
 (.block 4
 (.loop
 (.seq
 (.seq
 (.region 14 false [
 ⟨(some 68), .copy (.t 11), none, 114688, []⟩,
 ⟨(some 69), .bin .geq (.t 68) (.c (.int .i64 1)), none, 114696, [0]⟩])
 (.cond (.t 69)
 .skip
 (.exit 4)))
 (.seq
 (.block 5
 (.seq
 (.seq
 (.region 16 true [
 ⟨(some 72), .copy (.t 3), none, 131072, []⟩,
 ⟨(some 73), .copy (.t 0), none, 131080, []⟩,
 ⟨(some 74), .copy (.t 11), none, 131088, []⟩,
 ⟨(some 75), .iaddr 2 (.t 73) (.t 74), none, 131096, [1, 2]⟩,
 ⟨(some 76), .load true 2 (.t 75), none, 131104, [3, 1, 2]⟩,
 ⟨(some 77), .copy (.t 0), none, 131112, []⟩,
 ⟨(some 78), .copy (.t 11), none, 131120, []⟩,
 ⟨(some 79), .bin .sub (.t 78) (.c (.int .i64 1)), none, 131128, [6]⟩,
 ⟨(some 80), .iaddr 2 (.t 77) (.t 79), none, 131136, [5, 7, 6]⟩,
 ⟨(some 81), .load true 2 (.t 80), none, 131144, [8, 5, 7, 6]⟩,
 ⟨(some 82), .call (.t 72) [(.t 76), (.t 81)], none, 131152, [0, 4, 3, 1, 2, 9, 8, 5, 7, 6]⟩,
 ⟨(some 83), .bin .lss (.t 82) (.c (.int .i64 0)), none, 131160, [10, 0, 4, 3, 1, 2, 9, 8, 5, 7, 6]⟩,
 ⟨(some 84), .not (.t 83), none, 131168, [11, 10, 0, 4, 3, 1, 2, 9, 8, 5, 7, 6]⟩])
 (.cond (.t 84)
 (.exit 4)
 .skip))
 (.region 17 true [
 ⟨(some 85), .copy (.t 0), none, 139264, []⟩,
 ⟨(some 86), .copy (.t 11), none, 139272, []⟩,
 ⟨(some 87), .copy (.t 0), none, 139280, []⟩,
 ⟨(some 88), .copy (.t 11), none, 139288, []⟩,
 ⟨(some 89), .bin .sub (.t 88) (.c (.int .i64 1)), none, 139296, [3]⟩,
 ⟨(some 90), .copy (.t 0), none, 139304, []⟩,
 ⟨(some 91), .copy (.t 11), none, 139312, []⟩,
 ⟨(some 92), .bin .sub (.t 91) (.c (.int .i64 1)), none, 139320, [6]⟩,
 ⟨(some 93), .iaddr 2 (.t 90) (.t 92), none, 139328, [5, 7, 6]⟩,
 ⟨(some 94), .load true 2 (.t 93), none, 139336, [8, 5, 7, 6]⟩,
 ⟨(some 95), .copy (.t 0), none, 139344, []⟩,
 ⟨(some 96), .copy (.t 11), none, 139352, []⟩,
 ⟨(some 97), .iaddr 2 (.t 95) (.t 96), none, 139360, [10, 11]⟩,
 ⟨(some 98), .load true 2 (.t 97), none, 139368, [12, 10, 11]⟩,
 ⟨(some 99), .iaddr 2 (.t 85) (.t 86), none, 139376, [0, 1, 5, 6, 7, 8, 9, 13, 12, 10, 11]⟩,
 ⟨none, .store 2 (.t 99) (.t 94), none, 139384, [14, 0, 1, 5, 6, 7, 8, 9, 13, 12, 10, 11]⟩,
 ⟨(some 100), .iaddr 2 (.t 87) (.t 89), none, 139392, [2, 4, 3, 0, 1, 5, 6, 7, 8, 9, 10, 11, 12, 13, 14, 15]⟩,
 ⟨none, .store 2 (.t 100) (.t 98), none, 139400, [16, 2, 4, 3, 0, 1, 5, 6, 7, 8, 9, 10, 11, 12, 13, 14, 15]⟩])))
 (.region 15 false [
 ⟨(some 70), .copy (.t 11), none, 122880, []⟩,
 ⟨(some 71), .bin .sub (.t 70) (.c (.int .i64 1)), none, 122888, [0]⟩,
 ⟨(some 11), .copy (.t 71), none, 122896, [1, 0]⟩]))))))
 .skip))
 (.seq
 (.region 18 false [
 ⟨(some 101), .copy (.t 2), none, 147456, []⟩,
 ⟨(some 102), .copy (.t 9), none, 147464, []⟩,
 ⟨(some 103), .bin .sub (.t 101) (.t 102), none, 147472, [0, 1]⟩,
 ⟨(some 104), .bin .geq (.t 103) (.c (.int .i64 2)), none, 147480, [2, 0, 1]⟩])
 (.cond (.t 104)
 (.seq
 (.region 19 false [
 ⟨(some 105), .copy (.t 9), none, 155648, []⟩,
 ⟨(some 106), .bin .add (.t 105) (.c (.int .i64 1)), none, 155656, [0]⟩,
 ⟨(some 12), .copy (.t 106), none, 155664, [1, 0]⟩])
 (.block 6
 (.loop
 (.seq
 (.seq
 (.region 20 false [
 ⟨(some 107), .copy (.t 12), none, 163840, []⟩,
 ⟨(some 108), .copy (.t 2), none, 163848, []⟩,
 ⟨(some 109), .bin .lss (.t 107) (.t 108), none, 163856, [0, 1]⟩])
 (.cond (.t 109)
 .skip
 (.exit 6)))
 (.seq
 (.block 7
 (.seq
 (.seq
 (.region 22 true [
 ⟨(some 112), .copy (.t 3), none, 180224, []⟩,
 ⟨(some 113), .copy (.t 0), none, 180232, []⟩,
 ⟨(some 114), .copy (.t 12), none, 180240, []⟩,
 ⟨(some 115), .iaddr 2 (.t 113) (.t 114), none, 180248, [1, 2]⟩,
 ⟨(some 116), .load true 2 (.t 115), none, 180256, [3, 1, 2]⟩,
 ⟨(some 117), .copy (.t 0), none, 180264, []⟩,
 ⟨(some 118), .copy (.t 12), none, 180272, []⟩,
 ⟨(some 119), .bin .sub (.t 118) (.c (.int .i64 1)), none, 180280, [6]⟩,
 ⟨(some 120), .iaddr 2 (.t 117) (.t 119), none, 180288, [5, 7, 6]⟩,
 ⟨(some 121), .load true 2 (.t 120), none, 180296, [8, 5, 7, 6]⟩,
 ⟨(some 122), .call (.t 112) [(.t 116), (.t 121)], none, 180304, [0, 4, 3, 1, 2, 9, 8, 5, 7, 6]⟩,
 ⟨(some 123), .bin .lss (.t 122) (.c (.int .i64 0)), none, 180312, [10, 0, 4, 3, 1, 2, 9, 8, 5, 7, 6]⟩,
 ⟨(some 124), .not (.t 123), none, 180320, [11, 10, 0, 4, 3, 1, 2, 9, 8, 5, 7, 6]⟩])
 (.cond (.t 124)
 (.exit 6)
 .skip))
 (.region 23 true [
 ⟨(some 125), .copy (.t 0), none, 188416, []⟩,
 ⟨(some 126), .copy (.t 12), none, 188424, []⟩,
 ⟨(some 127), .copy (.t 0), none, 188432, []⟩,
 ⟨(some 128), .copy (.t 12), none, 188440, []⟩,
 ⟨(some 129), .bin .sub (.t 128) (.c (.int .i64 1)), none, 188448, [3]⟩,
 ⟨(some 130), .copy (.t 0), none, 188456, []⟩,
 ⟨(some 131), .copy (.t 12), none, 188464, []⟩,
 ⟨(some 132), .bin .sub (.t 131) (.c (.int .i64 1)), none, 188472, [6]⟩,
 ⟨(some 133), .iaddr 2 (.t 130) (.t 132), none, 188480, [5, 7, 6]⟩,
 ⟨(some 134), .load true 2 (.t 133), none, 188488, [8, 5, 7, 6]⟩,
 ⟨(some 135), .copy (.t 0), none, 188496, []⟩,
 ⟨(some 136), .copy (.t 12), none, 188504, []⟩,
 ⟨(some 137), .iaddr 2 (.t 135) (.t 136), none, 188512, [10, 11]⟩,
 ⟨(some 138), .load true 2 (.t 137), none, 188520, [12, 10, 11]⟩,
 ⟨(some 139), .iaddr 2 (.t 125) (.t 126), none, 188528, [0, 1, 5, 6, 7, 8, 9, 13, 12, 10, 11]⟩,
 ⟨none, .store 2 (.t 139) (.t 134), none, 188536, [14, 0, 1, 5, 6, 7, 8, 9, 13, 12, 10, 11]⟩,
 ⟨(some 140), .iaddr 2 (.t 127) (.t 129), none, 188544, [2, 4, 3, 0, 1, 5, 6, 7, 8, 9, 10, 11, 12, 13, 14, 15]⟩,
 ⟨none, .store 2 (.t 140) (.t 138), none, 188552, [16, 2, 4, 3, 0, 1, 5, 6, 7, 8, 9, 10, 11, 12, 13, 14, 15]⟩])))
 (.region 21 false [
 ⟨(some 110), .copy (.t 12), none, 172032, []⟩,
 ⟨(some 111), .bin .add (.t 110) (.c (.int .i64 1)), none, 172040, [0]⟩,
 ⟨(some 12), .copy (.t 111), none, 172048, [1, 0]⟩]))))))
 .skip))))))))
 (.region 4 false [
 ⟨(some 17), .copy (.t 10), none, 32768, []⟩,
 ⟨(some 18), .bin .add (.t 17) (.c (.int .i64 1)), none, 32776, [0]⟩,
 ⟨(some 10), .copy (.t 18), none, 32784, [1, 0]⟩]))))))
 (.seq
 (.region 24 false [
 ⟨(some 8), .copy (.c (.bool false)), none, 196608, []⟩])
 .ret))))
theorem vf65 : VF Try.prog 65 = some (141, vc65, [.tmp 8]) := by kernel_rfl
/-! The sort: the partial insertion -/
set_option maxHeartbeats 4000000 in
theorem pins_vc {N n : Nat} (xs : List SpanL) (a b : Nat) (hN : xs.length = N) (hab : a < b) (hb : b ≤ n) (hn : n ≤ N) (hm : N ≤ 60000) :
    VC Try.prog 65 [.own ⟨0, 0⟩ N 0 n, .int .i64 a, .int .i64 b, .fn 47 []] [blkV 2 (xs.map encS)] (.bool (Sort.partialInsertionSort ltS xs.toArray a b).2) (srt (Sort.partialInsertionSort ltS xs.toArray a b).1) := by
  refine vc_of vf65 ?_ (Nat.le_of_ble_eq_true rfl) (by intro vs h; cases h)
  repeat first | refine o_copy ?_ | refine nl ?_ | refine ct_seq ?_ | refine rg ?_ | refine ct_block ?_ | refine bq ?_ | refine o_iaddr ?_ | refine o_iaddrO ?_ | refine o_iaddrR ?_ | refine o_add ?_ | refine o_sub ?_ | refine o_cat ?_ | refine o_bin ?_ | refine o_loadsA ?_ | refine o_loadpA ?_ | refine o_store ?_ | refine o_not ?_ | refine o_pickt ?_ | refine o_pickf ?_ | refine skF ?_ | refine skU ?_
  refine ct_loopG (fun (g : Nat × Nat × List SpanL) => [(0, .own ⟨0, 0⟩ N 0 n), (1, .int .i64 a), (2, .int .i64 b), (3, .fn 47 []), (8, .bool false), (9, .int .i64 (g.2.1 : Nat)), (10, .int .i64 g.1)])
    (fun g => [(⟨0, 0⟩, blkV 2 (g.2.2.map encS))]) (fun g => 5 - g.1)
    (fun g => g.1 ≤ 5 ∧ a + 1 ≤ g.2.1 ∧ g.2.1 ≤ b ∧ g.2.2.length = N ∧ Sort.partialIns ltS a b (5 - g.1) g.2.1 g.2.2.toArray = Sort.partialInsertionSort ltS xs.toArray a b) (0, a + 1, xs)
    goes ⟨by omega, Nat.le_refl _, hab, hN, rfl⟩ ?_
  rintro ⟨k, i, ys⟩ ⟨hk, hai, hib, hyl, hv⟩
  dsimp only at hk hai hib hyl hv ⊢
  repeat first | refine o_copy ?_ | refine nl ?_ | refine ct_seq ?_ | refine rg ?_ | refine ct_block ?_ | refine bq ?_ | refine o_iaddr ?_ | refine o_iaddrO ?_ | refine o_iaddrR ?_ | refine o_add ?_ | refine o_sub ?_ | refine o_cat ?_ | refine o_bin ?_ | refine o_loadsA ?_ | refine o_loadpA ?_ | refine o_store ?_ | refine o_not ?_ | refine o_pickt ?_ | refine o_pickf ?_ | refine skF ?_ | refine skU ?_
  by_cases hk5 : k < 5
  case neg =>
    refine cndf (ct_exit ?_) rfl (decide_eq_false (by omega))
    rw [show 5 - k = 0 by omega, Sort.partialIns] at hv
    repeat first | refine o_copy ?_ | refine nl ?_ | refine ct_seq ?_ | refine rg ?_ | refine ct_block ?_ | refine bq ?_ | refine o_iaddr ?_ | refine o_iaddrO ?_ | refine o_iaddrR ?_ | refine o_add ?_ | refine o_sub ?_ | refine o_cat ?_ | refine o_bin ?_ | refine o_loadsA ?_ | refine o_loadpA ?_ | refine o_store ?_ | refine o_not ?_ | refine o_pickt ?_ | refine o_pickf ?_ | refine skF ?_ | refine skU ?_
    rw [← hv]
    exact ct_ret ⟨.inr rfl, oL1 rfl⟩
  refine cndt (ct_skip ?_) rfl (decide_eq_true (by omega))
  rw [show 5 - k = (5 - (k + 1)) + 1 by omega, Sort.partialIns] at hv
  simp only at hv
  refine ct_seq (ct_block (ct_mid (lvl := 1) (fun (g : Nat) => [(0, .own ⟨0, 0⟩ N 0 n), (1, .int .i64 a), (2, .int .i64 b), (3, .fn 47 []), (8, .bool false), (9, .int .i64 g), (10, .int .i64 k)])
    (fun g => [(⟨0, 0⟩, blkV 2 (ys.map encS))]) (fun g => a + 1 ≤ g ∧ g ≤ b ∧ g = Sort.scanSorted ltS ys.toArray b i) (ct_block ?_) ?_))
  · refine ct_loopG (fun (g : Nat) => [(0, .own ⟨0, 0⟩ N 0 n), (1, .int .i64 a), (2, .int .i64 b), (3, .fn 47 []), (8, .bool false), (9, .int .i64 g), (10, .int .i64 k)])
      (fun g => [(⟨0, 0⟩, blkV 2 (ys.map encS))]) (fun g => b - g) (fun g => a + 1 ≤ g ∧ g ≤ b ∧ Sort.scanSorted ltS ys.toArray b g = Sort.scanSorted ltS ys.toArray b i) i goes ⟨hai, hib, rfl⟩ ?_
    rintro i2 ⟨h1, h2, hw⟩
    (try dsimp only)
    rw [Sort.scanSorted] at hw
    by_cases hlt : i2 < b
    · have d1 : decide ((i2 : Int) < (b : Int)) = true := decide_eq_true (by omega)
      obtain ⟨x, hx⟩ : ∃ x, ys[i2]? = some x := ⟨_, List.getElem?_eq_getElem (by omega)⟩
      obtain ⟨y, hy⟩ : ∃ y, ys[i2 - 1]? = some y := ⟨_, List.getElem?_eq_getElem (by omega)⟩
      have hx' := els_at (k := 0 + (i2 : Int).toNat) hx (by omega)
      have hy' := els_at (k := 0 + ((i2 : Int) - 1).toNat) hy (by omega)
      rw [gb hx, gb hy] at hw
      repeat first | refine o_copy ?_ | refine nl ?_ | refine ct_seq ?_ | refine rg ?_ | refine ct_block ?_ | refine bq ?_ | refine o_iaddrG ?_ | refine cv0 (cmpf_vc x y) ?_ | refine o_iaddr ?_ | refine o_iaddrO ?_ | refine o_iaddrR ?_ | refine o_add ?_ | refine o_sub ?_ | refine o_cat ?_ | refine o_bin ?_ | refine o_loadsA ?_ | refine o_loadpA ?_ | refine o_store ?_ | refine o_not ?_ | refine o_pickt ?_ | refine o_pickf ?_ | refine skF ?_ | refine skU ?_
      refine cnd (fun h => ct_skip ?_) (fun h => ct_exit ?_)
      · rw [if_pos (by simp [hlt]; simpa [ltS] using h)] at hw
        repeat first | refine o_copy ?_ | refine nl ?_ | refine ct_seq ?_ | refine rg ?_ | refine ct_block ?_ | refine bq ?_ | refine o_iaddr ?_ | refine o_iaddrO ?_ | refine o_iaddrR ?_ | refine o_add ?_ | refine o_sub ?_ | refine o_cat ?_ | refine o_bin ?_ | refine o_loadsA ?_ | refine o_loadpA ?_ | refine o_store ?_ | refine o_not ?_ | refine o_pickt ?_ | refine o_pickf ?_ | refine skF ?_ | refine skU ?_
        exact agn (i2 + 1) ⟨by omega, by omega, hw⟩ goes
      · rw [if_neg (by simp [hlt]; simpa [ltS] using h)] at hw
        exact ⟨i2, ⟨h1, h2, hw⟩, goes⟩
    · have d1 : decide ((i2 : Int) < (b : Int)) = false := decide_eq_false (by omega)
      rw [if_neg (by simp [hlt])] at hw
      repeat first | refine o_copy ?_ | refine nl ?_ | refine ct_seq ?_ | refine rg ?_ | refine ct_block ?_ | refine bq ?_ | refine o_iaddr ?_ | refine o_iaddrO ?_ | refine o_iaddrR ?_ | refine o_add ?_ | refine o_sub ?_ | refine o_cat ?_ | refine o_bin ?_ | refine o_loadsA ?_ | refine o_loadpA ?_ | refine o_store ?_ | refine o_not ?_ | refine o_pickt ?_ | refine o_pickf ?_ | refine skF ?_ | refine skU ?_
      refine cndf (ct_exit ?_)
      exact ⟨i2, ⟨h1, h2, hw⟩, goes⟩
  · rintro i2 ⟨h1, h2, hw⟩
    rw [← hw] at hv
    (try dsimp only)
    repeat first | refine o_copy ?_ | refine nl ?_ | refine ct_seq ?_ | refine rg ?_ | refine ct_block ?_ | refine bq ?_ | refine o_iaddr ?_ | refine o_iaddrO ?_ | refine o_iaddrR ?_ | refine o_add ?_ | refine o_sub ?_ | refine o_cat ?_ | refine o_bin ?_ | refine o_loadsA ?_ | refine o_loadpA ?_ | refine o_store ?_ | refine o_not ?_ | refine o_pickt ?_ | refine o_pickf ?_ | refine skF ?_ | refine skU ?_
    by_cases hib2 : i2 = b
    · refine cndt ?_ rfl (by simp [hib2])
      rw [if_pos hib2] at hv
      repeat first | refine o_copy ?_ | refine nl ?_ | refine ct_seq ?_ | refine rg ?_ | refine ct_block ?_ | refine bq ?_ | refine o_iaddr ?_ | refine o_iaddrO ?_ | refine o_iaddrR ?_ | refine o_add ?_ | refine o_sub ?_ | refine o_cat ?_ | refine o_bin ?_ | refine o_loadsA ?_ | refine o_loadpA ?_ | refine o_store ?_ | refine o_not ?_ | refine o_pickt ?_ | refine o_pickf ?_ | refine skF ?_ | refine skU ?_
      rw [← hv]
      exact ct_ret ⟨.inr rfl, oL1 rfl⟩
    refine cndf (ct_skip ?_) rfl (by simp; omega)
    rw [if_neg hib2] at hv
    repeat first | refine o_copy ?_ | refine nl ?_ | refine ct_seq ?_ | refine rg ?_ | refine ct_block ?_ | refine bq ?_ | refine o_iaddr ?_ | refine o_iaddrO ?_ | refine o_iaddrR ?_ | refine o_add ?_ | refine o_sub ?_ | refine o_cat ?_ | refine o_bin ?_ | refine o_loadsA ?_ | refine o_loadpA ?_ | refine o_store ?_ | refine o_not ?_ | refine o_pickt ?_ | refine o_pickf ?_ | refine skF ?_ | refine skU ?_
    by_cases h50 : b - a < 50
    · refine cndt ?_ rfl (decide_eq_true (by omega))
      rw [if_pos h50] at hv
      repeat first | refine o_copy ?_ | refine nl ?_ | refine ct_seq ?_ | refine rg ?_ | refine ct_block ?_ | refine bq ?_ | refine o_iaddr ?_ | refine o_iaddrO ?_ | refine o_iaddrR ?_ | refine o_add ?_ | refine o_sub ?_ | refine o_cat ?_ | refine o_bin ?_ | refine o_loadsA ?_ | refine o_loadpA ?_ | refine o_store ?_ | refine o_not ?_ | refine o_pickt ?_ | refine o_pickf ?_ | refine skF ?_ | refine skU ?_
      rw [← hv]
      exact ct_ret ⟨.inr rfl, oL1 rfl⟩
    refine cndf (ct_skip ?_) rfl (decide_eq_false (by omega))
    rw [if_neg h50] at hv
    obtain ⟨x, hx⟩ : ∃ x, ys[i2]? = some x := ⟨_, List.getElem?_eq_getElem (by omega)⟩
    obtain ⟨y, hy⟩ : ∃ y, ys[i2 - 1]? = some y := ⟨_, List.getElem?_eq_getElem (by omega)⟩
    have hk1 : 0 + (i2 : Int).toNat = i2 := by omega
    have hk2 : 0 + ((i2 : Int) - 1).toNat = i2 - 1 := by omega
    have hx' := els_at hx hk1
    have hy' := els_at hy hk2
    rw [swp_eq hx hy] at hv
    refine ct_seq (rg ?_)
    repeat first | refine o_copy ?_ | refine o_iaddrG ?_ | refine o_v (vst encS y) ?_ | refine o_v (vst encS x) ?_ | refine o_iaddr ?_ | refine o_iaddrO ?_ | refine o_iaddrR ?_ | refine o_add ?_ | refine o_sub ?_ | refine o_cat ?_ | refine o_bin ?_ | refine o_loadsA ?_ | refine o_loadpA ?_ | refine o_store ?_ | refine o_not ?_ | refine o_pickt ?_ | refine o_pickf ?_ | refine skF ?_ | refine skU ?_
    refine nl ?_
    rw [hk1, hk2]
    have hdl : ((ys.set i2 y).set (i2 - 1) x).length = N := by simpa only [List.length_set] using hyl
    generalize (ys.set i2 y).set (i2 - 1) x = ds at hv hdl
    refine ct_mid (lvl := 1) (fun (g : List SpanL) => [(0, .own ⟨0, 0⟩ N 0 n), (1, .int .i64 a), (2, .int .i64 b), (3, .fn 47 []), (8, .bool false), (9, .int .i64 i2), (10, .int .i64 k)])
      (fun g => [(⟨0, 0⟩, blkV 2 (g.map encS))]) (fun g => g.length = N ∧ g.toArray = if i2 - a ≥ 2 then Sort.shiftDown ltS (i2 - 1) ds.toArray else ds.toArray) ?_ ?_
    · repeat first | refine o_copy ?_ | refine nl ?_ | refine ct_seq ?_ | refine rg ?_ | refine ct_block ?_ | refine bq ?_ | refine o_iaddr ?_ | refine o_iaddrO ?_ | refine o_iaddrR ?_ | refine o_add ?_ | refine o_sub ?_ | refine o_cat ?_ | refine o_bin ?_ | refine o_loadsA ?_ | refine o_loadpA ?_ | refine o_store ?_ | refine o_not ?_ | refine o_pickt ?_ | refine o_pickf ?_ | refine skF ?_ | refine skU ?_
      by_cases hia : i2 - a ≥ 2
      · refine cndt ?_ rfl (decide_eq_true (by omega))
        rw [if_pos hia]
        repeat first | refine o_copy ?_ | refine nl ?_ | refine ct_seq ?_ | refine rg ?_ | refine ct_block ?_ | refine bq ?_ | refine o_iaddr ?_ | refine o_iaddrO ?_ | refine o_iaddrR ?_ | refine o_add ?_ | refine o_sub ?_ | refine o_cat ?_ | refine o_bin ?_ | refine o_loadsA ?_ | refine o_loadpA ?_ | refine o_store ?_ | refine o_not ?_ | refine o_pickt ?_ | refine o_pickf ?_ | refine skF ?_ | refine skU ?_
        refine ct_loopG (fun (g : Nat × List SpanL) => [(0, .own ⟨0, 0⟩ N 0 n), (1, .int .i64 a), (2, .int .i64 b), (3, .fn 47 []), (8, .bool false), (9, .int .i64 i2), (10, .int .i64 k), (11, .int .i64 g.1)])
          (fun g => [(⟨0, 0⟩, blkV 2 (g.2.map encS))]) (fun g => g.1) (fun g => g.1 ≤ i2 - 1 ∧ g.2.length = N ∧ Sort.shiftDown ltS g.1 g.2.toArray = Sort.shiftDown ltS (i2 - 1) ds.toArray) (i2 - 1, ds)
          (goes (h1 := by refine ⟨rfl, rfl, rfl, rfl, rfl, rfl, rfl, congrArg (fun z => some (PV.int .i64 z)) (by simp only; omega), trivial⟩)) ⟨Nat.le_refl _, hdl, rfl⟩ ?_
        rintro ⟨j, zs⟩ ⟨hj, hzl, hz⟩
        dsimp only at hj hzl hz ⊢
        repeat first | refine o_copy ?_ | refine nl ?_ | refine ct_seq ?_ | refine rg ?_ | refine ct_block ?_ | refine bq ?_ | refine o_iaddr ?_ | refine o_iaddrO ?_ | refine o_iaddrR ?_ | refine o_add ?_ | refine o_sub ?_ | refine o_cat ?_ | refine o_bin ?_ | refine o_loadsA ?_ | refine o_loadpA ?_ | refine o_store ?_ | refine o_not ?_ | refine o_pickt ?_ | refine o_pickf ?_ | refine skF ?_ | refine skU ?_
        cases j with
        | zero =>
          refine cndf (ct_exit ?_) rfl (decide_eq_false (by omega))
          exact ⟨zs, ⟨hzl, hz⟩, goes⟩
        | succ j =>
          refine cndt (ct_skip ?_) rfl (decide_eq_true (by omega))
          obtain ⟨x, hx⟩ : ∃ x, zs[j + 1]? = some x := ⟨_, List.getElem?_eq_getElem (by omega)⟩
          obtain ⟨y, hy⟩ : ∃ y, zs[j]? = some y := ⟨_, List.getElem?_eq_getElem (by omega)⟩
          have hl1 : 0 + ((j + 1 : Nat) : Int).toNat = j + 1 := by omega
          have hl2 : 0 + (((j + 1 : Nat) : Int) - 1).toNat = j := by omega
          have hx' := els_at hx hl1
          have hy' := els_at hy hl2
          rw [Sort.shiftDown, gb hx, gb hy] at hz
          repeat first | refine o_copy ?_ | refine nl ?_ | refine ct_seq ?_ | refine rg ?_ | refine ct_block ?_ | refine bq ?_ | refine o_iaddrG ?_ | refine cv0 (cmpf_vc x y) ?_ | refine o_iaddr ?_ | refine o_iaddrO ?_ | refine o_iaddrR ?_ | refine o_add ?_ | refine o_sub ?_ | refine o_cat ?_ | refine o_bin ?_ | refine o_loadsA ?_ | refine o_loadpA ?_ | refine o_store ?_ | refine o_not ?_ | refine o_pickt ?_ | refine o_pickf ?_ | refine skF ?_ | refine skU ?_
          refine cnd (fun h => ct_exit ?_) (fun h => ct_skip ?_)
          · rw [if_pos (by simpa [ltS] using h)] at hz
            exact ⟨zs, ⟨hzl, hz⟩, goes⟩
          · rw [if_neg (by simpa [ltS] using h), swp_eq hx hy] at hz
            repeat first | refine o_copy ?_ | refine nl ?_ | refine ct_seq ?_ | refine rg ?_ | refine ct_block ?_ | refine bq ?_ | refine o_iaddrG ?_ | refine o_v (vst encS y) ?_ | refine o_v (vst encS x) ?_ | refine o_iaddr ?_ | refine o_iaddrO ?_ | refine o_iaddrR ?_ | refine o_add ?_ | refine o_sub ?_ | refine o_cat ?_ | refine o_bin ?_ | refine o_loadsA ?_ | refine o_loadpA ?_ | refine o_store ?_ | refine o_not ?_ | refine o_pickt ?_ | refine o_pickf ?_ | refine skF ?_ | refine skU ?_
            exact agn (j, (zs.set (0 + ((j + 1 : Nat) : Int).toNat) y).set (0 + (((j + 1 : Nat) : Int) - 1).toNat) x) ⟨by simp only; omega, by simpa only [List.length_set] using hzl, by simp only [hl1, hl2]; exact hz⟩
              (goes (h1 := by refine ⟨rfl, rfl, rfl, rfl, rfl, rfl, rfl, congrArg (fun z => some (PV.int .i64 z)) (by simp only; omega), trivial⟩))
      · refine cndf (ct_skip ?_) rfl (decide_eq_false (by omega))
        rw [if_neg hia]
        exact ⟨ds, ⟨hdl, rfl⟩, goes⟩
    · rintro es ⟨hel, he⟩
      rw [← he] at hv
      (try dsimp only)
      repeat first | refine o_copy ?_ | refine nl ?_ | refine ct_seq ?_ | refine rg ?_ | refine ct_block ?_ | refine bq ?_ | refine o_iaddr ?_ | refine o_iaddrO ?_ | refine o_iaddrR ?_ | refine o_add ?_ | refine o_sub ?_ | refine o_cat ?_ | refine o_bin ?_ | refine o_loadsA ?_ | refine o_loadpA ?_ | refine o_store ?_ | refine o_not ?_ | refine o_pickt ?_ | refine o_pickf ?_ | refine skF ?_ | refine skU ?_
      by_cases hbi : b - i2 ≥ 2
      · refine cndt ?_ rfl (decide_eq_true (by omega))
        rw [if_pos hbi] at hv
        repeat first | refine o_copy ?_ | refine nl ?_ | refine ct_seq ?_ | refine rg ?_ | refine ct_block ?_ | refine bq ?_ | refine o_iaddr ?_ | refine o_iaddrO ?_ | refine o_iaddrR ?_ | refine o_add ?_ | refine o_sub ?_ | refine o_cat ?_ | refine o_bin ?_ | refine o_loadsA ?_ | refine o_loadpA ?_ | refine o_store ?_ | refine o_not ?_ | refine o_pickt ?_ | refine o_pickf ?_ | refine skF ?_ | refine skU ?_
        refine ct_loopG (fun (g : Nat × List SpanL) => [(0, .own ⟨0, 0⟩ N 0 n), (1, .int .i64 a), (2, .int .i64 b), (3, .fn 47 []), (8, .bool false), (9, .int .i64 i2), (10, .int .i64 k), (12, .int .i64 g.1)])
          (fun g => [(⟨0, 0⟩, blkV 2 (g.2.map encS))]) (fun g => b - g.1) (fun g => i2 + 1 ≤ g.1 ∧ g.1 ≤ b ∧ g.2.length = N ∧ Sort.shiftUp ltS b g.1 g.2.toArray = Sort.shiftUp ltS b (i2 + 1) es.toArray) (i2 + 1, es)
          goes ⟨Nat.le_refl _, by omega, hel, rfl⟩ ?_
        rintro ⟨j, zs⟩ ⟨hj, hjb, hzl, hz⟩
        dsimp only at hj hjb hzl hz ⊢
        rw [Sort.shiftUp] at hz
        repeat first | refine o_copy ?_ | refine nl ?_ | refine ct_seq ?_ | refine rg ?_ | refine ct_block ?_ | refine bq ?_ | refine o_iaddr ?_ | refine o_iaddrO ?_ | refine o_iaddrR ?_ | refine o_add ?_ | refine o_sub ?_ | refine o_cat ?_ | refine o_bin ?_ | refine o_loadsA ?_ | refine o_loadpA ?_ | refine o_store ?_ | refine o_not ?_ | refine o_pickt ?_ | refine o_pickf ?_ | refine skF ?_ | refine skU ?_
        by_cases hjb2 : j < b
        · refine cndt (ct_skip ?_) rfl (decide_eq_true (by omega))
          obtain ⟨x, hx⟩ : ∃ x, zs[j]? = some x := ⟨_, List.getElem?_eq_getElem (by omega)⟩
          obtain ⟨y, hy⟩ : ∃ y, zs[j - 1]? = some y := ⟨_, List.getElem?_eq_getElem (by omega)⟩
          have hl1 : 0 + (j : Int).toNat = j := by omega
          have hl2 : 0 + ((j : Int) - 1).toNat = j - 1 := by omega
          have hx' := els_at hx hl1
          have hy' := els_at hy hl2
          rw [if_pos hjb2, gb hx, gb hy] at hz
          repeat first | refine o_copy ?_ | refine nl ?_ | refine ct_seq ?_ | refine rg ?_ | refine ct_block ?_ | refine bq ?_ | refine o_iaddrG ?_ | refine cv0 (cmpf_vc x y) ?_ | refine o_iaddr ?_ | refine o_iaddrO ?_ | refine o_iaddrR ?_ | refine o_add ?_ | refine o_sub ?_ | refine o_cat ?_ | refine o_bin ?_ | refine o_loadsA ?_ | refine o_loadpA ?_ | refine o_store ?_ | refine o_not ?_ | refine o_pickt ?_ | refine o_pickf ?_ | refine skF ?_ | refine skU ?_
          refine cnd (fun h => ct_exit ?_) (fun h => ct_skip ?_)
          · rw [if_pos (by simpa [ltS] using h)] at hz
            rw [← hz] at hv
            repeat first | refine o_copy ?_ | refine nl ?_ | refine ct_seq ?_ | refine rg ?_ | refine ct_block ?_ | refine bq ?_ | refine o_iaddr ?_ | refine o_iaddrO ?_ | refine o_iaddrR ?_ | refine o_add ?_ | refine o_sub ?_ | refine o_cat ?_ | refine o_bin ?_ | refine o_loadsA ?_ | refine o_loadpA ?_ | refine o_store ?_ | refine o_not ?_ | refine o_pickt ?_ | refine o_pickf ?_ | refine skF ?_ | refine skU ?_
            exact agn (k + 1, i2, zs) ⟨by simp only; omega, h1, h2, hzl, hv⟩ goes
          · rw [if_neg (by simpa [ltS] using h), swp_eq hx hy] at hz
            repeat first | refine o_copy ?_ | refine nl ?_ | refine ct_seq ?_ | refine rg ?_ | refine ct_block ?_ | refine bq ?_ | refine o_iaddrG ?_ | refine o_v (vst encS y) ?_ | refine o_v (vst encS x) ?_ | refine o_iaddr ?_ | refine o_iaddrO ?_ | refine o_iaddrR ?_ | refine o_add ?_ | refine o_sub ?_ | refine o_cat ?_ | refine o_bin ?_ | refine o_loadsA ?_ | refine o_loadpA ?_ | refine o_store ?_ | refine o_not ?_ | refine o_pickt ?_ | refine o_pickf ?_ | refine skF ?_ | refine skU ?_
            exact agn (j + 1, (zs.set (0 + (j : Int).toNat) y).set (0 + ((j : Int) - 1).toNat) x) ⟨by simp only; omega, by simp only; omega, by simpa only [List.length_set] using hzl, by simp only [hl1, hl2]; exact hz⟩ goes
        · refine cndf (ct_exit ?_) rfl (decide_eq_false (by omega))
          rw [if_neg hjb2] at hz
          rw [← hz] at hv
          repeat first | refine o_copy ?_ | refine nl ?_ | refine ct_seq ?_ | refine rg ?_ | refine ct_block ?_ | refine bq ?_ | refine o_iaddr ?_ | refine o_iaddrO ?_ | refine o_iaddrR ?_ | refine o_add ?_ | refine o_sub ?_ | refine o_cat ?_ | refine o_bin ?_ | refine o_loadsA ?_ | refine o_loadpA ?_ | refine o_store ?_ | refine o_not ?_ | refine o_pickt ?_ | refine o_pickf ?_ | refine skF ?_ | refine skU ?_
          exact agn (k + 1, i2, zs) ⟨by simp only; omega, h1, h2, hzl, hv⟩ goes
      · refine cndf (ct_skip ?_) rfl (decide_eq_false (by omega))
        rw [if_neg hbi] at hv
        repeat first | refine o_copy ?_ | refine nl ?_ | refine ct_seq ?_ | refine rg ?_ | refine ct_block ?_ | refine bq ?_ | refine o_iaddr ?_ | refine o_iaddrO ?_ | refine o_iaddrR ?_ | refine o_add ?_ | refine o_sub ?_ | refine o_cat ?_ | refine o_bin ?_ | refine o_loadsA ?_ | refine o_loadpA ?_ | refine o_store ?_ | refine o_not ?_ | refine o_pickt ?_ | refine o_pickf ?_ | refine skF ?_ | refine skU ?_
        exact agn (k + 1, i2, es) ⟨by simp only; omega, h1, h2, hel, hv⟩ goes
end Go.Proofs
open Go.V Go.Pu
set_option linter.unusedVariables false
set_option linter.unusedSimpArgs false
set_option maxRecDepth 20000
namespace Go.Proofs
/-- slices.partitionEqualCmpFunc[downspout/api.Span] -/
def vc66 : VCode :=
 (.seq
 (.region 0 false [
 ⟨(some 10), .copy (.c (.int .i64 0)), none, 0, []⟩])
 (.seq
 (.region 1 true [
 ⟨(some 13), .copy (.t 0), none, 8192, []⟩,
 ⟨(some 14), .copy (.t 1), none, 8200, []⟩,
 ⟨(some 15), .copy (.t 0), none, 8208, []⟩,
 ⟨(some 16), .copy (.t 3), none, 8216, []⟩,
 ⟨(some 17), .copy (.t 0), none, 8224, []⟩,
 ⟨(some 18), .copy (.t 3), none, 8232, []⟩,
 ⟨(some 19), .iaddr 2 (.t 17) (.t 18), none, 8240, [4, 5]⟩,
 ⟨(some 20), .load true 2 (.t 19), none, 8248, [6, 4, 5]⟩,
 ⟨(some 21), .copy (.t 0), none, 8256, []⟩,
 ⟨(some 22), .copy (.t 1), none, 8264, []⟩,
 ⟨(some 23), .iaddr 2 (.t 21) (.t 22), none, 8272, [8, 9]⟩,
 ⟨(some 24), .load true 2 (.t 23), none, 8280, [10, 8, 9]⟩,
 ⟨(some 25), .iaddr 2 (.t 13) (.t 14), none, 8288, [0, 1, 4, 5, 6, 7, 11, 10, 8, 9]⟩,
 ⟨none, .store 2 (.t 25) (.t 20), none, 8296, [12, 0, 1, 4, 5, 6, 7, 11, 10, 8, 9]⟩,
 ⟨(some 26), .iaddr 2 (.t 15) (.t 16), none, 8304, [2, 3, 0, 1, 4, 5, 6, 7, 8, 9, 10, 11, 12, 13]⟩,
 ⟨none, .store 2 (.t 26) (.t 24), none, 8312, [14, 2, 3, 0, 1, 4, 5, 6, 7, 8, 9, 10, 11, 12, 13]⟩])
 (.seq
 (.region 2 false [
 ⟨(some 27), .copy (.t 1), none, 16384, []⟩,
 ⟨(some 28), .bin .add (.t 27) (.c (.int .i64 1)), none, 16392, [0]⟩,
 ⟨(some 29), .copy (.t 2), none, 16400, []⟩,
 ⟨(some 30), .bin .sub (.t 29) (.c (.int .i64 1)), none, 16408, [2]⟩,
 ⟨(some 11), .copy (.t 28), none, 16416, [1, 0]⟩,
 ⟨(some 12), .copy (.t 30), none, 16424, [3, 2, 4, 1, 0]⟩])
 (.seq
 (.block 0
 (.loop
 (.block 1
 (.seq
 (.block 2
 (.loop
 (.seq
 (.seq
 (.region 3 true [
 ⟨(some 31), .copy (.t 11), none, 24576, []⟩,
 ⟨(some 32), .copy (.t 12), none, 24584, []⟩,
 ⟨(some 33), .bin .leq (.t 31) (.t 32), none, 24592, [0, 1]⟩,
 ⟨(some 34), .copy (.t 33), none, 24600, [2, 0, 1]⟩,
 ⟨(some 35), .copy (.t 4), (some (3, 34, true)), 24608, [3, 2, 0, 1]⟩,
 ⟨(some 36), .copy (.t 0), (some (3, 34, true)), 24616, [3, 2, 0, 1]⟩,
 ⟨(some 37), .copy (.t 1), (some (3, 34, true)), 24624, [3, 2, 0, 1]⟩,
 ⟨(some 38), .iaddr 2 (.t 36) (.t 37), (some (3, 34, true)), 24632, [5, 3, 2, 0, 1, 6]⟩,
 ⟨(some 39), .load true 2 (.t 38), (some (3, 34, true)), 24640, [7, 5, 3, 2, 0, 1, 6]⟩,
 ⟨(some 40), .copy (.t 0), (some (3, 34, true)), 24648, [3, 2, 0, 1]⟩,
 ⟨(some 41), .copy (.t 11), (some (3, 34, true)), 24656, [3, 2, 0, 1]⟩,
 ⟨(some 42), .iaddr 2 (.t 40) (.t 41), (some (3, 34, true)), 24664, [9, 3, 2, 0, 1, 10]⟩,
 ⟨(some 43), .load true 2 (.t 42), (some (3, 34, true)), 24672, [11, 9, 3, 2, 0, 1, 10]⟩,
 ⟨(some 44), .call (.t 35) [(.t 39), (.t 43)], (some (3, 34, true)), 24680, [4, 3, 2, 0, 1, 8, 7, 5, 6, 12, 11, 9, 10]⟩,
 ⟨(some 45), .bin .lss (.t 44) (.c (.int .i64 0)), (some (3, 34, true)), 24688, [13, 4, 3, 2, 0, 1, 8, 7, 5, 6, 12, 11, 9, 10]⟩,
 ⟨(some 46), .not (.t 45), (some (3, 34, true)), 24696, [14, 13, 4, 3, 2, 0, 1, 8, 7, 5, 6, 12, 11, 9, 10]⟩,
 ⟨(some 47), .pick (.t 34) (.t 46) (.c (.bool false)), none, 24704, [3, 2, 0, 1, 15, 14, 13, 4, 8, 7, 5, 6, 12, 11, 9, 10]⟩])
 (.cond (.t 47)
 .skip
 (.exit 2)))
 (.block 3
 (.region 4 false [
 ⟨(some 48), .copy (.t 11), none, 32768, []⟩,
 ⟨(some 49), .bin .add (.t 48) (.c (.int .i64 1)), none, 32776, [0]⟩,
 ⟨(some 11), .copy (.t 49), none, 32784, [1, 0]⟩])))))
 (.seq
 (.block 4
 (.loop
 (.seq
 (.seq
 (.region 5 true [
 ⟨(some 50), .copy (.t 11), none, 40960, []⟩,
 ⟨(some 51), .copy (.t 12), none, 40968, []⟩,
 ⟨(some 52), .bin .leq (.t 50) (.t 51), none, 40976, [0, 1]⟩,
 ⟨(some 53), .copy (.t 52), none, 40984, [2, 0, 1]⟩,
 ⟨(some 54), .copy (.t 4), (some (3, 53, true)), 40992, [3, 2, 0, 1]⟩,
 ⟨(some 55), .copy (.t 0), (some (3, 53, true)), 41000, [3, 2, 0, 1]⟩,
 ⟨(some 56), .copy (.t 1), (some (3, 53, true)), 41008, [3, 2, 0, 1]⟩,
 ⟨(some 57), .iaddr 2 (.t 55) (.t 56), (some (3, 53, true)), 41016, [5, 3, 2, 0, 1, 6]⟩,
 ⟨(some 58), .load true 2 (.t 57), (some (3, 53, true)), 41024, [7, 5, 3, 2, 0, 1, 6]⟩,
 ⟨(some 59), .copy (.t 0), (some (3, 53, true)), 41032, [3, 2, 0, 1]⟩,
 ⟨(some 60), .copy (.t 12), (some (3, 53, true)), 41040, [3, 2, 0, 1]⟩,
 ⟨(some 61), .iaddr 2 (.t 59) (.t 60), (some (3, 53, true)), 41048, [9, 3, 2, 0, 1, 10]⟩,
 ⟨(some 62), .load true 2 (.t 61), (some (3, 53, true)), 41056, [11, 9, 3, 2, 0, 1, 10]⟩,
 ⟨(some 63), .call (.t 54) [(.t 58), (.t 62)], (some (3, 53, true)), 41064, [4, 3, 2, 0, 1, 8, 7, 5, 6, 12, 11, 9, 10]⟩,
 ⟨(some 64), .bin .lss (.t 63) (.c (.int .i64 0)), (some (3, 53, true)), 41072, [13, 4, 3, 2, 0, 1, 8, 7, 5, 6, 12, 11, 9, 10]⟩,
 ⟨(some 65), .pick (.t 53) (.t 64) (.c (.bool false)), none, 41080, [3, 2, 0, 1, 14, 13, 4, 8, 7, 5, 6, 12, 11, 9, 10]⟩])
 (.cond (.t 65)
 .skip
 (.exit 4)))
 (.block 5
 (.region 6 false [
 ⟨(some 66), .copy (.t 12), none, 49152, []⟩,
 ⟨(some 67), .bin .sub (.t 66) (.c (.int .i64 1)), none, 49160, [0]⟩,
 ⟨(some 12), .copy (.t 67), none, 49168, [1, 0]⟩])))))
 (.seq
 (.seq
 (.region 7 false [
 ⟨(some 68), .copy (.t 11), none, 57344, []⟩,
 ⟨(some 69), .copy (.t 12), none, 57352, []⟩,
 ⟨(some 70), .bin .gtr (.t 68) (.t 69), none, 57360, [0, 1]⟩])
 (.cond (.t 70)
 (.exit 0)
 .skip))
 (.seq
 (.region 8 true [
 ⟨(some 71), .copy (.t 0), none, 65536, []⟩,
 ⟨(some 72), .copy (.t 11), none, 65544, []⟩,
 ⟨(some 73), .copy (.t 0), none, 65552, []⟩,
 ⟨(some 74), .copy (.t 12), none, 65560, []⟩,
 ⟨(some 75), .copy (.t 0), none, 65568, []⟩,
 ⟨(some 76), .copy (.t 12), none, 65576, []⟩,
 ⟨(some 77), .iaddr 2 (.t 75) (.t 76), none, 65584, [4, 5]⟩,
 ⟨(some 78), .load true 2 (.t 77), none, 65592, [6, 4, 5]⟩,
 ⟨(some 79), .copy (.t 0), none, 65600, []⟩,
 ⟨(some 80), .copy (.t 11), none, 65608, []⟩,
 ⟨(some 81), .iaddr 2 (.t 79) (.t 80), none, 65616, [8, 9]⟩,
 ⟨(some 82), .load true 2 (.t 81), none, 65624, [10, 8, 9]⟩,
 ⟨(some 83), .iaddr 2 (.t 71) (.t 72), none, 65632, [0, 1, 4, 5, 6, 7, 11, 10, 8, 9]⟩,
 ⟨none, .store 2 (.t 83) (.t 78), none, 65640, [12, 0, 1, 4, 5, 6, 7, 11, 10, 8, 9]⟩,
 ⟨(some 84), .iaddr 2 (.t 73) (.t 74), none, 65648, [2, 3, 0, 1, 4, 5, 6, 7, 8, 9, 10, 11, 12, 13]⟩,
 ⟨none, .store 2 (.t 84) (.t 82), none, 65656, [14, 2, 3, 0, 1, 4, 5, 6, 7, 8, 9, 10, 11, 12, 13]⟩])
 (.seq
 (.region 9 false [
 ⟨(some 85), .copy (.t 11), none, 73728, []⟩,
 ⟨(some 86), .bin .add (.t 85) (.c (.int .i64 1)), none, 73736, [0]⟩,
 ⟨(some 11), .copy (.t 86), none, 73744, [1, 0]⟩])
 (.region 10 false [
 ⟨(some 87), .copy (.t 12), none, 81920, []⟩,
 ⟨(some 88), .bin .sub (.t 87) (.c (.int .i64 1)), none, 81928, [0]⟩,
 ⟨(some 12), .copy (.t 88), none, 81936, [1, 0]⟩])))))))))
 (.seq
 (.region 11 false [
 ⟨(some 89), .copy (.t 11), none, 90112, []⟩,
 ⟨(some 10), .copy (.t 89), none, 90120, [0]⟩])
 .ret)))))
theorem vf66 : VF Try.prog 66 = some (90, vc66, [.tmp 10]) := by kernel_rfl
/-- slices.partitionCmpFunc[downspout/api.Span] -/
def vc67 : VCode :=
 (.seq
 (.region 0 false [
 ⟨(some 10), .copy (.c (.int .i64 0)), none, 0, []⟩,
 ⟨(some 11), .copy (.c (.bool false)), none, 8, [0]⟩])
 (.seq
 (.region 1 true [
 ⟨(some 14), .copy (.t 0), none, 8192, []⟩,
 ⟨(some 15), .copy (.t 1), none, 8200, []⟩,
 ⟨(some 16), .copy (.t 0), none, 8208, []⟩,
 ⟨(some 17), .copy (.t 3), none, 8216, []⟩,
 ⟨(some 18), .copy (.t 0), none, 8224, []⟩,
 ⟨(some 19), .copy (.t 3), none, 8232, []⟩,
 ⟨(some 20), .iaddr 2 (.t 18) (.t 19), none, 8240, [4, 5]⟩,
 ⟨(some 21), .load true 2 (.t 20), none, 8248, [6, 4, 5]⟩,
 ⟨(some 22), .copy (.t 0), none, 8256, []⟩,
 ⟨(some 23), .copy (.t 1), none, 8264, []⟩,
 ⟨(some 24), .iaddr 2 (.t 22) (.t 23), none, 8272, [8, 9]⟩,
 ⟨(some 25), .load true 2 (.t 24), none, 8280, [10, 8, 9]⟩,
 ⟨(some 26), .iaddr 2 (.t 14) (.t 15), none, 8288, [0, 1, 4, 5, 6, 7, 11, 10, 8, 9]⟩,
 ⟨none, .store 2 (.t 26) (.t 21), none, 8296, [12, 0, 1, 4, 5, 6, 7, 11, 10, 8, 9]⟩,
 ⟨(some 27), .iaddr 2 (.t 16) (.t 17), none, 8304, [2, 3, 0, 1, 4, 5, 6, 7, 8, 9, 10, 11, 12, 13]⟩,
 ⟨none, .store 2 (.t 27) (.t 25), none, 8312, [14, 2, 3, 0, 1, 4, 5, 6, 7, 8, 9, 10, 11, 12, 13]⟩])
 (.seq
 (.region 2 false [
 ⟨(some 28), .copy (.t 1), none, 16384, []⟩,
 ⟨(some 29), .bin .add (.t 28) (.c (.int .i64 1)), none, 16392, [0]⟩,
 ⟨(some 30), .copy (.t 2), none, 16400, []⟩,
 ⟨(some 31), .bin .sub (.t 30) (.c (.int .i64 1)), none, 16408, [2]⟩,
 ⟨(some 12), .copy (.t 29), none, 16416, [1, 0]⟩,
 ⟨(some 13), .copy (.t 31), none, 16424, [3, 2, 4, 1, 0]⟩])
 (.seq
 (.block 0
 (.loop
 (.seq
 (.seq
 (.region 3 true [
 ⟨(some 32), .copy (.t 12), none, 24576, []⟩,
 ⟨(some 33), .copy (.t 13), none, 24584, []⟩,
 ⟨(some 34), .bin .leq (.t 32) (.t 33), none, 24592, [0, 1]⟩,
 ⟨(some 35), .copy (.t 34), none, 24600, [2, 0, 1]⟩,
 ⟨(some 36), .copy (.t 4), (some (3, 35, true)), 24608, [3, 2, 0, 1]⟩,
 ⟨(some 37), .copy (.t 0), (some (3, 35, true)), 24616, [3, 2, 0, 1]⟩,
 ⟨(some 38), .copy (.t 12), (some (3, 35, true)), 24624, [3, 2, 0, 1]⟩,
 ⟨(some 39), .iaddr 2 (.t 37) (.t 38), (some (3, 35, true)), 24632, [5, 3, 2, 0, 1, 6]⟩,
 ⟨(some 40), .load true 2 (.t 39), (some (3, 35, true)), 24640, [7, 5, 3, 2, 0, 1, 6]⟩,
 ⟨(some 41), .copy (.t 0), (some (3, 35, true)), 24648, [3, 2, 0, 1]⟩,
 ⟨(some 42), .copy (.t 1), (some (3, 35, true)), 24656, [3, 2, 0, 1]⟩,
 ⟨(some 43), .iaddr 2 (.t 41) (.t 42), (some (3, 35, true)), 24664, [9, 3, 2, 0, 1, 10]⟩,
 ⟨(some 44), .load true 2 (.t 43), (some (3, 35, true)), 24672, [11, 9, 3, 2, 0, 1, 10]⟩,
 ⟨(some 45), .call (.t 36) [(.t 40), (.t 44)], (some (3, 35, true)), 24680, [4, 3, 2, 0, 1, 8, 7, 5, 6, 12, 11, 9, 10]⟩,
 ⟨(some 46), .bin .lss (.t 45) (.c (.int .i64 0)), (some (3, 35, true)), 24688, [13, 4, 3, 2, 0, 1, 8, 7, 5, 6, 12, 11, 9, 10]⟩,
 ⟨(some 47), .pick (.t 35) (.t 46) (.c (.bool false)), none, 24696, [3, 2, 0, 1, 14, 13, 4, 8, 7, 5, 6, 12, 11, 9, 10]⟩])
 (.cond (.t 47)
 .skip
 (.exit 0)))
 (.block 1
 (.region 4 false [
 ⟨(some 48), .copy (.t 12), none, 32768, []⟩,
 ⟨(some 49), .bin .add (.t 48) (.c (.int .i64 1)), none, 32776, [0]⟩,
 ⟨(some 12), .copy (.t 49), none, 32784, [1, 0]⟩])))))
 (.seq
 (.block 2
 (.loop
 (.seq
 (.seq
 (.region 5 true [
 ⟨(some 50), .copy (.t 12), none, 40960, []⟩,
 ⟨(some 51), .copy (.t 13), none, 40968, []⟩,
 ⟨(some 52), .bin .leq (.t 50) (.t 51), none, 40976, [0, 1]⟩,
 ⟨(some 53), .copy (.t 52), none, 40984, [2, 0, 1]⟩,
 ⟨(some 54), .copy (.t 4), (some (3, 53, true)), 40992, [3, 2, 0, 1]⟩,
 ⟨(some 55), .copy (.t 0), (some (3, 53, true)), 41000, [3, 2, 0, 1]⟩,
 ⟨(some 56), .copy (.t 13), (some (3, 53, true)), 41008, [3, 2, 0, 1]⟩,
 ⟨(some 57), .iaddr 2 (.t 55) (.t 56), (some (3, 53, true)), 41016, [5, 3, 2, 0, 1, 6]⟩,
 ⟨(some 58), .load true 2 (.t 57), (some (3, 53, true)), 41024, [7, 5, 3, 2, 0, 1, 6]⟩,
 ⟨(some 59), .copy (.t 0), (some (3, 53, true)), 41032, [3, 2, 0, 1]⟩,
 ⟨(some 60), .copy (.t 1), (some (3, 53, true)), 41040, [3, 2, 0, 1]⟩,
 ⟨(some 61), .iaddr 2 (.t 59) (.t 60), (some (3, 53, true)), 41048, [9, 3, 2, 0, 1, 10]⟩,
 ⟨(some 62), .load true 2 (.t 61), (some (3, 53, true)), 41056, [11, 9, 3, 2, 0, 1, 10]⟩,
 ⟨(some 63), .call (.t 54) [(.t 58), (.t 62)], (some (3, 53, true)), 41064, [4, 3, 2, 0, 1, 8, 7, 5, 6, 12, 11, 9, 10]⟩,
 ⟨(some 64), .bin .lss (.t 63) (.c (.int .i64 0)), (some (3, 53, true)), 41072, [13, 4, 3, 2, 0, 1, 8, 7, 5, 6, 12, 11, 9, 10]⟩,
 ⟨(some 65), .not (.t 64), (some (3, 53, true)), 41080, [14, 13, 4, 3, 2, 0, 1, 8, 7, 5, 6, 12, 11, 9, 10]⟩,
 ⟨(some 66), .pick (.t 53) (.t 65) (.c (.bool false)), none, 41088, [3, 2, 0, 1, 15, 14, 13, 4, 8, 7, 5, 6, 12, 11, 9, 10]⟩])
 (.cond (.t 66)
 .skip
 (.exit 2)))
 (.block 3
 (.region 6 false [
 ⟨(some 67), .copy (.t 13), none, 49152, []⟩,
 ⟨(some 68), .bin .sub (.t 67) (.c (.int .i64 1)), none, 49160, [0]⟩,
 ⟨(some 13), .copy (.t 68), none, 49168, [1, 0]⟩])))))
 (.seq
 (.seq
 (.region 7 false [
 ⟨(some 69), .copy (.t 12), none, 57344, []⟩,
 ⟨(some 70), .copy (.t 13), none, 57352, []⟩,
 ⟨(some 71), .bin .gtr (.t 69) (.t 70), none, 57360, [0, 1]⟩])
 (.cond (.t 71)
 (.seq
 (.region 8 true [
 ⟨(some 72), .copy (.t 0), none, 65536, []⟩,
 ⟨(some 73), .copy (.t 13), none, 65544, []⟩,
 ⟨(some 74), .copy (.t 0), none, 65552, []⟩,
 ⟨(some 75), .copy (.t 1), none, 65560, []⟩,
 ⟨(some 76), .copy (.t 0), none, 65568, []⟩,
 ⟨(some 77), .copy (.t 1), none, 65576, []⟩,
 ⟨(some 78), .iaddr 2 (.t 76) (.t 77), none, 65584, [4, 5]⟩,
 ⟨(some 79), .load true 2 (.t 78), none, 65592, [6, 4, 5]⟩,
 ⟨(some 80), .copy (.t 0), none, 65600, []⟩,
 ⟨(some 81), .copy (.t 13), none, 65608, []⟩,
 ⟨(some 82), .iaddr 2 (.t 80) (.t 81), none, 65616, [8, 9]⟩,
 ⟨(some 83), .load true 2 (.t 82), none, 65624, [10, 8, 9]⟩,
 ⟨(some 84), .iaddr 2 (.t 72) (.t 73), none, 65632, [0, 1, 4, 5, 6, 7, 11, 10, 8, 9]⟩,
 ⟨none, .store 2 (.t 84) (.t 79), none, 65640, [12, 0, 1, 4, 5, 6, 7, 11, 10, 8, 9]⟩,
 ⟨(some 85), .iaddr 2 (.t 74) (.t 75), none, 65648, [2, 3, 0, 1, 4, 5, 6, 7, 8, 9, 10, 11, 12, 13]⟩,
 ⟨none, .store 2 (.t 85) (.t 83), none, 65656, [14, 2, 3, 0, 1, 4, 5, 6, 7, 8, 9, 10, 11, 12, 13]⟩])
 (.seq
 (.region 9 false [
 ⟨(some 86), .copy (.t 13), none, 73728, []⟩,
 ⟨(some 10), .copy (.t 86), none, 73736, [0]⟩,
 ⟨(some 11), .copy (.c (.bool true)), none, 73744, [1, 0]⟩])
 .ret))
 .skip))
 (.seq
 (.region 10 true [
 ⟨(some 87), .copy (.t 0), none, 81920, []⟩,
 ⟨(some 88), .copy (.t 12), none, 81928, []⟩,
 ⟨(some 89), .copy (.t 0), none, 81936, []⟩,
 ⟨(some 90), .copy (.t 13), none, 81944, []⟩,
 ⟨(some 91), .copy (.t 0), none, 81952, []⟩,
 ⟨(some 92), .copy (.t 13), none, 81960, []⟩,
 ⟨(some 93), .iaddr 2 (.t 91) (.t 92), none, 81968, [4, 5]⟩,
 ⟨(some 94), .load true 2 (.t 93), none, 81976, [6, 4, 5]⟩,
 ⟨(some 95), .copy (.t 0), none, 81984, []⟩,
 ⟨(some 96), .copy (.t 12), none, 81992, []⟩,
 ⟨(some 97), .iaddr 2 (.t 95) (.t 96), none, 82000, [8, 9]⟩,
 ⟨(some 98), .load true 2 (.t 97), none, 82008, [10, 8, 9]⟩,
 ⟨(some 99), .iaddr 2 (.t 87) (.t 88), none, 82016, [0, 1, 4, 5, 6, 7, 11, 10, 8, 9]⟩,
 ⟨none, .store 2 (.t 99) (.t 94), none, 82024, [12, 0, 1, 4, 5, 6, 7, 11, 10, 8, 9]⟩,
 ⟨(some 100), .iaddr 2 (.t 89) (.t 90), none, 82032, [2, 3, 0, 1, 4, 5, 6, 7, 8, 9, 10, 11, 12, 13]⟩,
 ⟨none, .store 2 (.t 100) (.t 98), none, 82040, [14, 2, 3, 0, 1, 4, 5, 6, 7, 8, 9, 10, 11, 12, 13]⟩])
 (.seq
 (.region 11 false [
 ⟨(some 101), .copy (.t 12), none, 90112, []⟩,
 ⟨(some 102), .bin .add (.t 101) (.c (.int .i64 1)), none, 90120, [0]⟩,
 ⟨(some 12), .copy (.t 102), none, 90128, [1, 0]⟩])
 (.seq
 (.region 12 false [
 ⟨(some 103), .copy (.t 13), none, 98304, []⟩,
 ⟨(some 104), .bin .sub (.t 103) (.c (.int .i64 1)), none, 98312, [0]⟩,
 ⟨(some 13), .copy (.t 104), none, 98320, [1, 0]⟩])
 (.seq
 (.block 4
 (.loop
 (.block 5
 (.seq
 (.block 6
 (.loop
 (.seq
 (.seq
 (.region 13 true [
 ⟨(some 105), .copy (.t 12), none, 106496, []⟩,
 ⟨(some 106), .copy (.t 13), none, 106504, []⟩,
 ⟨(some 107), .bin .leq (.t 105) (.t 106), none, 106512, [0, 1]⟩,
 ⟨(some 108), .copy (.t 107), none, 106520, [2, 0, 1]⟩,
 ⟨(some 109), .copy (.t 4), (some (3, 108, true)), 106528, [3, 2, 0, 1]⟩,
 ⟨(some 110), .copy (.t 0), (some (3, 108, true)), 106536, [3, 2, 0, 1]⟩,
 ⟨(some 111), .copy (.t 12), (some (3, 108, true)), 106544, [3, 2, 0, 1]⟩,
 ⟨(some 112), .iaddr 2 (.t 110) (.t 111), (some (3, 108, true)), 106552, [5, 3, 2, 0, 1, 6]⟩,
 ⟨(some 113), .load true 2 (.t 112), (some (3, 108, true)), 106560, [7, 5, 3, 2, 0, 1, 6]⟩,
 ⟨(some 114), .copy (.t 0), (some (3, 108, true)), 106568, [3, 2, 0, 1]⟩,
 ⟨(some 115), .copy (.t 1), (some (3, 108, true)), 106576, [3, 2, 0, 1]⟩,
 ⟨(some 116), .iaddr 2 (.t 114) (.t 115), (some (3, 108, true)), 106584, [9, 3, 2, 0, 1, 10]⟩,
 ⟨(some 117), .load true 2 (.t 116), (some (3, 108, true)), 106592, [11, 9, 3, 2, 0, 1, 10]⟩,
 ⟨(some 118), .call (.t 109) [(.t 113), (.t 117)], (some (3, 108, true)), 106600, [4, 3, 2, 0, 1, 8, 7, 5, 6, 12, 11, 9, 10]⟩,
 ⟨(some 119), .bin .lss (.t 118) (.c (.int .i64 0)), (some (3, 108, true)), 106608, [13, 4, 3, 2, 0, 1, 8, 7, 5, 6, 12, 11, 9, 10]⟩,
 ⟨(some 120), .pick (.t 108) (.t 119) (.c (.bool false)), none, 106616, [3, 2, 0, 1, 14, 13, 4, 8, 7, 5, 6, 12, 11, 9, 10]⟩])
 (.cond (.t 120)
 .skip
 (.exit 6)))
 (.block 7
 (.region 14 false [
 ⟨(some 121), .copy (.t 12), none, 114688, []⟩,
 ⟨(some 122), .bin .add (.t 121) (.c (.int .i64 1)), none, 114696, [0]⟩,
 ⟨(some 12), .copy (.t 122), none, 114704, [1, 0]⟩])))))
 (.seq
 (.block 8
 (.loop
 (.seq
 (.seq
 (.region 15 true [
 ⟨(some 123), .copy (.t 12), none, 122880, []⟩,
 ⟨(some 124), .copy (.t 13), none, 122888, []⟩,
 ⟨(some 125), .bin .leq (.t 123) (.t 124), none, 122896, [0, 1]⟩,
 ⟨(some 126), .copy (.t 125), none, 122904, [2, 0, 1]⟩,
 ⟨(some 127), .copy (.t 4), (some (3, 126, true)), 122912, [3, 2, 0, 1]⟩,
 ⟨(some 128), .copy (.t 0), (some (3, 126, true)), 122920, [3, 2, 0, 1]⟩,
 ⟨(some 129), .copy (.t 13), (some (3, 126, true)), 122928, [3, 2, 0, 1]⟩,
 ⟨(some 130), .iaddr 2 (.t 128) (.t 129), (some (3, 126, true)), 122936, [5, 3, 2, 0, 1, 6]⟩,
 ⟨(some 131), .load true 2 (.t 130), (some (3, 126, true)), 122944, [7, 5, 3, 2, 0, 1, 6]⟩,
 ⟨(some 132), .copy (.t 0), (some (3, 126, true)), 122952, [3, 2, 0, 1]⟩,
 ⟨(some 133), .copy (.t 1), (some (3, 126, true)), 122960, [3, 2, 0, 1]⟩,
 ⟨(some 134), .iaddr 2 (.t 132) (.t 133), (some (3, 126, true)), 122968, [9, 3, 2, 0, 1, 10]⟩,
 ⟨(some 135), .load true 2 (.t 134), (some (3, 126, true)), 122976, [11, 9, 3, 2, 0, 1, 10]⟩,
 ⟨(some 136), .call (.t 127) [(.t 131), (.t 135)], (some (3, 126, true)), 122984, [4, 3, 2, 0, 1, 8, 7, 5, 6, 12, 11, 9, 10]⟩,
 ⟨(some 137), .bin .lss (.t 136) (.c (.int .i64 0)), (some (3, 126, true)), 122992, [13, 4, 3, 2, 0, 1, 8, 7, 5, 6, 12, 11, 9, 10]⟩,
 ⟨(some 138), .not (.t 137), (some (3, 126, true)), 123000, [14, 13, 4, 3, 2, 0, 1, 8, 7, 5, 6, 12, 11, 9, 10]⟩,
 ⟨(some 139), .pick (.t 126) (.t 138) (.c (.bool false)), none, 123008, [3, 2, 0, 1, 15, 14, 13, 4, 8, 7, 5, 6, 12, 11, 9, 10]⟩])
 (.cond (.t 139)
 .skip
 (.exit 8)))
 (.block 9
 (.region 16 false [
 ⟨(some 140), .copy (.t 13), none, 131072, []⟩,
 ⟨(some 141), .bin .sub (.t 140) (.c (.int .i64 1)), none, 131080, [0]⟩,
 ⟨(some 13), .copy (.t 141), none, 131088, [1, 0]⟩])))))
 (.seq
 (.seq
 (.region 17 false [
 ⟨(some 142), .copy (.t 12), none, 139264, []⟩,
 ⟨(some 143), .copy (.t 13), none, 139272, []⟩,
 ⟨(some 144), .bin .gtr (.t 142) (.t 143), none, 139280, [0, 1]⟩])
 (.cond (.t 144)
 (.exit 4)
 .skip))
 (.seq
 (.region 18 true [
 ⟨(some 145), .copy (.t 0), none, 147456, []⟩,
 ⟨(some 146), .copy (.t 12), none, 147464, []⟩,
 ⟨(some 147), .copy (.t 0), none, 147472, []⟩,
 ⟨(some 148), .copy (.t 13), none, 147480, []⟩,
 ⟨(some 149), .copy (.t 0), none, 147488, []⟩,
 ⟨(some 150), .copy (.t 13), none, 147496, []⟩,
 ⟨(some 151), .iaddr 2 (.t 149) (.t 150), none, 147504, [4, 5]⟩,
 ⟨(some 152), .load true 2 (.t 151), none, 147512, [6, 4, 5]⟩,
 ⟨(some 153), .copy (.t 0), none, 147520, []⟩,
 ⟨(some 154), .copy (.t 12), none, 147528, []⟩,
 ⟨(some 155), .iaddr 2 (.t 153) (.t 154), none, 147536, [8, 9]⟩,
 ⟨(some 156), .load true 2 (.t 155), none, 147544, [10, 8, 9]⟩,
 ⟨(some 157), .iaddr 2 (.t 145) (.t 146), none, 147552, [0, 1, 4, 5, 6, 7, 11, 10, 8, 9]⟩,
 ⟨none, .store 2 (.t 157) (.t 152), none, 147560, [12, 0, 1, 4, 5, 6, 7, 11, 10, 8, 9]⟩,
 ⟨(some 158), .iaddr 2 (.t 147) (.t 148), none, 147568, [2, 3, 0, 1, 4, 5, 6, 7, 8, 9, 10, 11, 12, 13]⟩,
 ⟨none, .store 2 (.t 158) (.t 156), none, 147576, [14, 2, 3, 0, 1, 4, 5, 6, 7, 8, 9, 10, 11, 12, 13]⟩])
 (.seq
 (.region 19 false [
 ⟨(some 159), .copy (.t 12), none, 155648, []⟩,
 ⟨(some 160), .bin .add (.t 159) (.c (.int .i64 1)), none, 155656, [0]⟩,
 ⟨(some 12), .copy (.t 160), none, 155664, [1, 0]⟩])
 (.region 20 false [
 ⟨(some 161), .copy (.t 13), none, 163840, []⟩,
 ⟨(some 162), .bin .sub (.t 161) (.c (.int .i64 1)), none, 163848, [0]⟩,
 ⟨(some 13), .copy (.t 162), none, 163856, [1, 0]⟩])))))))))
 (.seq
 (.region 21 true [
 ⟨(some 163), .copy (.t 0), none, 172032, []⟩,
 ⟨(some 164), .copy (.t 13), none, 172040, []⟩,
 ⟨(some 165), .copy (.t 0), none, 172048, []⟩,
 ⟨(some 166), .copy (.t 1), none, 172056, []⟩,
 ⟨(some 167), .copy (.t 0), none, 172064, []⟩,
 ⟨(some 168), .copy (.t 1), none, 172072, []⟩,
 ⟨(some 169), .iaddr 2 (.t 167) (.t 168), none, 172080, [4, 5]⟩,
 ⟨(some 170), .load true 2 (.t 169), none, 172088, [6, 4, 5]⟩,
 ⟨(some 171), .copy (.t 0), none, 172096, []⟩,
 ⟨(some 172), .copy (.t 13), none, 172104, []⟩,
 ⟨(some 173), .iaddr 2 (.t 171) (.t 172), none, 172112, [8, 9]⟩,
 ⟨(some 174), .load true 2 (.t 173), none, 172120, [10, 8, 9]⟩,
 ⟨(some 175), .iaddr 2 (.t 163) (.t 164), none, 172128, [0, 1, 4, 5, 6, 7, 11, 10, 8, 9]⟩,
 ⟨none, .store 2 (.t 175) (.t 170), none, 172136, [12, 0, 1, 4, 5, 6, 7, 11, 10, 8, 9]⟩,
 ⟨(some 176), .iaddr 2 (.t 165) (.t 166), none, 172144, [2, 3, 0, 1, 4, 5, 6, 7, 8, 9, 10, 11, 12, 13]⟩,
 ⟨none, .store 2 (.t 176) (.t 174), none, 172152, [14, 2, 3, 0, 1, 4, 5, 6, 7, 8, 9, 10, 11, 12, 13]⟩])
 (.seq
 (.region 22 false [
 ⟨(some 177), .copy (.t 13), none, 180224, []⟩,
 ⟨(some 10), .copy (.t 177), none, 180232, [0]⟩,
 ⟨(some 11), .copy (.c (.bool false)), none, 180240, [1, 0]⟩])
 .ret))))))))))))
theorem vf67 : VF Try.prog 67 = some (178, vc67, [.tmp 10, .tmp 11]) := by kernel_rfl
/-! The sort: the partitions -/
theorem partEq_step {d : Array SpanL} {pv : SpanL} {a i j i2 j2 : Nat} (hp : d[a]! = pv) (h1 : Sort.scanUp (fun x => !ltS pv x) d j i = i2) (h2 : Sort.scanDown (fun x => ltS pv x) d i2 j = j2) (hi : i ≤ i2) (hj : j2 ≤ j) :
    Sort.partEqLoop ltS a i j d = if i2 > j2 then (i2, d) else Sort.partEqLoop ltS a (i2 + 1) (j2 - 1) (Sort.swp d i2 j2) := by
  subst hp
  rw [Sort.partEqLoop]
  rw [h1, h2]
  split
  · rfl
  · rw [dif_pos (by omega)]
theorem part_step {d : Array SpanL} {pv : SpanL} {a i j i2 j2 : Nat} (hp : d[a]! = pv) (h1 : Sort.scanUp (fun x => ltS x pv) d j i = i2) (h2 : Sort.scanDown (fun x => !ltS x pv) d i2 j = j2) (hi : i ≤ i2) (hj : j2 ≤ j) :
    Sort.partLoop ltS a i j d = if i2 > j2 then (j2, d) else Sort.partLoop ltS a (i2 + 1) (j2 - 1) (Sort.swp d i2 j2) := by
  subst hp
  rw [Sort.partLoop]
  rw [h1, h2]
  split
  · rfl
  · rw [dif_pos (by omega)]
set_option maxHeartbeats 4000000 in
theorem parteq_vc {N n : Nat} (xs : List SpanL) (a b pivot : Nat) (hN : xs.length = N) (hp1 : a ≤ pivot) (hp2 : pivot < b) (hb : b ≤ n) (hn : n ≤ N) (hm : N ≤ 60000) :
    VC Try.prog 66 [.own ⟨0, 0⟩ N 0 n, .int .i64 a, .int .i64 b, .int .i64 pivot, .fn 47 []] [blkV 2 (xs.map encS)] (.int .i64 (Sort.partitionEqual ltS xs.toArray a b pivot).1) (srt (Sort.partitionEqual ltS xs.toArray a b pivot).2) := by
  refine vc_of vf66 ?_ (Nat.le_of_ble_eq_true rfl) (by intro vs h; cases h)
  obtain ⟨x0, hx0⟩ : ∃ x, xs[a]? = some x := ⟨_, List.getElem?_eq_getElem (by omega)⟩
  obtain ⟨y0, hy0⟩ : ∃ y, xs[pivot]? = some y := ⟨_, List.getElem?_eq_getElem (by omega)⟩
  have hk1 : 0 + (a : Int).toNat = a := by omega
  have hk2 : 0 + (pivot : Int).toNat = pivot := by omega
  have hx' := els_at hx0 hk1
  have hy' := els_at hy0 hk2
  have hsw := swp_eq hx0 hy0
  rw [← hk1, ← hk2] at hsw
  unfold Sort.partitionEqual
  rw [swp_eq hx0 hy0]
  refine ct_seq (rg ?_)
  repeat first | refine o_copy ?_ | refine o_iaddr ?_ | refine o_iaddrO ?_ | refine o_iaddrR ?_ | refine o_add ?_ | refine o_sub ?_ | refine o_cat ?_ | refine o_bin ?_ | refine o_loadsA ?_ | refine o_loadpA ?_ | refine o_store ?_ | refine o_not ?_ | refine o_pickt ?_ | refine o_pickf ?_ | refine skF ?_ | refine skU ?_
  refine nl ?_
  refine ct_seq (rg ?_)
  repeat first | refine o_copy ?_ | refine o_iaddrG ?_ | refine o_v (vst encS y0) ?_ | refine o_v (vst encS x0) ?_ | refine o_iaddr ?_ | refine o_iaddrO ?_ | refine o_iaddrR ?_ | refine o_add ?_ | refine o_sub ?_ | refine o_cat ?_ | refine o_bin ?_ | refine o_loadsA ?_ | refine o_loadpA ?_ | refine o_store ?_ | refine o_not ?_ | refine o_pickt ?_ | refine o_pickf ?_ | refine skF ?_ | refine skU ?_
  refine nl ?_
  refine ct_seq (rg ?_)
  repeat first | refine o_copy ?_ | refine o_iaddr ?_ | refine o_iaddrO ?_ | refine o_iaddrR ?_ | refine o_add ?_ | refine o_sub ?_ | refine o_cat ?_ | refine o_bin ?_ | refine o_loadsA ?_ | refine o_loadpA ?_ | refine o_store ?_ | refine o_not ?_ | refine o_pickt ?_ | refine o_pickf ?_ | refine skF ?_ | refine skU ?_
  refine nl ?_
  rw [hk1, hk2]
  have hdl : ((xs.set a y0).set pivot x0).length = N := by simpa only [List.length_set] using hN
  generalize (xs.set a y0).set pivot x0 = ds at hdl
  refine ct_mid (lvl := 1) (fun (g : Nat × List SpanL) => [(0, .own ⟨0, 0⟩ N 0 n), (11, .int .i64 g.1)]) (fun g => [(⟨0, 0⟩, blkV 2 (g.2.map encS))]) (fun g => (g.1, g.2.toArray) = Sort.partEqLoop ltS a (a + 1) (b - 1) ds.toArray) (ct_block ?_) ?_
  · refine ct_loopG (fun (g : Nat × Nat × List SpanL) => [(0, .own ⟨0, 0⟩ N 0 n), (1, .int .i64 a), (4, .fn 47 []), (11, .int .i64 g.1), (12, .int .i64 (g.2.1 : Nat))])
      (fun g => [(⟨0, 0⟩, blkV 2 (g.2.2.map encS))]) (fun g => g.2.1 + 1 - g.1)
      (fun g => a < g.1 ∧ g.1 ≤ b ∧ g.2.1 < b ∧ g.2.2.length = N ∧ Sort.partEqLoop ltS a g.1 g.2.1 g.2.2.toArray = Sort.partEqLoop ltS a (a + 1) (b - 1) ds.toArray) (a + 1, b - 1, ds)
      (goes (h1 := by refine ⟨rfl, rfl, rfl, rfl, congrArg (fun z => some (PV.int .i64 z)) (by simp only; omega), trivial⟩)) ⟨by simp only; omega, by simp only; omega, by simp only; omega, hdl, rfl⟩ ?_
    rintro ⟨i, j, ys⟩ ⟨hai, hib, hjb, hyl, hv⟩
    dsimp only at hai hib hjb hyl hv ⊢
    obtain ⟨pv, hpv⟩ : ∃ x, ys[a]? = some x := ⟨_, List.getElem?_eq_getElem (by omega)⟩
    have hpv' := els_at (k := 0 + (a : Int).toNat) hpv (by omega)
    refine ct_block ?_
    refine ct_mid (lvl := 1) (fun (g : Nat) => [(0, .own ⟨0, 0⟩ N 0 n), (1, .int .i64 a), (4, .fn 47 []), (12, .int .i64 (j : Nat)), (11, .int .i64 (g : Nat))]) (fun g => [(⟨0, 0⟩, blkV 2 (ys.map encS))]) (fun g => i ≤ g ∧ g ≤ b ∧ Sort.scanUp (fun x => !ltS pv x) ys.toArray j (i) = g) (ct_block ?_) ?_
    · refine ct_loopG (fun (g : Nat) => [(0, .own ⟨0, 0⟩ N 0 n), (1, .int .i64 a), (4, .fn 47 []), (12, .int .i64 (j : Nat)), (11, .int .i64 (g : Nat))]) (fun g => [(⟨0, 0⟩, blkV 2 (ys.map encS))]) (fun g => b - g) (fun g => i ≤ g ∧ g ≤ b ∧ Sort.scanUp (fun x => !ltS pv x) ys.toArray j g = Sort.scanUp (fun x => !ltS pv x) ys.toArray j (i)) (i) goes ⟨Nat.le_refl _, hib, rfl⟩ ?_
      rintro i2 ⟨h1, h2, hw⟩
      (try dsimp only)
      rw [Sort.scanUp] at hw
      by_cases hlt : i2 ≤ j
      · have d1 : decide ((i2 : Int) ≤ (j : Int)) = true := decide_eq_true (by omega)
        obtain ⟨x, hx⟩ : ∃ x, ys[i2]? = some x := ⟨_, List.getElem?_eq_getElem (by omega)⟩
        have hx' := els_at (k := 0 + (i2 : Int).toNat) hx (by omega)
        rw [gb hx] at hw
        repeat first | refine o_copy ?_ | refine nl ?_ | refine ct_seq ?_ | refine rg ?_ | refine ct_block ?_ | refine bq ?_ | refine o_iaddrG ?_ | refine cv0 (cmpf_vc pv x) ?_ | refine o_iaddr ?_ | refine o_iaddrO ?_ | refine o_iaddrR ?_ | refine o_add ?_ | refine o_sub ?_ | refine o_cat ?_ | refine o_bin ?_ | refine o_loadsA ?_ | refine o_loadpA ?_ | refine o_store ?_ | refine o_not ?_ | refine o_pickt ?_ | refine o_pickf ?_ | refine skF ?_ | refine skU ?_
        refine cnd (fun h => ct_skip ?_) (fun h => ct_exit ?_)
        · rw [if_pos (by simp [hlt]; simpa [ltS] using h)] at hw
          repeat first | refine o_copy ?_ | refine nl ?_ | refine ct_seq ?_ | refine rg ?_ | refine ct_block ?_ | refine bq ?_ | refine o_iaddr ?_ | refine o_iaddrO ?_ | refine o_iaddrR ?_ | refine o_add ?_ | refine o_sub ?_ | refine o_cat ?_ | refine o_bin ?_ | refine o_loadsA ?_ | refine o_loadpA ?_ | refine o_store ?_ | refine o_not ?_ | refine o_pickt ?_ | refine o_pickf ?_ | refine skF ?_ | refine skU ?_
          exact agn (i2 + 1) ⟨by omega, by omega, hw⟩ goes
        · rw [if_neg (by simp [hlt]; simpa [ltS] using h)] at hw
          exact ⟨i2, ⟨h1, h2, hw.symm⟩, goes⟩
      · have d1 : decide ((i2 : Int) ≤ (j : Int)) = false := decide_eq_false (by omega)
        rw [if_neg (by simp [hlt])] at hw
        repeat first | refine o_copy ?_ | refine nl ?_ | refine ct_seq ?_ | refine rg ?_ | refine ct_block ?_ | refine bq ?_ | refine o_iaddr ?_ | refine o_iaddrO ?_ | refine o_iaddrR ?_ | refine o_add ?_ | refine o_sub ?_ | refine o_cat ?_ | refine o_bin ?_ | refine o_loadsA ?_ | refine o_loadpA ?_ | refine o_store ?_ | refine o_not ?_ | refine o_pickt ?_ | refine o_pickf ?_ | refine skF ?_ | refine skU ?_
        refine cndf (ct_exit ?_)
        exact ⟨i2, ⟨h1, h2, hw.symm⟩, goes⟩
    rintro i2 ⟨hi2, hib2, hu⟩
    (try dsimp only)
    refine ct_mid (lvl := 1) (fun (g : Nat) => [(0, .own ⟨0, 0⟩ N 0 n), (1, .int .i64 a), (4, .fn 47 []), (11, .int .i64 (i2 : Nat)), (12, .int .i64 (g : Nat))]) (fun g => [(⟨0, 0⟩, blkV 2 (ys.map encS))]) (fun g => g ≤ j ∧ Sort.scanDown (fun x => ltS pv x) ys.toArray i2 j = g) (ct_block ?_) ?_
    · refine ct_loopG (fun (g : Nat) => [(0, .own ⟨0, 0⟩ N 0 n), (1, .int .i64 a), (4, .fn 47 []), (11, .int .i64 (i2 : Nat)), (12, .int .i64 (g : Nat))]) (fun g => [(⟨0, 0⟩, blkV 2 (ys.map encS))]) (fun g => g) (fun g => g ≤ j ∧ Sort.scanDown (fun x => ltS pv x) ys.toArray i2 g = Sort.scanDown (fun x => ltS pv x) ys.toArray i2 j) j goes ⟨Nat.le_refl _, rfl⟩ ?_
      rintro j2 ⟨h1, hw⟩
      (try dsimp only)
      by_cases hlt : i2 ≤ j2
      · obtain ⟨m, rfl⟩ : ∃ m, j2 = m + 1 := ⟨j2 - 1, by omega⟩
        rw [Sort.scanDown] at hw
        have d1 : decide ((i2 : Int) ≤ ((m + 1 : Nat) : Int)) = true := decide_eq_true (by omega)
        obtain ⟨x, hx⟩ : ∃ x, ys[m + 1]? = some x := ⟨_, List.getElem?_eq_getElem (by omega)⟩
        have hx' := els_at (k := 0 + ((m + 1 : Nat) : Int).toNat) hx (by omega)
        rw [gb hx] at hw
        repeat first | refine o_copy ?_ | refine nl ?_ | refine ct_seq ?_ | refine rg ?_ | refine ct_block ?_ | refine bq ?_ | refine o_iaddrG ?_ | refine cv0 (cmpf_vc pv x) ?_ | refine o_iaddr ?_ | refine o_iaddrO ?_ | refine o_iaddrR ?_ | refine o_add ?_ | refine o_sub ?_ | refine o_cat ?_ | refine o_bin ?_ | refine o_loadsA ?_ | refine o_loadpA ?_ | refine o_store ?_ | refine o_not ?_ | refine o_pickt ?_ | refine o_pickf ?_ | refine skF ?_ | refine skU ?_
        refine cnd (fun h => ct_skip ?_) (fun h => ct_exit ?_)
        · rw [if_pos (by simp [hlt]; simpa [ltS] using h)] at hw
          repeat first | refine o_copy ?_ | refine nl ?_ | refine ct_seq ?_ | refine rg ?_ | refine ct_block ?_ | refine bq ?_ | refine o_iaddr ?_ | refine o_iaddrO ?_ | refine o_iaddrR ?_ | refine o_add ?_ | refine o_sub ?_ | refine o_cat ?_ | refine o_bin ?_ | refine o_loadsA ?_ | refine o_loadpA ?_ | refine o_store ?_ | refine o_not ?_ | refine o_pickt ?_ | refine o_pickf ?_ | refine skF ?_ | refine skU ?_
          exact agn m ⟨by omega, hw⟩ (goes (h1 := by refine ⟨rfl, rfl, rfl, rfl, congrArg (fun z => some (PV.int .i64 z)) (by omega), trivial⟩))
        · rw [if_neg (by simp [hlt]; simpa [ltS] using h)] at hw
          exact ⟨m + 1, ⟨h1, hw.symm⟩, goes⟩
      · have d1 : decide ((i2 : Int) ≤ (j2 : Int)) = false := decide_eq_false (by omega)
        have hz : Sort.scanDown (fun x => ltS pv x) ys.toArray i2 j2 = j2 := by
          cases j2 with
          | zero => rfl
          | succ m => rw [Sort.scanDown, if_neg (by simp [hlt])]
        rw [hz] at hw
        repeat first | refine o_copy ?_ | refine nl ?_ | refine ct_seq ?_ | refine rg ?_ | refine ct_block ?_ | refine bq ?_ | refine o_iaddr ?_ | refine o_iaddrO ?_ | refine o_iaddrR ?_ | refine o_add ?_ | refine o_sub ?_ | refine o_cat ?_ | refine o_bin ?_ | refine o_loadsA ?_ | refine o_loadpA ?_ | refine o_store ?_ | refine o_not ?_ | refine o_pickt ?_ | refine o_pickf ?_ | refine skF ?_ | refine skU ?_
        refine cndf (ct_exit ?_)
        exact ⟨j2, ⟨h1, hw.symm⟩, goes⟩
    rintro j2 ⟨hj2, hd⟩
    (try dsimp only)
    rw [partEq_step (gb hpv) hu hd hi2 hj2] at hv
    repeat first | refine o_copy ?_ | refine nl ?_ | refine ct_seq ?_ | refine rg ?_ | refine ct_block ?_ | refine bq ?_ | refine o_iaddr ?_ | refine o_iaddrO ?_ | refine o_iaddrR ?_ | refine o_add ?_ | refine o_sub ?_ | refine o_cat ?_ | refine o_bin ?_ | refine o_loadsA ?_ | refine o_loadpA ?_ | refine o_store ?_ | refine o_not ?_ | refine o_pickt ?_ | refine o_pickf ?_ | refine skF ?_ | refine skU ?_
    by_cases hgt : i2 > j2
    · refine cndt (ct_exit ?_) rfl (decide_eq_true (by omega))
      rw [if_pos hgt] at hv
      exact ⟨(i2, ys), hv, goes⟩
    · refine cndf (ct_skip ?_) rfl (decide_eq_false (by omega))
      rw [if_neg hgt] at hv
      obtain ⟨x, hx⟩ : ∃ x, ys[i2]? = some x := ⟨_, List.getElem?_eq_getElem (by omega)⟩
      obtain ⟨y, hy⟩ : ∃ y, ys[j2]? = some y := ⟨_, List.getElem?_eq_getElem (by omega)⟩
      have hk1 : 0 + (i2 : Int).toNat = i2 := by omega
      have hk2 : 0 + (j2 : Int).toNat = j2 := by omega
      have hx' := els_at hx hk1
      have hy' := els_at hy hk2
      rw [swp_eq hx hy] at hv
      repeat first | refine o_copy ?_ | refine nl ?_ | refine ct_seq ?_ | refine rg ?_ | refine ct_block ?_ | refine bq ?_ | refine o_iaddrG ?_ | refine o_v (vst encS y) ?_ | refine o_v (vst encS x) ?_ | refine o_iaddr ?_ | refine o_iaddrO ?_ | refine o_iaddrR ?_ | refine o_add ?_ | refine o_sub ?_ | refine o_cat ?_ | refine o_bin ?_ | refine o_loadsA ?_ | refine o_loadpA ?_ | refine o_store ?_ | refine o_not ?_ | refine o_pickt ?_ | refine o_pickf ?_ | refine skF ?_ | refine skU ?_
      exact agn (i2 + 1, j2 - 1, (ys.set (0 + (i2 : Int).toNat) y).set (0 + (j2 : Int).toNat) x) ⟨by simp only; omega, by simp only; omega, by simp only; omega, by simpa only [List.length_set] using hyl, by simp only [hk1, hk2]; exact hv⟩
        (goes (h1 := by refine ⟨rfl, rfl, rfl, rfl, congrArg (fun z => some (PV.int .i64 z)) (by simp only; omega), trivial⟩))
  · rintro ⟨r, zs⟩ hr
    dsimp only at hr ⊢
    rw [← hr]
    repeat first | refine o_copy ?_ | refine nl ?_ | refine ct_seq ?_ | refine rg ?_ | refine ct_block ?_ | refine bq ?_ | refine o_iaddr ?_ | refine o_iaddrO ?_ | refine o_iaddrR ?_ | refine o_add ?_ | refine o_sub ?_ | refine o_cat ?_ | refine o_bin ?_ | refine o_loadsA ?_ | refine o_loadpA ?_ | refine o_store ?_ | refine o_not ?_ | refine o_pickt ?_ | refine o_pickf ?_ | refine skF ?_ | refine skU ?_
    exact ct_ret ⟨.inr rfl, oL1 rfl⟩
set_option maxHeartbeats 4000000 in
theorem part_vc {N n : Nat} (xs : List SpanL) (a b pivot : Nat) (hN : xs.length = N) (hp1 : a ≤ pivot) (hp2 : pivot < b) (hb : b ≤ n) (hn : n ≤ N) (hm : N ≤ 60000) :
    VC Try.prog 67 [.own ⟨0, 0⟩ N 0 n, .int .i64 a, .int .i64 b, .int .i64 pivot, .fn 47 []] [blkV 2 (xs.map encS)] (.tup [.int .i64 (Sort.partition ltS xs.toArray a b pivot).1, .bool (Sort.partition ltS xs.toArray a b pivot).2.1]) (srt (Sort.partition ltS xs.toArray a b pivot).2.2) := by
  refine vc_of vf67 ?_ (Nat.le_of_ble_eq_true rfl) (by intro vs h; cases h; simp)
  obtain ⟨x0, hx0⟩ : ∃ x, xs[a]? = some x := ⟨_, List.getElem?_eq_getElem (by omega)⟩
  obtain ⟨y0, hy0⟩ : ∃ y, xs[pivot]? = some y := ⟨_, List.getElem?_eq_getElem (by omega)⟩
  have hk1 : 0 + (a : Int).toNat = a := by omega
  have hk2 : 0 + (pivot : Int).toNat = pivot := by omega
  have hx' := els_at hx0 hk1
  have hy' := els_at hy0 hk2
  have hsw := swp_eq hx0 hy0
  rw [← hk1, ← hk2] at hsw
  unfold Sort.partition
  simp only
  rw [swp_eq hx0 hy0]
  refine ct_seq (rg ?_)
  repeat first | refine o_copy ?_ | refine o_iaddr ?_ | refine o_iaddrO ?_ | refine o_iaddrR ?_ | refine o_add ?_ | refine o_sub ?_ | refine o_cat ?_ | refine o_bin ?_ | refine o_loadsA ?_ | refine o_loadpA ?_ | refine o_store ?_ | refine o_not ?_ | refine o_pickt ?_ | refine o_pickf ?_ | refine skF ?_ | refine skU ?_
  refine nl ?_
  refine ct_seq (rg ?_)
  repeat first | refine o_copy ?_ | refine o_iaddrG ?_ | refine o_v (vst encS y0) ?_ | refine o_v (vst encS x0) ?_ | refine o_iaddr ?_ | refine o_iaddrO ?_ | refine o_iaddrR ?_ | refine o_add ?_ | refine o_sub ?_ | refine o_cat ?_ | refine o_bin ?_ | refine o_loadsA ?_ | refine o_loadpA ?_ | refine o_store ?_ | refine o_not ?_ | refine o_pickt ?_ | refine o_pickf ?_ | refine skF ?_ | refine skU ?_
  refine nl ?_
  refine ct_seq (rg ?_)
  repeat first | refine o_copy ?_ | refine o_iaddr ?_ | refine o_iaddrO ?_ | refine o_iaddrR ?_ | refine o_add ?_ | refine o_sub ?_ | refine o_cat ?_ | refine o_bin ?_ | refine o_loadsA ?_ | refine o_loadpA ?_ | refine o_store ?_ | refine o_not ?_ | refine o_pickt ?_ | refine o_pickf ?_ | refine skF ?_ | refine skU ?_
  refine nl ?_
  rw [hk1, hk2]
  have hdl : ((xs.set a y0).set pivot x0).length = N := by simpa only [List.length_set] using hN
  generalize (xs.set a y0).set pivot x0 = ys at hdl
  have hyl := hdl
  obtain ⟨pv, hpv⟩ : ∃ x, ys[a]? = some x := ⟨_, List.getElem?_eq_getElem (by omega)⟩
  have hpv' := els_at (k := 0 + (a : Int).toNat) hpv (by omega)
  rw [gb hpv]
  have hjb : b - 1 < b := by omega
  obtain ⟨j, hj⟩ : ∃ j, j = b - 1 := ⟨_, rfl⟩
  have hje : (b : Int) - 1 = (j : Nat) := by omega
  rw [hje, ← hj]
  refine ct_mid (lvl := 1) (fun (g : Nat) => [(0, .own ⟨0, 0⟩ N 0 n), (1, .int .i64 a), (4, .fn 47 []), (13, .int .i64 (j : Nat)), (12, .int .i64 (g : Nat))]) (fun g => [(⟨0, 0⟩, blkV 2 (ys.map encS))]) (fun g => a + 1 ≤ g ∧ g ≤ b ∧ Sort.scanUp (fun x => ltS x pv) ys.toArray j (a + 1) = g) (ct_block ?_) ?_
  · refine ct_loopG (fun (g : Nat) => [(0, .own ⟨0, 0⟩ N 0 n), (1, .int .i64 a), (4, .fn 47 []), (13, .int .i64 (j : Nat)), (12, .int .i64 (g : Nat))]) (fun g => [(⟨0, 0⟩, blkV 2 (ys.map encS))]) (fun g => b - g) (fun g => a + 1 ≤ g ∧ g ≤ b ∧ Sort.scanUp (fun x => ltS x pv) ys.toArray j g = Sort.scanUp (fun x => ltS x pv) ys.toArray j (a + 1)) (a + 1) goes ⟨Nat.le_refl _, by omega, rfl⟩ ?_
    rintro i2 ⟨h1, h2, hw⟩
    (try dsimp only)
    rw [Sort.scanUp] at hw
    by_cases hlt : i2 ≤ j
    · have d1 : decide ((i2 : Int) ≤ (j : Int)) = true := decide_eq_true (by omega)
      obtain ⟨x, hx⟩ : ∃ x, ys[i2]? = some x := ⟨_, List.getElem?_eq_getElem (by omega)⟩
      have hx' := els_at (k := 0 + (i2 : Int).toNat) hx (by omega)
      rw [gb hx] at hw
      repeat first | refine o_copy ?_ | refine nl ?_ | refine ct_seq ?_ | refine rg ?_ | refine ct_block ?_ | refine bq ?_ | refine o_iaddrG ?_ | refine cv0 (cmpf_vc x pv) ?_ | refine o_iaddr ?_ | refine o_iaddrO ?_ | refine o_iaddrR ?_ | refine o_add ?_ | refine o_sub ?_ | refine o_cat ?_ | refine o_bin ?_ | refine o_loadsA ?_ | refine o_loadpA ?_ | refine o_store ?_ | refine o_not ?_ | refine o_pickt ?_ | refine o_pickf ?_ | refine skF ?_ | refine skU ?_
      refine cnd (fun h => ct_skip ?_) (fun h => ct_exit ?_)
      · rw [if_pos (by simp [hlt]; simpa [ltS] using h)] at hw
        repeat first | refine o_copy ?_ | refine nl ?_ | refine ct_seq ?_ | refine rg ?_ | refine ct_block ?_ | refine bq ?_ | refine o_iaddr ?_ | refine o_iaddrO ?_ | refine o_iaddrR ?_ | refine o_add ?_ | refine o_sub ?_ | refine o_cat ?_ | refine o_bin ?_ | refine o_loadsA ?_ | refine o_loadpA ?_ | refine o_store ?_ | refine o_not ?_ | refine o_pickt ?_ | refine o_pickf ?_ | refine skF ?_ | refine skU ?_
        exact agn (i2 + 1) ⟨by omega, by omega, hw⟩ goes
      · rw [if_neg (by simp [hlt]; simpa [ltS] using h)] at hw
        exact ⟨i2, ⟨h1, h2, hw.symm⟩, goes⟩
    · have d1 : decide ((i2 : Int) ≤ (j : Int)) = false := decide_eq_false (by omega)
      rw [if_neg (by simp [hlt])] at hw
      repeat first | refine o_copy ?_ | refine nl ?_ | refine ct_seq ?_ | refine rg ?_ | refine ct_block ?_ | refine bq ?_ | refine o_iaddr ?_ | refine o_iaddrO ?_ | refine o_iaddrR ?_ | refine o_add ?_ | refine o_sub ?_ | refine o_cat ?_ | refine o_bin ?_ | refine o_loadsA ?_ | refine o_loadpA ?_ | refine o_store ?_ | refine o_not ?_ | refine o_pickt ?_ | refine o_pickf ?_ | refine skF ?_ | refine skU ?_
      refine cndf (ct_exit ?_)
      exact ⟨i2, ⟨h1, h2, hw.symm⟩, goes⟩
  rintro i2 ⟨hi2, hib2, hu⟩
  (try dsimp only)
  refine ct_mid (lvl := 1) (fun (g : Nat) => [(0, .own ⟨0, 0⟩ N 0 n), (1, .int .i64 a), (4, .fn 47 []), (12, .int .i64 (i2 : Nat)), (13, .int .i64 (g : Nat))]) (fun g => [(⟨0, 0⟩, blkV 2 (ys.map encS))]) (fun g => g ≤ j ∧ Sort.scanDown (fun x => !ltS x pv) ys.toArray i2 j = g) (ct_block ?_) ?_
  · refine ct_loopG (fun (g : Nat) => [(0, .own ⟨0, 0⟩ N 0 n), (1, .int .i64 a), (4, .fn 47 []), (12, .int .i64 (i2 : Nat)), (13, .int .i64 (g : Nat))]) (fun g => [(⟨0, 0⟩, blkV 2 (ys.map encS))]) (fun g => g) (fun g => g ≤ j ∧ Sort.scanDown (fun x => !ltS x pv) ys.toArray i2 g = Sort.scanDown (fun x => !ltS x pv) ys.toArray i2 j) j goes ⟨Nat.le_refl _, rfl⟩ ?_
    rintro j2 ⟨h1, hw⟩
    (try dsimp only)
    by_cases hlt : i2 ≤ j2
    · obtain ⟨m, rfl⟩ : ∃ m, j2 = m + 1 := ⟨j2 - 1, by omega⟩
      rw [Sort.scanDown] at hw
      have d1 : decide ((i2 : Int) ≤ ((m + 1 : Nat) : Int)) = true := decide_eq_true (by omega)
      obtain ⟨x, hx⟩ : ∃ x, ys[m + 1]? = some x := ⟨_, List.getElem?_eq_getElem (by omega)⟩
      have hx' := els_at (k := 0 + ((m + 1 : Nat) : Int).toNat) hx (by omega)
      rw [gb hx] at hw
      repeat first | refine o_copy ?_ | refine nl ?_ | refine ct_seq ?_ | refine rg ?_ | refine ct_block ?_ | refine bq ?_ | refine o_iaddrG ?_ | refine cv0 (cmpf_vc x pv) ?_ | refine o_iaddr ?_ | refine o_iaddrO ?_ | refine o_iaddrR ?_ | refine o_add ?_ | refine o_sub ?_ | refine o_cat ?_ | refine o_bin ?_ | refine o_loadsA ?_ | refine o_loadpA ?_ | refine o_store ?_ | refine o_not ?_ | refine o_pickt ?_ | refine o_pickf ?_ | refine skF ?_ | refine skU ?_
      refine cnd (fun h => ct_skip ?_) (fun h => ct_exit ?_)
      · rw [if_pos (by simp [hlt]; simpa [ltS] using h)] at hw
        repeat first | refine o_copy ?_ | refine nl ?_ | refine ct_seq ?_ | refine rg ?_ | refine ct_block ?_ | refine bq ?_ | refine o_iaddr ?_ | refine o_iaddrO ?_ | refine o_iaddrR ?_ | refine o_add ?_ | refine o_sub ?_ | refine o_cat ?_ | refine o_bin ?_ | refine o_loadsA ?_ | refine o_loadpA ?_ | refine o_store ?_ | refine o_not ?_ | refine o_pickt ?_ | refine o_pickf ?_ | refine skF ?_ | refine skU ?_
        exact agn m ⟨by omega, hw⟩ (goes (h1 := by refine ⟨rfl, rfl, rfl, rfl, congrArg (fun z => some (PV.int .i64 z)) (by omega), trivial⟩))
      · rw [if_neg (by simp [hlt]; simpa [ltS] using h)] at hw
        exact ⟨m + 1, ⟨h1, hw.symm⟩, goes⟩
    · have d1 : decide ((i2 : Int) ≤ (j2 : Int)) = false := decide_eq_false (by omega)
      have hz : Sort.scanDown (fun x => !ltS x pv) ys.toArray i2 j2 = j2 := by
        cases j2 with
        | zero => rfl
        | succ m => rw [Sort.scanDown, if_neg (by simp [hlt])]
      rw [hz] at hw
      repeat first | refine o_copy ?_ | refine nl ?_ | refine ct_seq ?_ | refine rg ?_ | refine ct_block ?_ | refine bq ?_ | refine o_iaddr ?_ | refine o_iaddrO ?_ | refine o_iaddrR ?_ | refine o_add ?_ | refine o_sub ?_ | refine o_cat ?_ | refine o_bin ?_ | refine o_loadsA ?_ | refine o_loadpA ?_ | refine o_store ?_ | refine o_not ?_ | refine o_pickt ?_ | refine o_pickf ?_ | refine skF ?_ | refine skU ?_
      refine cndf (ct_exit ?_)
      exact ⟨j2, ⟨h1, hw.symm⟩, goes⟩
  rintro j2 ⟨hj2, hd⟩
  (try dsimp only)
  rw [hu, hd]
  repeat first | refine o_copy ?_ | refine nl ?_ | refine ct_seq ?_ | refine rg ?_ | refine ct_block ?_ | refine bq ?_ | refine o_iaddr ?_ | refine o_iaddrO ?_ | refine o_iaddrR ?_ | refine o_add ?_ | refine o_sub ?_ | refine o_cat ?_ | refine o_bin ?_ | refine o_loadsA ?_ | refine o_loadpA ?_ | refine o_store ?_ | refine o_not ?_ | refine o_pickt ?_ | refine o_pickf ?_ | refine skF ?_ | refine skU ?_
  by_cases hgt : i2 > j2
  · refine cndt ?_ rfl (decide_eq_true (by omega))
    rw [if_pos hgt]
    obtain ⟨x, hx⟩ : ∃ x, ys[j2]? = some x := ⟨_, List.getElem?_eq_getElem (by omega)⟩
    obtain ⟨y, hy⟩ : ∃ y, ys[a]? = some y := ⟨_, List.getElem?_eq_getElem (by omega)⟩
    have hk1 : 0 + (j2 : Int).toNat = j2 := by omega
    have hk2 : 0 + (a : Int).toNat = a := by omega
    have hx' := els_at hx hk1
    have hy' := els_at hy hk2
    obtain rfl : y = pv := by rw [hpv] at hy; cases hy; rfl
    rw [swp_eq hx hy]
    repeat first | refine o_copy ?_ | refine nl ?_ | refine ct_seq ?_ | refine rg ?_ | refine ct_block ?_ | refine bq ?_ | refine o_iaddrG ?_ | refine o_v (vst encS y) ?_ | refine o_v (vst encS x) ?_ | refine o_iaddr ?_ | refine o_iaddrO ?_ | refine o_iaddrR ?_ | refine o_add ?_ | refine o_sub ?_ | refine o_cat ?_ | refine o_bin ?_ | refine o_loadsA ?_ | refine o_loadpA ?_ | refine o_store ?_ | refine o_not ?_ | refine o_pickt ?_ | refine o_pickf ?_ | refine skF ?_ | refine skU ?_
    refine ct_ret ⟨.inr rfl, oL1 ?_⟩
    simp only [hk1, hk2]
  · refine cndf (ct_skip ?_) rfl (decide_eq_false (by omega))
    rw [if_neg hgt]
    clear hk1 hk2
    obtain ⟨x, hx⟩ : ∃ x, ys[i2]? = some x := ⟨_, List.getElem?_eq_getElem (by omega)⟩
    obtain ⟨y, hy⟩ : ∃ y, ys[j2]? = some y := ⟨_, List.getElem?_eq_getElem (by omega)⟩
    have hk1 : 0 + (i2 : Int).toNat = i2 := by omega
    have hk2 : 0 + (j2 : Int).toNat = j2 := by omega
    have hx' := els_at hx hk1
    have hy' := els_at hy hk2
    rw [swp_eq hx hy]
    refine ct_seq (rg ?_)
    repeat first | refine o_copy ?_ | refine o_iaddrG ?_ | refine o_v (vst encS y) ?_ | refine o_v (vst encS x) ?_ | refine o_iaddr ?_ | refine o_iaddrO ?_ | refine o_iaddrR ?_ | refine o_add ?_ | refine o_sub ?_ | refine o_cat ?_ | refine o_bin ?_ | refine o_loadsA ?_ | refine o_loadpA ?_ | refine o_store ?_ | refine o_not ?_ | refine o_pickt ?_ | refine o_pickf ?_ | refine skF ?_ | refine skU ?_
    refine nl ?_
    refine ct_seq (rg ?_)
    repeat first | refine o_copy ?_ | refine o_iaddr ?_ | refine o_iaddrO ?_ | refine o_iaddrR ?_ | refine o_add ?_ | refine o_sub ?_ | refine o_cat ?_ | refine o_bin ?_ | refine o_loadsA ?_ | refine o_loadpA ?_ | refine o_store ?_ | refine o_not ?_ | refine o_pickt ?_ | refine o_pickf ?_ | refine skF ?_ | refine skU ?_
    refine nl ?_
    refine ct_seq (rg ?_)
    repeat first | refine o_copy ?_ | refine o_iaddr ?_ | refine o_iaddrO ?_ | refine o_iaddrR ?_ | refine o_add ?_ | refine o_sub ?_ | refine o_cat ?_ | refine o_bin ?_ | refine o_loadsA ?_ | refine o_loadpA ?_ | refine o_store ?_ | refine o_not ?_ | refine o_pickt ?_ | refine o_pickf ?_ | refine skF ?_ | refine skU ?_
    refine nl ?_
    rw [hk1, hk2]
    have hel : ((ys.set i2 y).set j2 x).length = N := by simpa only [List.length_set] using hyl
    generalize (ys.set i2 y).set j2 x = es at hel
    refine ct_mid (lvl := 1) (fun (g : Nat × List SpanL) => [(0, .own ⟨0, 0⟩ N 0 n), (1, .int .i64 a), (13, .int .i64 g.1)]) (fun g => [(⟨0, 0⟩, blkV 2 (g.2.map encS))]) (fun g => g.1 < b ∧ g.2.length = N ∧ (g.1, g.2.toArray) = Sort.partLoop ltS a (i2 + 1) (j2 - 1) es.toArray) (ct_block ?_) ?_
    · refine ct_loopG (fun (g : Nat × Nat × List SpanL) => [(0, .own ⟨0, 0⟩ N 0 n), (1, .int .i64 a), (4, .fn 47 []), (12, .int .i64 g.1), (13, .int .i64 (g.2.1 : Nat))])
        (fun g => [(⟨0, 0⟩, blkV 2 (g.2.2.map encS))]) (fun g => g.2.1 + 1 - g.1)
        (fun g => a < g.1 ∧ g.1 ≤ b ∧ g.2.1 < b ∧ g.2.2.length = N ∧ Sort.partLoop ltS a g.1 g.2.1 g.2.2.toArray = Sort.partLoop ltS a (i2 + 1) (j2 - 1) es.toArray) (i2 + 1, j2 - 1, es)
        (goes (h1 := by refine ⟨rfl, rfl, rfl, rfl, congrArg (fun z => some (PV.int .i64 z)) (by simp only; omega), trivial⟩)) ⟨by simp only; omega, by simp only; omega, by simp only; omega, hel, rfl⟩ ?_
      generalize Sort.partLoop ltS a (i2 + 1) (j2 - 1) es.toArray = pl
      clear hk1 hk2 hx hy hx' hy' hu hd hpv hpv' hel hyl hdl hgt hi2 hib2 hj2 hjb hje hj hsw hx0 hy0
      rintro ⟨i, j, ys⟩ ⟨hai, hib, hjb, hyl, hv⟩
      dsimp only at hai hib hjb hyl hv ⊢
      obtain ⟨pv, hpv⟩ : ∃ x, ys[a]? = some x := ⟨_, List.getElem?_eq_getElem (by omega)⟩
      have hpv' := els_at (k := 0 + (a : Int).toNat) hpv (by omega)
      refine ct_block ?_
      refine ct_mid (lvl := 1) (fun (g : Nat) => [(0, .own ⟨0, 0⟩ N 0 n), (1, .int .i64 a), (4, .fn 47 []), (13, .int .i64 (j : Nat)), (12, .int .i64 (g : Nat))]) (fun g => [(⟨0, 0⟩, blkV 2 (ys.map encS))]) (fun g => i ≤ g ∧ g ≤ b ∧ Sort.scanUp (fun x => ltS x pv) ys.toArray j (i) = g) (ct_block ?_) ?_
      · refine ct_loopG (fun (g : Nat) => [(0, .own ⟨0, 0⟩ N 0 n), (1, .int .i64 a), (4, .fn 47 []), (13, .int .i64 (j : Nat)), (12, .int .i64 (g : Nat))]) (fun g => [(⟨0, 0⟩, blkV 2 (ys.map encS))]) (fun g => b - g) (fun g => i ≤ g ∧ g ≤ b ∧ Sort.scanUp (fun x => ltS x pv) ys.toArray j g = Sort.scanUp (fun x => ltS x pv) ys.toArray j (i)) (i) goes ⟨Nat.le_refl _, hib, rfl⟩ ?_
        rintro i2 ⟨h1, h2, hw⟩
        (try dsimp only)
        rw [Sort.scanUp] at hw
        by_cases hlt : i2 ≤ j
        · have d1 : decide ((i2 : Int) ≤ (j : Int)) = true := decide_eq_true (by omega)
          obtain ⟨x, hx⟩ : ∃ x, ys[i2]? = some x := ⟨_, List.getElem?_eq_getElem (by omega)⟩
          have hx' := els_at (k := 0 + (i2 : Int).toNat) hx (by omega)
          rw [gb hx] at hw
          repeat first | refine o_copy ?_ | refine nl ?_ | refine ct_seq ?_ | refine rg ?_ | refine ct_block ?_ | refine bq ?_ | refine o_iaddrG ?_ | refine cv0 (cmpf_vc x pv) ?_ | refine o_iaddr ?_ | refine o_iaddrO ?_ | refine o_iaddrR ?_ | refine o_add ?_ | refine o_sub ?_ | refine o_cat ?_ | refine o_bin ?_ | refine o_loadsA ?_ | refine o_loadpA ?_ | refine o_store ?_ | refine o_not ?_ | refine o_pickt ?_ | refine o_pickf ?_ | refine skF ?_ | refine skU ?_
          refine cnd (fun h => ct_skip ?_) (fun h => ct_exit ?_)
          · rw [if_pos (by simp [hlt]; simpa [ltS] using h)] at hw
            repeat first | refine o_copy ?_ | refine nl ?_ | refine ct_seq ?_ | refine rg ?_ | refine ct_block ?_ | refine bq ?_ | refine o_iaddr ?_ | refine o_iaddrO ?_ | refine o_iaddrR ?_ | refine o_add ?_ | refine o_sub ?_ | refine o_cat ?_ | refine o_bin ?_ | refine o_loadsA ?_ | refine o_loadpA ?_ | refine o_store ?_ | refine o_not ?_ | refine o_pickt ?_ | refine o_pickf ?_ | refine skF ?_ | refine skU ?_
            exact agn (i2 + 1) ⟨by omega, by omega, hw⟩ goes
          · rw [if_neg (by simp [hlt]; simpa [ltS] using h)] at hw
            exact ⟨i2, ⟨h1, h2, hw.symm⟩, goes⟩
        · have d1 : decide ((i2 : Int) ≤ (j : Int)) = false := decide_eq_false (by omega)
          rw [if_neg (by simp [hlt])] at hw
          repeat first | refine o_copy ?_ | refine nl ?_ | refine ct_seq ?_ | refine rg ?_ | refine ct_block ?_ | refine bq ?_ | refine o_iaddr ?_ | refine o_iaddrO ?_ | refine o_iaddrR ?_ | refine o_add ?_ | refine o_sub ?_ | refine o_cat ?_ | refine o_bin ?_ | refine o_loadsA ?_ | refine o_loadpA ?_ | refine o_store ?_ | refine o_not ?_ | refine o_pickt ?_ | refine o_pickf ?_ | refine skF ?_ | refine skU ?_
          refine cndf (ct_exit ?_)
          exact ⟨i2, ⟨h1, h2, hw.symm⟩, goes⟩
      rintro i2 ⟨hi2, hib2, hu⟩
      (try dsimp only)
      refine ct_mid (lvl := 1) (fun (g : Nat) => [(0, .own ⟨0, 0⟩ N 0 n), (1, .int .i64 a), (4, .fn 47 []), (12, .int .i64 (i2 : Nat)), (13, .int .i64 (g : Nat))]) (fun g => [(⟨0, 0⟩, blkV 2 (ys.map encS))]) (fun g => g ≤ j ∧ Sort.scanDown (fun x => !ltS x pv) ys.toArray i2 j = g) (ct_block ?_) ?_
      · refine ct_loopG (fun (g : Nat) => [(0, .own ⟨0, 0⟩ N 0 n), (1, .int .i64 a), (4, .fn 47 []), (12, .int .i64 (i2 : Nat)), (13, .int .i64 (g : Nat))]) (fun g => [(⟨0, 0⟩, blkV 2 (ys.map encS))]) (fun g => g) (fun g => g ≤ j ∧ Sort.scanDown (fun x => !ltS x pv) ys.toArray i2 g = Sort.scanDown (fun x => !ltS x pv) ys.toArray i2 j) j goes ⟨Nat.le_refl _, rfl⟩ ?_
        rintro j2 ⟨h1, hw⟩
        (try dsimp only)
        by_cases hlt : i2 ≤ j2
        · obtain ⟨m, rfl⟩ : ∃ m, j2 = m + 1 := ⟨j2 - 1, by omega⟩
          rw [Sort.scanDown] at hw
          have d1 : decide ((i2 : Int) ≤ ((m + 1 : Nat) : Int)) = true := decide_eq_true (by omega)
          obtain ⟨x, hx⟩ : ∃ x, ys[m + 1]? = some x := ⟨_, List.getElem?_eq_getElem (by omega)⟩
          have hx' := els_at (k := 0 + ((m + 1 : Nat) : Int).toNat) hx (by omega)
          rw [gb hx] at hw
          repeat first | refine o_copy ?_ | refine nl ?_ | refine ct_seq ?_ | refine rg ?_ | refine ct_block ?_ | refine bq ?_ | refine o_iaddrG ?_ | refine cv0 (cmpf_vc x pv) ?_ | refine o_iaddr ?_ | refine o_iaddrO ?_ | refine o_iaddrR ?_ | refine o_add ?_ | refine o_sub ?_ | refine o_cat ?_ | refine o_bin ?_ | refine o_loadsA ?_ | refine o_loadpA ?_ | refine o_store ?_ | refine o_not ?_ | refine o_pickt ?_ | refine o_pickf ?_ | refine skF ?_ | refine skU ?_
          refine cnd (fun h => ct_skip ?_) (fun h => ct_exit ?_)
          · rw [if_pos (by simp [hlt]; simpa [ltS] using h)] at hw
            repeat first | refine o_copy ?_ | refine nl ?_ | refine ct_seq ?_ | refine rg ?_ | refine ct_block ?_ | refine bq ?_ | refine o_iaddr ?_ | refine o_iaddrO ?_ | refine o_iaddrR ?_ | refine o_add ?_ | refine o_sub ?_ | refine o_cat ?_ | refine o_bin ?_ | refine o_loadsA ?_ | refine o_loadpA ?_ | refine o_store ?_ | refine o_not ?_ | refine o_pickt ?_ | refine o_pickf ?_ | refine skF ?_ | refine skU ?_
            exact agn m ⟨by omega, hw⟩ (goes (h1 := by refine ⟨rfl, rfl, rfl, rfl, congrArg (fun z => some (PV.int .i64 z)) (by omega), trivial⟩))
          · rw [if_neg (by simp [hlt]; simpa [ltS] using h)] at hw
            exact ⟨m + 1, ⟨h1, hw.symm⟩, goes⟩
        · have d1 : decide ((i2 : Int) ≤ (j2 : Int)) = false := decide_eq_false (by omega)
          have hz : Sort.scanDown (fun x => !ltS x pv) ys.toArray i2 j2 = j2 := by
            cases j2 with
            | zero => rfl
            | succ m => rw [Sort.scanDown, if_neg (by simp [hlt])]
          rw [hz] at hw
          repeat first | refine o_copy ?_ | refine nl ?_ | refine ct_seq ?_ | refine rg ?_ | refine ct_block ?_ | refine bq ?_ | refine o_iaddr ?_ | refine o_iaddrO ?_ | refine o_iaddrR ?_ | refine o_add ?_ | refine o_sub ?_ | refine o_cat ?_ | refine o_bin ?_ | refine o_loadsA ?_ | refine o_loadpA ?_ | refine o_store ?_ | refine o_not ?_ | refine o_pickt ?_ | refine o_pickf ?_ | refine skF ?_ | refine skU ?_
          refine cndf (ct_exit ?_)
          exact ⟨j2, ⟨h1, hw.symm⟩, goes⟩
      rintro j2 ⟨hj2, hd⟩
      (try dsimp only)
      rw [part_step (gb hpv) hu hd hi2 hj2] at hv
      repeat first | refine o_copy ?_ | refine nl ?_ | refine ct_seq ?_ | refine rg ?_ | refine ct_block ?_ | refine bq ?_ | refine o_iaddr ?_ | refine o_iaddrO ?_ | refine o_iaddrR ?_ | refine o_add ?_ | refine o_sub ?_ | refine o_cat ?_ | refine o_bin ?_ | refine o_loadsA ?_ | refine o_loadpA ?_ | refine o_store ?_ | refine o_not ?_ | refine o_pickt ?_ | refine o_pickf ?_ | refine skF ?_ | refine skU ?_
      by_cases hgt : i2 > j2
      · refine cndt (ct_exit ?_) rfl (decide_eq_true (by omega))
        rw [if_pos hgt] at hv
        exact ⟨(j2, ys), ⟨by simp only; omega, hyl, hv⟩, goes⟩
      · refine cndf (ct_skip ?_) rfl (decide_eq_false (by omega))
        rw [if_neg hgt] at hv
        obtain ⟨x, hx⟩ : ∃ x, ys[i2]? = some x := ⟨_, List.getElem?_eq_getElem (by omega)⟩
        obtain ⟨y, hy⟩ : ∃ y, ys[j2]? = some y := ⟨_, List.getElem?_eq_getElem (by omega)⟩
        have hk1 : 0 + (i2 : Int).toNat = i2 := by omega
        have hk2 : 0 + (j2 : Int).toNat = j2 := by omega
        have hx' := els_at hx hk1
        have hy' := els_at hy hk2
        rw [swp_eq hx hy] at hv
        repeat first | refine o_copy ?_ | refine nl ?_ | refine ct_seq ?_ | refine rg ?_ | refine ct_block ?_ | refine bq ?_ | refine o_iaddrG ?_ | refine o_v (vst encS y) ?_ | refine o_v (vst encS x) ?_ | refine o_iaddr ?_ | refine o_iaddrO ?_ | refine o_iaddrR ?_ | refine o_add ?_ | refine o_sub ?_ | refine o_cat ?_ | refine o_bin ?_ | refine o_loadsA ?_ | refine o_loadpA ?_ | refine o_store ?_ | refine o_not ?_ | refine o_pickt ?_ | refine o_pickf ?_ | refine skF ?_ | refine skU ?_
        exact agn (i2 + 1, j2 - 1, (ys.set (0 + (i2 : Int).toNat) y).set (0 + (j2 : Int).toNat) x) ⟨by simp only; omega, by simp only; omega, by simp only; omega, by simpa only [List.length_set] using hyl, by simp only [hk1, hk2]; exact hv⟩
          (goes (h1 := by refine ⟨rfl, rfl, rfl, rfl, congrArg (fun z => some (PV.int .i64 z)) (by simp only; omega), trivial⟩))
    · rintro ⟨r, zs⟩ ⟨hrb, hzl, hr⟩
      dsimp only at hrb hzl hr ⊢
      rw [← hr]
      simp only
      clear hk1 hk2 hx hy hx' hy' hyl
      obtain ⟨x, hx⟩ : ∃ x, zs[r]? = some x := ⟨_, List.getElem?_eq_getElem (by omega)⟩
      obtain ⟨y, hy⟩ : ∃ y, zs[a]? = some y := ⟨_, List.getElem?_eq_getElem (by omega)⟩
      have hk1 : 0 + (r : Int).toNat = r := by omega
      have hk2 : 0 + (a : Int).toNat = a := by omega
      have hx' := els_at hx hk1
      have hy' := els_at hy hk2
      rw [swp_eq hx hy]
      repeat first | refine o_copy ?_ | refine nl ?_ | refine ct_seq ?_ | refine rg ?_ | refine ct_block ?_ | refine bq ?_ | refine o_iaddrG ?_ | refine o_v (vst encS y) ?_ | refine o_v (vst encS x) ?_ | refine o_iaddr ?_ | refine o_iaddrO ?_ | refine o_iaddrR ?_ | refine o_add ?_ | refine o_sub ?_ | refine o_cat ?_ | refine o_bin ?_ | refine o_loadsA ?_ | refine o_loadpA ?_ | refine o_store ?_ | refine o_not ?_ | refine o_pickt ?_ | refine o_pickf ?_ | refine skF ?_ | refine skU ?_
      refine ct_ret ⟨.inr rfl, oL1 ?_⟩
      simp only [hk1, hk2]
end Go.Proofs
