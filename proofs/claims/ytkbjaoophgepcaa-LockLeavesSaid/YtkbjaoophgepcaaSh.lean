/- Sh -/
import Derived.Test.YtkbjaoophgepcaaLc
open Go.V Go.Pu
set_option linter.unusedVariables false
set_option linter.unusedSimpArgs false
set_option maxRecDepth 20000
namespace Go.Proofs
/-- downspout/downspoutlaw32.LockLeaves -/
def vc10 : VCode :=
 (.seq
 (.region 0 false [
 ⟨(some 3), .box (.t 1), none, 0, []⟩,
 ⟨(some 4), .copy (.c (.bool false)), none, 8, []⟩])
 (.seq
 (.region 1 false [
 ⟨(some 16), .call (.c (.fn 11 [])) [], none, 8192, []⟩,
 ⟨(some 5), .copy (.t 16), none, 8200, [0]⟩])
 (.seq
 (.region 2 true [
 ⟨(some 17), .copy (.t 0), none, 16384, []⟩,
 ⟨(some 18), .call (.c (.fn 12 [])) [(.t 17), (.c (.int .i64 14))], none, 16392, [0]⟩,
 ⟨(some 19), .load true 5 (.t 3), none, 16400, []⟩,
 ⟨(some 20), .call (.c (.fn 14 [])) [(.t 19)], none, 16408, [2, 1, 0]⟩,
 ⟨(some 6), .alloc [.nils, .nils], none, 16416, []⟩,
 ⟨(some 7), .alloc [(.int .i64 0), (.str []), (.int .i64 0), (.int .i64 0), (.bool false)], none, 16424, []⟩,
 ⟨none, .store 2 (.t 6) (.t 18), none, 16432, [4, 1, 0, 3, 2, 5]⟩,
 ⟨none, .store 5 (.t 7) (.t 20), none, 16440, [5, 3, 2, 1, 0, 6, 4]⟩])
 (.seq
 (.region 3 false [
 ⟨(some 21), .load true 2 (.t 6), none, 24576, []⟩,
 ⟨(some 22), .faddr 0 (.t 7), none, 24584, []⟩,
 ⟨(some 23), .load false 1 (.t 22), none, 24592, [1]⟩,
 ⟨(some 24), .call (.c (.fn 28 [])) [(.t 21), (.t 23)], none, 24600, [0, 2, 1]⟩,
 ⟨(some 8), .alloc [.nils, .nils, .nils, (.int .i64 0)], none, 24608, []⟩,
 ⟨none, .store 4 (.t 8) (.t 24), none, 24616, [4, 3, 0, 2, 1]⟩])
 (.seq
 (.region 4 true [
 ⟨(some 25), .bslice 5 [(.int .i64 0), (.str []), (.int .i64 0), (.int .i64 0), (.bool false)] 0 [], none, 32768, []⟩,
 ⟨(some 26), .faddr 0 (.t 8), none, 32776, []⟩,
 ⟨(some 27), .faddr 0 (.t 26), none, 32784, [1]⟩,
 ⟨(some 28), .load false 1 (.t 27), none, 32792, [2, 1]⟩,
 ⟨(some 29), .append 5 48 [(.int .i64 0), (.str []), (.int .i64 0), (.int .i64 0), (.bool false)] (.t 25) (.t 28), none, 32800, [0, 3, 2, 1]⟩,
 ⟨(some 30), .faddr 0 (.t 8), none, 32808, []⟩,
 ⟨(some 31), .faddr 1 (.t 30), none, 32816, [5]⟩,
 ⟨(some 32), .load false 1 (.t 31), none, 32824, [6, 5]⟩,
 ⟨(some 33), .append 5 48 [(.int .i64 0), (.str []), (.int .i64 0), (.int .i64 0), (.bool false)] (.t 29) (.t 32), none, 32832, [4, 0, 3, 2, 1, 7, 6, 5]⟩,
 ⟨(some 9), .copy (.t 33), none, 32840, [8, 4, 0, 3, 2, 1, 7, 6, 5]⟩])
 (.seq
 (.region 5 false [
 ⟨(some 10), .copy (.c (.int .i64 0)), none, 40960, []⟩])
 (.seq
 (.seq
 (.region 6 false [
 ⟨(some 11), .copy (.c (.int .i64 0)), none, 49152, []⟩])
 (.block 0
 (.loop
 (.seq
 (.seq
 (.region 7 false [
 ⟨(some 34), .copy (.t 11), none, 57344, []⟩,
 ⟨(some 35), .copy (.t 9), none, 57352, []⟩,
 ⟨(some 36), .len (.t 35), none, 57360, [1]⟩,
 ⟨(some 37), .bin .lss (.t 34) (.t 36), none, 57368, [0, 2, 1]⟩])
 (.cond (.t 37)
 .skip
 (.exit 0)))
 (.seq
 (.block 1
 (.seq
 (.region 9 true [
 ⟨(some 40), .copy (.t 9), none, 73728, []⟩,
 ⟨(some 41), .copy (.t 11), none, 73736, []⟩,
 ⟨(some 42), .iaddr 5 (.t 40) (.t 41), none, 73744, [0, 1]⟩,
 ⟨(some 43), .faddr 0 (.t 42), none, 73752, [2, 0, 1]⟩,
 ⟨(some 44), .load false 1 (.t 43), none, 73760, [3, 2, 0, 1]⟩,
 ⟨(some 45), .faddr 0 (.t 7), none, 73768, []⟩,
 ⟨(some 46), .load false 1 (.t 45), none, 73776, [5]⟩,
 ⟨(some 47), .bin .eql (.t 44) (.t 46), none, 73784, [4, 3, 2, 0, 1, 6, 5]⟩])
 (.cond (.t 47)
 (.seq
 (.region 10 false [
 ⟨(some 4), .copy (.c (.bool false)), none, 81920, []⟩])
 .ret)
 .skip)))
 (.region 8 false [
 ⟨(some 38), .copy (.t 11), none, 65536, []⟩,
 ⟨(some 39), .bin .add (.t 38) (.c (.int .i64 1)), none, 65544, [0]⟩,
 ⟨(some 11), .copy (.t 39), none, 65552, [1, 0]⟩]))))))
 (.seq
 (.seq
 (.region 11 false [
 ⟨(some 12), .copy (.c (.int .i64 0)), none, 90112, []⟩])
 (.block 2
 (.loop
 (.seq
 (.seq
 (.region 12 false [
 ⟨(some 48), .copy (.t 12), none, 98304, []⟩,
 ⟨(some 49), .faddr 0 (.t 6), none, 98312, []⟩,
 ⟨(some 50), .load false 1 (.t 49), none, 98320, [1]⟩,
 ⟨(some 51), .len (.t 50), none, 98328, [2, 1]⟩,
 ⟨(some 52), .faddr 1 (.t 6), none, 98336, []⟩,
 ⟨(some 53), .load false 1 (.t 52), none, 98344, [4]⟩,
 ⟨(some 54), .len (.t 53), none, 98352, [5, 4]⟩,
 ⟨(some 55), .bin .add (.t 51) (.t 54), none, 98360, [3, 2, 1, 6, 5, 4]⟩,
 ⟨(some 56), .bin .lss (.t 48) (.t 55), none, 98368, [0, 7, 3, 2, 1, 6, 5, 4]⟩])
 (.cond (.t 56)
 .skip
 (.exit 2)))
 (.seq
 (.block 3
 (.seq
 (.region 14 false [
 ⟨(some 59), .build [(.int .i64 0), (.str []), (.int .i64 0), (.int .i64 0), (.bool false)] [], none, 114688, []⟩,
 ⟨(some 13), .alloc [(.int .i64 0), (.str []), (.int .i64 0), (.int .i64 0), (.bool false)], none, 114696, []⟩,
 ⟨none, .store 5 (.t 13) (.t 59), none, 114704, [1, 0]⟩])
 (.seq
 (.seq
 (.region 15 false [
 ⟨(some 60), .copy (.t 12), none, 122880, []⟩,
 ⟨(some 61), .faddr 0 (.t 6), none, 122888, []⟩,
 ⟨(some 62), .load false 1 (.t 61), none, 122896, [1]⟩,
 ⟨(some 63), .len (.t 62), none, 122904, [2, 1]⟩,
 ⟨(some 64), .bin .lss (.t 60) (.t 63), none, 122912, [0, 3, 2, 1]⟩])
 (.cond (.t 64)
 (.region 16 false [
 ⟨(some 65), .faddr 0 (.t 6), none, 131072, []⟩,
 ⟨(some 66), .load false 1 (.t 65), none, 131080, [0]⟩,
 ⟨(some 67), .copy (.t 12), none, 131088, []⟩,
 ⟨(some 68), .iaddr 5 (.t 66) (.t 67), none, 131096, [1, 0, 2]⟩,
 ⟨(some 69), .load true 5 (.t 68), none, 131104, [3, 1, 0, 2]⟩,
 ⟨none, .store 5 (.t 13) (.t 69), none, 131112, [4, 3, 1, 0, 2]⟩])
 (.region 17 false [
 ⟨(some 70), .faddr 1 (.t 6), none, 139264, []⟩,
 ⟨(some 71), .load false 1 (.t 70), none, 139272, [0]⟩,
 ⟨(some 72), .copy (.t 12), none, 139280, []⟩,
 ⟨(some 73), .faddr 0 (.t 6), none, 139288, []⟩,
 ⟨(some 74), .load false 1 (.t 73), none, 139296, [3]⟩,
 ⟨(some 75), .len (.t 74), none, 139304, [4, 3]⟩,
 ⟨(some 76), .bin .sub (.t 72) (.t 75), none, 139312, [2, 5, 4, 3]⟩,
 ⟨(some 77), .iaddr 5 (.t 71) (.t 76), none, 139320, [1, 0, 6, 2, 5, 4, 3]⟩,
 ⟨(some 78), .load true 5 (.t 77), none, 139328, [7, 1, 0, 6, 2, 5, 4, 3]⟩,
 ⟨none, .store 5 (.t 13) (.t 78), none, 139336, [8, 7, 1, 0, 6, 2, 5, 4, 3]⟩])))
 (.seq
 (.region 18 false [
 ⟨(some 79), .faddr 0 (.t 13), none, 147456, []⟩,
 ⟨(some 80), .load false 1 (.t 79), none, 147464, [0]⟩,
 ⟨(some 81), .faddr 0 (.t 7), none, 147472, []⟩,
 ⟨(some 82), .load false 1 (.t 81), none, 147480, [2]⟩,
 ⟨(some 83), .bin .neq (.t 80) (.t 82), none, 147488, [1, 0, 3, 2]⟩])
 (.cond (.t 83)
 (.seq
 (.region 19 false [
 ⟨(some 84), .copy (.t 10), none, 155648, []⟩,
 ⟨(some 85), .bin .add (.t 84) (.c (.int .i64 1)), none, 155656, [0]⟩,
 ⟨(some 10), .copy (.t 85), none, 155664, [1, 0]⟩])
 (.seq
 (.region 20 false [
 ⟨(some 86), .copy (.t 9), none, 163840, []⟩,
 ⟨(some 87), .load true 5 (.t 13), none, 163848, []⟩,
 ⟨(some 88), .call (.c (.fn 32 [])) [(.t 86), (.t 87)], none, 163856, [0, 1]⟩,
 ⟨(some 89), .bin .lss (.t 88) (.c (.int .i64 0)), none, 163864, [2, 0, 1]⟩])
 (.cond (.t 89)
 (.seq
 (.region 21 false [
 ⟨(some 4), .copy (.c (.bool false)), none, 172032, []⟩])
 .ret)
 .skip)))
 .skip)))))
 (.region 13 false [
 ⟨(some 57), .copy (.t 12), none, 106496, []⟩,
 ⟨(some 58), .bin .add (.t 57) (.c (.int .i64 1)), none, 106504, [0]⟩,
 ⟨(some 12), .copy (.t 58), none, 106512, [1, 0]⟩]))))))
 (.seq
 (.seq
 (.region 22 false [
 ⟨(some 90), .copy (.t 10), none, 180224, []⟩,
 ⟨(some 91), .copy (.t 9), none, 180232, []⟩,
 ⟨(some 92), .len (.t 91), none, 180240, [1]⟩,
 ⟨(some 93), .bin .neq (.t 90) (.t 92), none, 180248, [0, 2, 1]⟩])
 (.cond (.t 93)
 (.seq
 (.region 23 false [
 ⟨(some 4), .copy (.c (.bool false)), none, 188416, []⟩])
 .ret)
 .skip))
 (.seq
 (.region 24 false [
 ⟨(some 94), .load true 2 (.t 6), none, 196608, []⟩,
 ⟨(some 95), .load true 5 (.t 7), none, 196616, []⟩,
 ⟨(some 96), .call (.c (.fn 15 [])) [(.t 94), (.t 95)], none, 196624, [0, 1]⟩,
 ⟨(some 14), .alloc [.nils, .nils, (.bool false), (.int .i64 0)], none, 196632, []⟩,
 ⟨none, .store 4 (.t 14) (.t 96), none, 196640, [3, 2, 0, 1]⟩])
 (.seq
 (.seq
 (.region 25 false [
 ⟨(some 97), .faddr 3 (.t 14), none, 204800, []⟩,
 ⟨(some 98), .load false 1 (.t 97), none, 204808, [0]⟩,
 ⟨(some 99), .bin .neq (.t 98) (.c (.int .i64 0)), none, 204816, [1, 0]⟩,
 ⟨(some 100), .copy (.t 99), none, 204824, [2, 1, 0]⟩,
 ⟨(some 101), .faddr 0 (.t 6), (some (3, 100, false)), 204832, [3, 2, 1, 0]⟩,
 ⟨(some 102), .load false 1 (.t 101), (some (3, 100, false)), 204840, [4, 3, 2, 1, 0]⟩,
 ⟨(some 103), .load true 5 (.t 7), (some (3, 100, false)), 204848, [3, 2, 1, 0]⟩,
 ⟨(some 104), .call (.c (.fn 32 [])) [(.t 102), (.t 103)], (some (3, 100, false)), 204856, [5, 4, 3, 2, 1, 0, 6]⟩,
 ⟨(some 105), .bin .geq (.t 104) (.c (.int .i64 0)), (some (3, 100, false)), 204864, [7, 5, 4, 3, 2, 1, 0, 6]⟩,
 ⟨(some 106), .pick (.t 100) (.c (.bool true)) (.t 105), none, 204872, [3, 2, 1, 0, 8, 7, 5, 4, 6]⟩,
 ⟨(some 107), .copy (.t 106), none, 204880, [9, 3, 2, 1, 0, 8, 7, 5, 4, 6]⟩,
 ⟨(some 108), .faddr 1 (.t 6), (some (10, 107, false)), 204888, [10, 9, 3, 2, 1, 0, 8, 7, 5, 4, 6]⟩,
 ⟨(some 109), .load false 1 (.t 108), (some (10, 107, false)), 204896, [11, 10, 9, 3, 2, 1, 0, 8, 7, 5, 4, 6]⟩,
 ⟨(some 110), .load true 5 (.t 7), (some (10, 107, false)), 204904, [10, 9, 3, 2, 1, 0, 8, 7, 5, 4, 6]⟩,
 ⟨(some 111), .call (.c (.fn 32 [])) [(.t 109), (.t 110)], (some (10, 107, false)), 204912, [12, 11, 10, 9, 3, 2, 1, 0, 8, 7, 5, 4, 6, 13]⟩,
 ⟨(some 112), .bin .geq (.t 111) (.c (.int .i64 0)), (some (10, 107, false)), 204920, [14, 12, 11, 10, 9, 3, 2, 1, 0, 8, 7, 5, 4, 6, 13]⟩,
 ⟨(some 113), .pick (.t 107) (.c (.bool true)) (.t 112), none, 204928, [10, 9, 3, 2, 1, 0, 8, 7, 5, 4, 6, 15, 14, 12, 11, 13]⟩])
 (.cond (.t 113)
 (.seq
 (.region 26 false [
 ⟨(some 114), .copy (.t 5), none, 212992, []⟩,
 ⟨(some 4), .copy (.t 114), none, 213000, [0]⟩])
 .ret)
 .skip))
 (.seq
 (.region 27 false [
 ⟨(some 115), .faddr 0 (.t 14), none, 221184, []⟩,
 ⟨(some 116), .load true 2 (.t 115), none, 221192, [0]⟩,
 ⟨(some 117), .load true 5 (.t 7), none, 221200, []⟩,
 ⟨(some 118), .call (.c (.fn 13 [])) [(.t 116), (.t 117)], none, 221208, [1, 0, 2]⟩,
 ⟨(some 15), .alloc [.nils, .nils, .nils, (.int .i64 0)], none, 221216, []⟩,
 ⟨none, .store 4 (.t 15) (.t 118), none, 221224, [4, 3, 1, 0, 2]⟩])
 (.seq
 (.region 28 false [
 ⟨(some 119), .faddr 3 (.t 15), none, 229376, []⟩,
 ⟨(some 120), .load false 1 (.t 119), none, 229384, [0]⟩,
 ⟨(some 121), .bin .eql (.t 120) (.c (.int .i64 0)), none, 229392, [1, 0]⟩,
 ⟨(some 122), .copy (.t 121), none, 229400, [2, 1, 0]⟩,
 ⟨(some 123), .faddr 2 (.t 15), (some (3, 122, true)), 229408, [3, 2, 1, 0]⟩,
 ⟨(some 124), .load false 1 (.t 123), (some (3, 122, true)), 229416, [4, 3, 2, 1, 0]⟩,
 ⟨(some 125), .len (.t 124), (some (3, 122, true)), 229424, [5, 4, 3, 2, 1, 0]⟩,
 ⟨(some 126), .bin .eql (.t 125) (.c (.int .i64 0)), (some (3, 122, true)), 229432, [6, 5, 4, 3, 2, 1, 0]⟩,
 ⟨(some 127), .pick (.t 122) (.t 126) (.c (.bool false)), none, 229440, [3, 2, 1, 0, 7, 6, 5, 4]⟩,
 ⟨(some 128), .copy (.t 127), none, 229448, [8, 3, 2, 1, 0, 7, 6, 5, 4]⟩,
 ⟨(some 129), .faddr 0 (.t 15), (some (9, 128, true)), 229456, [9, 8, 3, 2, 1, 0, 7, 6, 5, 4]⟩,
 ⟨(some 130), .load true 2 (.t 129), (some (9, 128, true)), 229464, [10, 9, 8, 3, 2, 1, 0, 7, 6, 5, 4]⟩,
 ⟨(some 131), .load true 2 (.t 6), (some (9, 128, true)), 229472, [9, 8, 3, 2, 1, 0, 7, 6, 5, 4]⟩,
 ⟨(some 132), .call (.c (.fn 19 [])) [(.t 130), (.t 131)], (some (9, 128, true)), 229480, [11, 10, 9, 8, 3, 2, 1, 0, 7, 6, 5, 4, 12]⟩,
 ⟨(some 133), .pick (.t 128) (.t 132) (.c (.bool false)), none, 229488, [9, 8, 3, 2, 1, 0, 7, 6, 5, 4, 13, 11, 10, 12]⟩,
 ⟨(some 134), .copy (.t 133), none, 229496, [14, 9, 8, 3, 2, 1, 0, 7, 6, 5, 4, 13, 11, 10, 12]⟩,
 ⟨(some 135), .copy (.t 5), (some (15, 134, true)), 229504, [15, 14, 9, 8, 3, 2, 1, 0, 7, 6, 5, 4, 13, 11, 10, 12]⟩,
 ⟨(some 136), .pick (.t 134) (.t 135) (.c (.bool false)), none, 229512, [15, 14, 9, 8, 3, 2, 1, 0, 7, 6, 5, 4, 13, 11, 10, 12, 16]⟩,
 ⟨(some 4), .copy (.t 136), none, 229520, [17, 15, 14, 9, 8, 3, 2, 1, 0, 7, 6, 5, 4, 13, 11, 10, 12, 16]⟩])
 .ret)))))))))))))
theorem vf10 : VF Try.prog 10 = some (137, vc10, [.tmp 4]) := by kernel_rfl
set_option maxHeartbeats 8000000 in
theorem leaves_law_vc {rs : List RawL} (hl : rs.length ≤ 9223372036854775807) (hr : ∀ r ∈ rs, r.ok) {x : RawL} (hx : x.ok) : VC Try.prog 10 [.sh false (rs.map encR), .agg (encR x)] [] (.bool true) [] := by
  have hp := play_vc hl hr 14 (by omega)
  have hS := play_scr (rs.take 14)
  have hn : (playL (rs.take 14)).held.length + (playL (rs.take 14)).waits.length ≤ 14 := Nat.le_trans hS.n (by rw [List.length_take]; omega)
  have hs := hS.s
  have hk := lock_vc hx
  have hy := lock_right x
  generalize playL (rs.take 14) = s at hp hn hs hS
  generalize lockL x = y at hk hy
  have hss := sanity_vc
  have hRt := hs.toSoundW.right
  have hb1 : (s.held.map encL).length ≤ 14 := by rw [List.length_map]; omega
  have hb2 : (s.waits.map encL).length ≤ 14 := by rw [List.length_map]; omega
  have hlv := hleave_vc (l := s) (by omega) y.own
  rw [show leaveG pmt s y.own = leaveG rmt s y.own from leave_eq hRt _] at hlv
  have hG1 : ∀ z, z ∈ (leaveG rmt s y.own).l.held ++ (leaveG rmt s y.own).l.waits → (z.own == y.own) = false := fun z => leave_left
  have hG2 : ∀ z, z ∈ s.held ++ s.waits → (z.own == y.own) = false → z ∈ (leaveG rmt s y.own).l.held ++ (leaveG rmt s y.own).l.waits := fun z => leave_kept
  have hG3 := leave_cnt s y.own
  have hG4 := leave_len s y.own
  generalize leaveG rmt s y.own = G at hlv hG1 hG2 hG3 hG4
  obtain ⟨GL, gg, ge⟩ := G
  dsimp only [encGr, encG] at hlv hG1 hG2 hG3 hG4
  refine vc_of vf10 ?_ (Nat.le_of_ble_eq_true rfl) (by intro vs h; cases h)
  repeat first | refine o_copy ?_ | refine nl ?_ | refine ct_seq ?_ | refine rg ?_ | refine ct_block ?_ | refine bq ?_ | refine cv0 hss ?_ | refine cf hp ?_ | refine cv0 hk ?_ | refine cf hlv ?_ | refine o_v (vaps encL [] GL.held) ?_ | refine o_v (vaps encL GL.held GL.waits) ?_ | refine o_loads ?_ | refine o_loadp ?_ | refine o_faddr ?_ | refine o_iaddr ?_ | refine o_iaddrO ?_ | refine o_iaddrR ?_ | refine o_add ?_ | refine o_sub ?_ | refine o_cat ?_ | refine o_bin ?_ | refine o_lenq ?_ | refine o_len ?_ | refine o_loadsA ?_ | refine o_loadpA ?_ | refine o_box ?_ | refine o_alloc ?_ | refine o_bslice ?_ | refine o_store ?_ | refine o_pickt ?_ | refine o_pickf ?_ | refine o_build ?_ | refine skF ?_ | refine skU ?_
  refine ct_imp (Imp.wr (t := 9) rfl (l_own rfl rfl)) ?_
  have hal : (GL.held ++ GL.waits).length ≤ 14 := by rw [List.length_append]; omega
  generalize GL.held ++ GL.waits = A at hG1 hG2 hG3 hal ⊢
  have hb3 : (A.map encL).length ≤ 14 := by rw [List.length_map]; exact hal
  refine ct_loopG (fun (i : Nat) => [(5, .bool true), (6, .ptr ⟨1, 16416⟩ 1 0 0), (7, .ptr ⟨1, 16424⟩ 1 0 0), (9, .sh false (A.map encL)), (10, .int .i64 0), (11, .int .i64 i)]) (fun i => [(⟨1, 16416⟩, ⟨true, false, 2, [encLs s]⟩), (⟨1, 16424⟩, ⟨true, false, 5, [encL y]⟩)]) (fun i => A.length - i)
    (fun i => i ≤ A.length) 0 goesD (Nat.zero_le _) ?_
  intro i hi
  repeat first | refine o_copy ?_ | refine nl ?_ | refine ct_seq ?_ | refine rg ?_ | refine ct_block ?_ | refine bq ?_ | refine o_loads ?_ | refine o_loadp ?_ | refine o_faddr ?_ | refine o_iaddr ?_ | refine o_iaddrO ?_ | refine o_iaddrR ?_ | refine o_add ?_ | refine o_sub ?_ | refine o_cat ?_ | refine o_bin ?_ | refine o_lenq ?_ | refine o_len ?_ | refine o_loadsA ?_ | refine o_loadpA ?_ | refine o_box ?_ | refine o_alloc ?_ | refine o_bslice ?_ | refine o_store ?_ | refine o_pickt ?_ | refine o_pickf ?_ | refine o_build ?_ | refine skF ?_ | refine skU ?_
  refine cnd (fun hh => ct_skip ?_) (fun hh => ct_exit ?_)
  · have hlt : i < A.length := by have h' := of_decide_eq_true hh; simp only [List.length_map] at h'; omega
    have hlt2 : (i : Int) < ((A.map encL).length : Nat) := by rw [List.length_map]; omega
    obtain ⟨u, hu⟩ : ∃ u, A[i]? = some u := ⟨_, List.getElem?_eq_getElem hlt⟩
    have hue := gm (enc := encL) (n := (i : Int)) hu (by omega)
    have hc := hG1 u (List.mem_of_getElem? hu)
    repeat first | refine o_copy ?_ | refine nl ?_ | refine ct_seq ?_ | refine rg ?_ | refine ct_block ?_ | refine bq ?_ | refine o_loads ?_ | refine o_loadp ?_ | refine o_faddr ?_ | refine o_iaddr ?_ | refine o_iaddrO ?_ | refine o_iaddrR ?_ | refine o_add ?_ | refine o_sub ?_ | refine o_cat ?_ | refine o_bin ?_ | refine o_lenq ?_ | refine o_len ?_ | refine o_loadsA ?_ | refine o_loadpA ?_ | refine o_box ?_ | refine o_alloc ?_ | refine o_bslice ?_ | refine o_store ?_ | refine o_pickt ?_ | refine o_pickf ?_ | refine o_build ?_ | refine skF ?_ | refine skU ?_
    refine cndf (ct_skip ?_)
    repeat first | refine o_copy ?_ | refine nl ?_ | refine ct_seq ?_ | refine rg ?_ | refine ct_block ?_ | refine bq ?_ | refine o_loads ?_ | refine o_loadp ?_ | refine o_faddr ?_ | refine o_iaddr ?_ | refine o_iaddrO ?_ | refine o_iaddrR ?_ | refine o_add ?_ | refine o_sub ?_ | refine o_cat ?_ | refine o_bin ?_ | refine o_lenq ?_ | refine o_len ?_ | refine o_loadsA ?_ | refine o_loadpA ?_ | refine o_box ?_ | refine o_alloc ?_ | refine o_bslice ?_ | refine o_store ?_ | refine o_pickt ?_ | refine o_pickf ?_ | refine o_build ?_ | refine skF ?_ | refine skU ?_
    exact agn (Q := fun _ _ => True) (i + 1) (by omega) goesD
  repeat first | refine o_copy ?_ | refine nl ?_ | refine ct_seq ?_ | refine rg ?_ | refine ct_block ?_ | refine bq ?_ | refine o_loads ?_ | refine o_loadp ?_ | refine o_faddr ?_ | refine o_iaddr ?_ | refine o_iaddrO ?_ | refine o_iaddrR ?_ | refine o_add ?_ | refine o_sub ?_ | refine o_cat ?_ | refine o_bin ?_ | refine o_lenq ?_ | refine o_len ?_ | refine o_loadsA ?_ | refine o_loadpA ?_ | refine o_box ?_ | refine o_alloc ?_ | refine o_bslice ?_ | refine o_store ?_ | refine o_pickt ?_ | refine o_pickf ?_ | refine o_build ?_ | refine skF ?_ | refine skU ?_
  have hhw : (s.held ++ s.waits).length = s.held.length + s.waits.length := List.length_append
  refine ct_loopG (fun (i : Nat) => [(5, .bool true), (6, .ptr ⟨1, 16416⟩ 1 0 0), (7, .ptr ⟨1, 16424⟩ 1 0 0), (9, .sh false (A.map encL)), (10, .int .i64 (cntO y.own ((s.held ++ s.waits).take i))), (12, .int .i64 i)]) (fun i => [(⟨1, 16416⟩, ⟨true, false, 2, [encLs s]⟩), (⟨1, 16424⟩, ⟨true, false, 5, [encL y]⟩)]) (fun i => (s.held ++ s.waits).length - i)
    (fun i => i ≤ (s.held ++ s.waits).length) 0 goesD (Nat.zero_le _) ?_
  intro i hi
  repeat first | refine o_copy ?_ | refine nl ?_ | refine ct_seq ?_ | refine rg ?_ | refine ct_block ?_ | refine bq ?_ | refine o_loads ?_ | refine o_loadp ?_ | refine o_faddr ?_ | refine o_iaddr ?_ | refine o_iaddrO ?_ | refine o_iaddrR ?_ | refine o_add ?_ | refine o_sub ?_ | refine o_cat ?_ | refine o_bin ?_ | refine o_lenq ?_ | refine o_len ?_ | refine o_loadsA ?_ | refine o_loadpA ?_ | refine o_box ?_ | refine o_alloc ?_ | refine o_bslice ?_ | refine o_store ?_ | refine o_pickt ?_ | refine o_pickf ?_ | refine o_build ?_ | refine skF ?_ | refine skU ?_
  refine cnd (fun hh => ct_skip ?_) (fun hh => ct_exit ?_)
  · have hlt : i < (s.held ++ s.waits).length := by have h' := of_decide_eq_true hh; simp only [List.length_map] at h'; omega
    obtain ⟨u, hu⟩ : ∃ u, (s.held ++ s.waits)[i]? = some u := ⟨_, List.getElem?_eq_getElem hlt⟩
    have hst := cntO_step (o := y.own) hu
    have hcl := cntO_le y.own ((s.held ++ s.waits).take i)
    have htl : ((s.held ++ s.waits).take i).length ≤ 14 := by rw [List.length_take]; omega
    have hbc : cntO y.own ((s.held ++ s.waits).take i) ≤ 14 := by omega
    have hmem := List.mem_of_getElem? hu
    by_cases hA : i < s.held.length
    · have g1 : decide ((i : Int) < (s.held.map encL).length) = true := decide_eq_true (by rw [List.length_map]; omega)
      have hlt2 : (i : Int) < ((s.held.map encL).length : Nat) := by rw [List.length_map]; omega
      rw [List.getElem?_append_left hA] at hu
      have hue := gm (enc := encL) (n := (i : Int)) hu (by omega)
      cases hc : (u.own == y.own) with
      | true =>
        rw [hc, if_pos rfl, Nat.add_zero] at hst
        have g2 : (!u.own == y.own) = false := by rw [hc]; rfl
        repeat first | refine o_copy ?_ | refine nl ?_ | refine ct_seq ?_ | refine rg ?_ | refine ct_block ?_ | refine bq ?_ | refine o_loads ?_ | refine o_loadp ?_ | refine o_faddr ?_ | refine o_iaddr ?_ | refine o_iaddrO ?_ | refine o_iaddrR ?_ | refine o_add ?_ | refine o_sub ?_ | refine o_cat ?_ | refine o_bin ?_ | refine o_lenq ?_ | refine o_len ?_ | refine o_loadsA ?_ | refine o_loadpA ?_ | refine o_box ?_ | refine o_alloc ?_ | refine o_bslice ?_ | refine o_store ?_ | refine o_pickt ?_ | refine o_pickf ?_ | refine o_build ?_ | refine skF ?_ | refine skU ?_
        refine cndt ?_
        repeat first | refine o_copy ?_ | refine nl ?_ | refine ct_seq ?_ | refine rg ?_ | refine ct_block ?_ | refine bq ?_ | refine o_loads ?_ | refine o_loadp ?_ | refine o_faddr ?_ | refine o_iaddr ?_ | refine o_iaddrO ?_ | refine o_iaddrR ?_ | refine o_add ?_ | refine o_sub ?_ | refine o_cat ?_ | refine o_bin ?_ | refine o_lenq ?_ | refine o_len ?_ | refine o_loadsA ?_ | refine o_loadpA ?_ | refine o_box ?_ | refine o_alloc ?_ | refine o_bslice ?_ | refine o_store ?_ | refine o_pickt ?_ | refine o_pickf ?_ | refine o_build ?_ | refine skF ?_ | refine skU ?_
        refine cndf (ct_skip ?_)
        repeat first | refine o_copy ?_ | refine nl ?_ | refine ct_seq ?_ | refine rg ?_ | refine ct_block ?_ | refine bq ?_ | refine o_loads ?_ | refine o_loadp ?_ | refine o_faddr ?_ | refine o_iaddr ?_ | refine o_iaddrO ?_ | refine o_iaddrR ?_ | refine o_add ?_ | refine o_sub ?_ | refine o_cat ?_ | refine o_bin ?_ | refine o_lenq ?_ | refine o_len ?_ | refine o_loadsA ?_ | refine o_loadpA ?_ | refine o_box ?_ | refine o_alloc ?_ | refine o_bslice ?_ | refine o_store ?_ | refine o_pickt ?_ | refine o_pickf ?_ | refine o_build ?_ | refine skF ?_ | refine skU ?_
        refine agn (Q := fun _ _ => True) (i + 1) (by omega) ?_
        rw [hst]
        exact goesE
      | false =>
        rw [hc, if_neg (by simp)] at hst
        have g2 : (!u.own == y.own) = true := by rw [hc]; rfl
        have hf := rfind_vc (l := A) (by omega) u
        obtain ⟨e1, e2⟩ := findI_mem (hG2 u hmem hc)
        rw [e1] at hf
        have g3 : decide (((A.findIdx (· == u) : Nat) : Int) < 0) = false := decide_eq_false (by omega)
        repeat first | refine o_copy ?_ | refine nl ?_ | refine ct_seq ?_ | refine rg ?_ | refine ct_block ?_ | refine bq ?_ | refine o_loads ?_ | refine o_loadp ?_ | refine o_faddr ?_ | refine o_iaddr ?_ | refine o_iaddrO ?_ | refine o_iaddrR ?_ | refine o_add ?_ | refine o_sub ?_ | refine o_cat ?_ | refine o_bin ?_ | refine o_lenq ?_ | refine o_len ?_ | refine o_loadsA ?_ | refine o_loadpA ?_ | refine o_box ?_ | refine o_alloc ?_ | refine o_bslice ?_ | refine o_store ?_ | refine o_pickt ?_ | refine o_pickf ?_ | refine o_build ?_ | refine skF ?_ | refine skU ?_
        refine cndt ?_
        repeat first | refine o_copy ?_ | refine nl ?_ | refine ct_seq ?_ | refine rg ?_ | refine ct_block ?_ | refine bq ?_ | refine o_loads ?_ | refine o_loadp ?_ | refine o_faddr ?_ | refine o_iaddr ?_ | refine o_iaddrO ?_ | refine o_iaddrR ?_ | refine o_add ?_ | refine o_sub ?_ | refine o_cat ?_ | refine o_bin ?_ | refine o_lenq ?_ | refine o_len ?_ | refine o_loadsA ?_ | refine o_loadpA ?_ | refine o_box ?_ | refine o_alloc ?_ | refine o_bslice ?_ | refine o_store ?_ | refine o_pickt ?_ | refine o_pickf ?_ | refine o_build ?_ | refine skF ?_ | refine skU ?_
        refine cndt ?_
        repeat first | refine o_copy ?_ | refine nl ?_ | refine ct_seq ?_ | refine rg ?_ | refine ct_block ?_ | refine bq ?_ | refine cv0 hf ?_ | refine o_loads ?_ | refine o_loadp ?_ | refine o_faddr ?_ | refine o_iaddr ?_ | refine o_iaddrO ?_ | refine o_iaddrR ?_ | refine o_add ?_ | refine o_sub ?_ | refine o_cat ?_ | refine o_bin ?_ | refine o_lenq ?_ | refine o_len ?_ | refine o_loadsA ?_ | refine o_loadpA ?_ | refine o_box ?_ | refine o_alloc ?_ | refine o_bslice ?_ | refine o_store ?_ | refine o_pickt ?_ | refine o_pickf ?_ | refine o_build ?_ | refine skF ?_ | refine skU ?_
        refine cndf (ct_skip ?_)
        repeat first | refine o_copy ?_ | refine nl ?_ | refine ct_seq ?_ | refine rg ?_ | refine ct_block ?_ | refine bq ?_ | refine o_loads ?_ | refine o_loadp ?_ | refine o_faddr ?_ | refine o_iaddr ?_ | refine o_iaddrO ?_ | refine o_iaddrR ?_ | refine o_add ?_ | refine o_sub ?_ | refine o_cat ?_ | refine o_bin ?_ | refine o_lenq ?_ | refine o_len ?_ | refine o_loadsA ?_ | refine o_loadpA ?_ | refine o_box ?_ | refine o_alloc ?_ | refine o_bslice ?_ | refine o_store ?_ | refine o_pickt ?_ | refine o_pickf ?_ | refine o_build ?_ | refine skF ?_ | refine skU ?_
        refine agn (Q := fun _ _ => True) (i + 1) (by omega) ?_
        rw [hst]
        exact goesE
    · have g1 : decide ((i : Int) < (s.held.map encL).length) = false := decide_eq_false (by rw [List.length_map]; omega)
      rw [List.getElem?_append_right (by omega)] at hu
      have hwl : (i : Int) - ((s.held.map encL).length : Nat) = ((i - s.held.length : Nat) : Int) := by rw [List.length_map]; omega
      have hlt2 : (i : Int) - ((s.held.map encL).length : Nat) < ((s.waits.map encL).length : Nat) := by rw [List.length_map, List.length_map]; omega
      have hge : 0 ≤ (i : Int) - ((s.held.map encL).length : Nat) := by rw [List.length_map]; omega
      have hue := gm (enc := encL) (n := (i : Int) - ((s.held.map encL).length : Nat)) hu (by rw [hwl]; simp)
      cases hc : (u.own == y.own) with
      | true =>
        rw [hc, if_pos rfl, Nat.add_zero] at hst
        have g2 : (!u.own == y.own) = false := by rw [hc]; rfl
        repeat first | refine o_copy ?_ | refine nl ?_ | refine ct_seq ?_ | refine rg ?_ | refine ct_block ?_ | refine bq ?_ | refine o_loads ?_ | refine o_loadp ?_ | refine o_faddr ?_ | refine o_iaddr ?_ | refine o_iaddrO ?_ | refine o_iaddrR ?_ | refine o_add ?_ | refine o_sub ?_ | refine o_cat ?_ | refine o_bin ?_ | refine o_lenq ?_ | refine o_len ?_ | refine o_loadsA ?_ | refine o_loadpA ?_ | refine o_box ?_ | refine o_alloc ?_ | refine o_bslice ?_ | refine o_store ?_ | refine o_pickt ?_ | refine o_pickf ?_ | refine o_build ?_ | refine skF ?_ | refine skU ?_
        refine cndf ?_
        repeat first | refine o_copy ?_ | refine nl ?_ | refine ct_seq ?_ | refine rg ?_ | refine ct_block ?_ | refine bq ?_ | refine o_loads ?_ | refine o_loadp ?_ | refine o_faddr ?_ | refine o_iaddr ?_ | refine o_iaddrO ?_ | refine o_iaddrR ?_ | refine o_add ?_ | refine o_sub ?_ | refine o_cat ?_ | refine o_bin ?_ | refine o_lenq ?_ | refine o_len ?_ | refine o_loadsA ?_ | refine o_loadpA ?_ | refine o_box ?_ | refine o_alloc ?_ | refine o_bslice ?_ | refine o_store ?_ | refine o_pickt ?_ | refine o_pickf ?_ | refine o_build ?_ | refine skF ?_ | refine skU ?_
        refine cndf (ct_skip ?_)
        repeat first | refine o_copy ?_ | refine nl ?_ | refine ct_seq ?_ | refine rg ?_ | refine ct_block ?_ | refine bq ?_ | refine o_loads ?_ | refine o_loadp ?_ | refine o_faddr ?_ | refine o_iaddr ?_ | refine o_iaddrO ?_ | refine o_iaddrR ?_ | refine o_add ?_ | refine o_sub ?_ | refine o_cat ?_ | refine o_bin ?_ | refine o_lenq ?_ | refine o_len ?_ | refine o_loadsA ?_ | refine o_loadpA ?_ | refine o_box ?_ | refine o_alloc ?_ | refine o_bslice ?_ | refine o_store ?_ | refine o_pickt ?_ | refine o_pickf ?_ | refine o_build ?_ | refine skF ?_ | refine skU ?_
        refine agn (Q := fun _ _ => True) (i + 1) (by omega) ?_
        rw [hst]
        exact goesE
      | false =>
        rw [hc, if_neg (by simp)] at hst
        have g2 : (!u.own == y.own) = true := by rw [hc]; rfl
        have hf := rfind_vc (l := A) (by omega) u
        obtain ⟨e1, e2⟩ := findI_mem (hG2 u hmem hc)
        rw [e1] at hf
        have g3 : decide (((A.findIdx (· == u) : Nat) : Int) < 0) = false := decide_eq_false (by omega)
        repeat first | refine o_copy ?_ | refine nl ?_ | refine ct_seq ?_ | refine rg ?_ | refine ct_block ?_ | refine bq ?_ | refine o_loads ?_ | refine o_loadp ?_ | refine o_faddr ?_ | refine o_iaddr ?_ | refine o_iaddrO ?_ | refine o_iaddrR ?_ | refine o_add ?_ | refine o_sub ?_ | refine o_cat ?_ | refine o_bin ?_ | refine o_lenq ?_ | refine o_len ?_ | refine o_loadsA ?_ | refine o_loadpA ?_ | refine o_box ?_ | refine o_alloc ?_ | refine o_bslice ?_ | refine o_store ?_ | refine o_pickt ?_ | refine o_pickf ?_ | refine o_build ?_ | refine skF ?_ | refine skU ?_
        refine cndf ?_
        repeat first | refine o_copy ?_ | refine nl ?_ | refine ct_seq ?_ | refine rg ?_ | refine ct_block ?_ | refine bq ?_ | refine o_loads ?_ | refine o_loadp ?_ | refine o_faddr ?_ | refine o_iaddr ?_ | refine o_iaddrO ?_ | refine o_iaddrR ?_ | refine o_add ?_ | refine o_sub ?_ | refine o_cat ?_ | refine o_bin ?_ | refine o_lenq ?_ | refine o_len ?_ | refine o_loadsA ?_ | refine o_loadpA ?_ | refine o_box ?_ | refine o_alloc ?_ | refine o_bslice ?_ | refine o_store ?_ | refine o_pickt ?_ | refine o_pickf ?_ | refine o_build ?_ | refine skF ?_ | refine skU ?_
        refine cndt ?_
        repeat first | refine o_copy ?_ | refine nl ?_ | refine ct_seq ?_ | refine rg ?_ | refine ct_block ?_ | refine bq ?_ | refine cv0 hf ?_ | refine o_loads ?_ | refine o_loadp ?_ | refine o_faddr ?_ | refine o_iaddr ?_ | refine o_iaddrO ?_ | refine o_iaddrR ?_ | refine o_add ?_ | refine o_sub ?_ | refine o_cat ?_ | refine o_bin ?_ | refine o_lenq ?_ | refine o_len ?_ | refine o_loadsA ?_ | refine o_loadpA ?_ | refine o_box ?_ | refine o_alloc ?_ | refine o_bslice ?_ | refine o_store ?_ | refine o_pickt ?_ | refine o_pickf ?_ | refine o_build ?_ | refine skF ?_ | refine skU ?_
        refine cndf (ct_skip ?_)
        repeat first | refine o_copy ?_ | refine nl ?_ | refine ct_seq ?_ | refine rg ?_ | refine ct_block ?_ | refine bq ?_ | refine o_loads ?_ | refine o_loadp ?_ | refine o_faddr ?_ | refine o_iaddr ?_ | refine o_iaddrO ?_ | refine o_iaddrR ?_ | refine o_add ?_ | refine o_sub ?_ | refine o_cat ?_ | refine o_bin ?_ | refine o_lenq ?_ | refine o_len ?_ | refine o_loadsA ?_ | refine o_loadpA ?_ | refine o_box ?_ | refine o_alloc ?_ | refine o_bslice ?_ | refine o_store ?_ | refine o_pickt ?_ | refine o_pickf ?_ | refine o_build ?_ | refine skF ?_ | refine skU ?_
        refine agn (Q := fun _ _ => True) (i + 1) (by omega) ?_
        rw [hst]
        exact goesE
  have he : i = (s.held ++ s.waits).length := by have h' := of_decide_eq_false hh; simp only [List.length_map] at h'; omega
  subst he
  have gq : (!((cntO y.own ((s.held ++ s.waits).take (s.held ++ s.waits).length) : Nat) : Int) == ((A.map encL).length : Int)) = false := by
    rw [List.take_length, hG3, List.length_map]
    simp
  have ht := htake_vc (l := s) (by omega) y
  have hf1 := rfind_vc (l := s.held) (by omega) y
  have hf2 := rfind_vc (l := s.waits) (by omega) y
  have hst : (ptakeL s y).2.2 = 321 ∨ (y ∈ s.held ∧ (ptakeL s y).2.2 = 0) ∨ (y ∉ s.held ∧ y ∈ s.waits ∧ (ptakeL s y).2.2 = 0) ∨ (y ∉ s.held ∧ y ∉ s.waits ∧ (ptakeL s y).2.2 = 0 ∧ (ptakeL s y).1.held.length + (ptakeL s y).1.waits.length ≤ 15 ∧ dropG pmt (ptakeL s y).1 y = ⟨s, [], 0⟩) := by
    have h0 := take_cases hs hy (by omega)
    by_cases m1 : y ∈ s.held
    · rcases h0 with ⟨_, h2⟩ | ⟨_, _, h2⟩ | ⟨_, _, h2⟩
      · exact .inr (.inl ⟨m1, by rw [show ptakeL s y = _ from h2]⟩)
      · exact .inl (by rw [show ptakeL s y = _ from h2])
      · exact .inr (.inl ⟨m1, by rw [show ptakeL s y = _ from h2]⟩)
    · by_cases m2 : y ∈ s.waits
      · rcases h0 with ⟨_, h2⟩ | ⟨_, _, h2⟩ | ⟨_, _, h2⟩
        · exact .inr (.inr (.inl ⟨m1, m2, by rw [show ptakeL s y = _ from h2]⟩))
        · exact .inl (by rw [show ptakeL s y = _ from h2])
        · exact .inr (.inr (.inl ⟨m1, m2, by rw [show ptakeL s y = _ from h2]⟩))
      · have hsd := take_sound hs y
        rw [← take_eq hRt y] at hsd
        have hde := drop_eq hsd.toSoundW.right y
        rcases h0 with ⟨_, h2⟩ | ⟨_, _, h2⟩ | ⟨_, _, h2⟩
        · refine .inr (.inr (.inr ⟨m1, m2, by rw [show ptakeL s y = _ from h2], by rw [show ptakeL s y = _ from h2]; simp; omega, ?_⟩))
          rw [show dropG pmt (ptakeL s y).1 y = dropG rmt (ptakeL s y).1 y from hde, show ptakeL s y = _ from h2]
          exact back_held hs m1
        · exact .inl (by rw [show ptakeL s y = _ from h2])
        · refine .inr (.inr (.inr ⟨m1, m2, by rw [show ptakeL s y = _ from h2], by rw [show ptakeL s y = _ from h2]; simp; omega, ?_⟩))
          rw [show dropG pmt (ptakeL s y).1 y = dropG rmt (ptakeL s y).1 y from hde, show ptakeL s y = _ from h2]
          exact back_waits hs m1 m2
  generalize ptakeL s y = T at ht hst
  obtain ⟨TL, tb, te⟩ := T
  dsimp only [encT] at ht hst
  rcases hst with rfl | ⟨m1, rfl⟩ | ⟨m1, m2, rfl⟩ | ⟨m1, m2, rfl, hT, hd⟩
  · repeat first | refine o_copy ?_ | refine nl ?_ | refine ct_seq ?_ | refine rg ?_ | refine ct_block ?_ | refine bq ?_ | refine o_loads ?_ | refine o_loadp ?_ | refine o_faddr ?_ | refine o_iaddr ?_ | refine o_iaddrO ?_ | refine o_iaddrR ?_ | refine o_add ?_ | refine o_sub ?_ | refine o_cat ?_ | refine o_bin ?_ | refine o_lenq ?_ | refine o_len ?_ | refine o_loadsA ?_ | refine o_loadpA ?_ | refine o_box ?_ | refine o_alloc ?_ | refine o_bslice ?_ | refine o_store ?_ | refine o_pickt ?_ | refine o_pickf ?_ | refine o_build ?_ | refine skF ?_ | refine skU ?_
    refine cndf (ct_skip ?_)
    repeat first | refine o_copy ?_ | refine nl ?_ | refine ct_seq ?_ | refine rg ?_ | refine ct_block ?_ | refine bq ?_ | refine cf ht ?_ | refine o_loads ?_ | refine o_loadp ?_ | refine o_faddr ?_ | refine o_iaddr ?_ | refine o_iaddrO ?_ | refine o_iaddrR ?_ | refine o_add ?_ | refine o_sub ?_ | refine o_cat ?_ | refine o_bin ?_ | refine o_lenq ?_ | refine o_len ?_ | refine o_loadsA ?_ | refine o_loadpA ?_ | refine o_box ?_ | refine o_alloc ?_ | refine o_bslice ?_ | refine o_store ?_ | refine o_pickt ?_ | refine o_pickf ?_ | refine o_build ?_ | refine skF ?_ | refine skU ?_
    refine cndt ?_
    repeat first | refine o_copy ?_ | refine nl ?_ | refine ct_seq ?_ | refine rg ?_ | refine ct_block ?_ | refine bq ?_ | refine o_loads ?_ | refine o_loadp ?_ | refine o_faddr ?_ | refine o_iaddr ?_ | refine o_iaddrO ?_ | refine o_iaddrR ?_ | refine o_add ?_ | refine o_sub ?_ | refine o_cat ?_ | refine o_bin ?_ | refine o_lenq ?_ | refine o_len ?_ | refine o_loadsA ?_ | refine o_loadpA ?_ | refine o_box ?_ | refine o_alloc ?_ | refine o_bslice ?_ | refine o_store ?_ | refine o_pickt ?_ | refine o_pickf ?_ | refine o_build ?_ | refine skF ?_ | refine skU ?_
    exact ct_ret ⟨.inr rfl, oB rfl⟩
  · obtain ⟨e1, e2⟩ := findI_mem m1
    rw [e1] at hf1
    have g3 : decide (((s.held.findIdx (· == y) : Nat) : Int) ≥ 0) = true := decide_eq_true (by omega)
    repeat first | refine o_copy ?_ | refine nl ?_ | refine ct_seq ?_ | refine rg ?_ | refine ct_block ?_ | refine bq ?_ | refine o_loads ?_ | refine o_loadp ?_ | refine o_faddr ?_ | refine o_iaddr ?_ | refine o_iaddrO ?_ | refine o_iaddrR ?_ | refine o_add ?_ | refine o_sub ?_ | refine o_cat ?_ | refine o_bin ?_ | refine o_lenq ?_ | refine o_len ?_ | refine o_loadsA ?_ | refine o_loadpA ?_ | refine o_box ?_ | refine o_alloc ?_ | refine o_bslice ?_ | refine o_store ?_ | refine o_pickt ?_ | refine o_pickf ?_ | refine o_build ?_ | refine skF ?_ | refine skU ?_
    refine cndf (ct_skip ?_)
    repeat first | refine o_copy ?_ | refine nl ?_ | refine ct_seq ?_ | refine rg ?_ | refine ct_block ?_ | refine bq ?_ | refine cf ht ?_ | refine cv0 hf1 ?_ | refine o_loads ?_ | refine o_loadp ?_ | refine o_faddr ?_ | refine o_iaddr ?_ | refine o_iaddrO ?_ | refine o_iaddrR ?_ | refine o_add ?_ | refine o_sub ?_ | refine o_cat ?_ | refine o_bin ?_ | refine o_lenq ?_ | refine o_len ?_ | refine o_loadsA ?_ | refine o_loadpA ?_ | refine o_box ?_ | refine o_alloc ?_ | refine o_bslice ?_ | refine o_store ?_ | refine o_pickt ?_ | refine o_pickf ?_ | refine o_build ?_ | refine skF ?_ | refine skU ?_
    refine cndt ?_
    repeat first | refine o_copy ?_ | refine nl ?_ | refine ct_seq ?_ | refine rg ?_ | refine ct_block ?_ | refine bq ?_ | refine o_loads ?_ | refine o_loadp ?_ | refine o_faddr ?_ | refine o_iaddr ?_ | refine o_iaddrO ?_ | refine o_iaddrR ?_ | refine o_add ?_ | refine o_sub ?_ | refine o_cat ?_ | refine o_bin ?_ | refine o_lenq ?_ | refine o_len ?_ | refine o_loadsA ?_ | refine o_loadpA ?_ | refine o_box ?_ | refine o_alloc ?_ | refine o_bslice ?_ | refine o_store ?_ | refine o_pickt ?_ | refine o_pickf ?_ | refine o_build ?_ | refine skF ?_ | refine skU ?_
    exact ct_ret ⟨.inr rfl, oB rfl⟩
  · rw [findI_not m1] at hf1
    obtain ⟨e1, e2⟩ := findI_mem m2
    rw [e1] at hf2
    have g3 : decide (((s.waits.findIdx (· == y) : Nat) : Int) ≥ 0) = true := decide_eq_true (by omega)
    repeat first | refine o_copy ?_ | refine nl ?_ | refine ct_seq ?_ | refine rg ?_ | refine ct_block ?_ | refine bq ?_ | refine o_loads ?_ | refine o_loadp ?_ | refine o_faddr ?_ | refine o_iaddr ?_ | refine o_iaddrO ?_ | refine o_iaddrR ?_ | refine o_add ?_ | refine o_sub ?_ | refine o_cat ?_ | refine o_bin ?_ | refine o_lenq ?_ | refine o_len ?_ | refine o_loadsA ?_ | refine o_loadpA ?_ | refine o_box ?_ | refine o_alloc ?_ | refine o_bslice ?_ | refine o_store ?_ | refine o_pickt ?_ | refine o_pickf ?_ | refine o_build ?_ | refine skF ?_ | refine skU ?_
    refine cndf (ct_skip ?_)
    repeat first | refine o_copy ?_ | refine nl ?_ | refine ct_seq ?_ | refine rg ?_ | refine ct_block ?_ | refine bq ?_ | refine cf ht ?_ | refine cv0 hf1 ?_ | refine cv0 hf2 ?_ | refine o_loads ?_ | refine o_loadp ?_ | refine o_faddr ?_ | refine o_iaddr ?_ | refine o_iaddrO ?_ | refine o_iaddrR ?_ | refine o_add ?_ | refine o_sub ?_ | refine o_cat ?_ | refine o_bin ?_ | refine o_lenq ?_ | refine o_len ?_ | refine o_loadsA ?_ | refine o_loadpA ?_ | refine o_box ?_ | refine o_alloc ?_ | refine o_bslice ?_ | refine o_store ?_ | refine o_pickt ?_ | refine o_pickf ?_ | refine o_build ?_ | refine skF ?_ | refine skU ?_
    refine cndt ?_
    repeat first | refine o_copy ?_ | refine nl ?_ | refine ct_seq ?_ | refine rg ?_ | refine ct_block ?_ | refine bq ?_ | refine o_loads ?_ | refine o_loadp ?_ | refine o_faddr ?_ | refine o_iaddr ?_ | refine o_iaddrO ?_ | refine o_iaddrR ?_ | refine o_add ?_ | refine o_sub ?_ | refine o_cat ?_ | refine o_bin ?_ | refine o_lenq ?_ | refine o_len ?_ | refine o_loadsA ?_ | refine o_loadpA ?_ | refine o_box ?_ | refine o_alloc ?_ | refine o_bslice ?_ | refine o_store ?_ | refine o_pickt ?_ | refine o_pickf ?_ | refine o_build ?_ | refine skF ?_ | refine skU ?_
    exact ct_ret ⟨.inr rfl, oB rfl⟩
  · rw [findI_not m1] at hf1
    rw [findI_not m2] at hf2
    have hdr := hdrop_vc (l := TL) (by omega) y
    rw [hd] at hdr
    dsimp only [encGr, encG] at hdr
    have q1 := rsame_vc (a := s) (b := s) (by omega) (by omega) (by omega) (by omega)
    rw [decide_eq_true rfl] at q1
    repeat first | refine o_copy ?_ | refine nl ?_ | refine ct_seq ?_ | refine rg ?_ | refine ct_block ?_ | refine bq ?_ | refine o_loads ?_ | refine o_loadp ?_ | refine o_faddr ?_ | refine o_iaddr ?_ | refine o_iaddrO ?_ | refine o_iaddrR ?_ | refine o_add ?_ | refine o_sub ?_ | refine o_cat ?_ | refine o_bin ?_ | refine o_lenq ?_ | refine o_len ?_ | refine o_loadsA ?_ | refine o_loadpA ?_ | refine o_box ?_ | refine o_alloc ?_ | refine o_bslice ?_ | refine o_store ?_ | refine o_pickt ?_ | refine o_pickf ?_ | refine o_build ?_ | refine skF ?_ | refine skU ?_
    refine cndf (ct_skip ?_)
    repeat first | refine o_copy ?_ | refine nl ?_ | refine ct_seq ?_ | refine rg ?_ | refine ct_block ?_ | refine bq ?_ | refine cf ht ?_ | refine cv0 hf1 ?_ | refine cv0 hf2 ?_ | refine o_loads ?_ | refine o_loadp ?_ | refine o_faddr ?_ | refine o_iaddr ?_ | refine o_iaddrO ?_ | refine o_iaddrR ?_ | refine o_add ?_ | refine o_sub ?_ | refine o_cat ?_ | refine o_bin ?_ | refine o_lenq ?_ | refine o_len ?_ | refine o_loadsA ?_ | refine o_loadpA ?_ | refine o_box ?_ | refine o_alloc ?_ | refine o_bslice ?_ | refine o_store ?_ | refine o_pickt ?_ | refine o_pickf ?_ | refine o_build ?_ | refine skF ?_ | refine skU ?_
    refine cndf (ct_skip ?_)
    repeat first | refine o_copy ?_ | refine nl ?_ | refine ct_seq ?_ | refine rg ?_ | refine ct_block ?_ | refine bq ?_ | refine cf hdr ?_ | refine cv0 q1 ?_ | refine o_loads ?_ | refine o_loadp ?_ | refine o_faddr ?_ | refine o_iaddr ?_ | refine o_iaddrO ?_ | refine o_iaddrR ?_ | refine o_add ?_ | refine o_sub ?_ | refine o_cat ?_ | refine o_bin ?_ | refine o_lenq ?_ | refine o_len ?_ | refine o_loadsA ?_ | refine o_loadpA ?_ | refine o_box ?_ | refine o_alloc ?_ | refine o_bslice ?_ | refine o_store ?_ | refine o_pickt ?_ | refine o_pickf ?_ | refine o_build ?_ | refine skF ?_ | refine skU ?_
    exact ct_ret ⟨.inr rfl, oB rfl⟩
theorem lockLeaves_in (l : List (List PV)) (il : InTy (.sl [.int .u8, .int .u8, .int .u8, .int .u8, .int .u8]) (.sh false l)) (q : List PV) (n : q.length = [CTy.int .u8, .int .u8, .int .u8, .int .u8, .int .u8].length) (i : ∀ (j : Nat) (c : CTy) (p : PV), [CTy.int .u8, .int .u8, .int .u8, .int .u8, .int .u8][j]? = some c → q[j]? = some p → InTy c p) : VC Try.prog 10 [.sh false l, .agg q] [] (.bool true) [] := by
  obtain ⟨rs, rfl, h1, h2⟩ := decRs il
  obtain ⟨r, rfl, hr⟩ := decRaw n i
  exact leaves_law_vc h2 h1 hr
end Go.Proofs
