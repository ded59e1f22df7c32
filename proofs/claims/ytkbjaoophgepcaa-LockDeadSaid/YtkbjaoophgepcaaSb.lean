/- Sb -/
import Derived.Test.YtkbjaoophgepcaaLc
open Go.V Go.Pu
set_option linter.unusedVariables false
set_option linter.unusedSimpArgs false
set_option maxRecDepth 20000
namespace Go.Proofs
/-- downspout/downspoutlaw32.LockDead -/
def vc4 : VCode :=
 (.seq
 (.region 0 false [
 ⟨(some 3), .box (.t 1), none, 0, []⟩,
 ⟨(some 4), .copy (.c (.bool false)), none, 8, []⟩])
 (.seq
 (.region 1 false [
 ⟨(some 10), .call (.c (.fn 11 [])) [], none, 8192, []⟩,
 ⟨(some 5), .copy (.t 10), none, 8200, [0]⟩])
 (.seq
 (.region 2 true [
 ⟨(some 11), .copy (.t 0), none, 16384, []⟩,
 ⟨(some 12), .call (.c (.fn 12 [])) [(.t 11), (.c (.int .i64 14))], none, 16392, [0]⟩,
 ⟨(some 13), .load true 5 (.t 3), none, 16400, []⟩,
 ⟨(some 14), .call (.c (.fn 14 [])) [(.t 13)], none, 16408, [2, 1, 0]⟩,
 ⟨(some 6), .alloc [.nils, .nils], none, 16416, []⟩,
 ⟨(some 7), .alloc [(.int .i64 0), (.str []), (.int .i64 0), (.int .i64 0), (.bool false)], none, 16424, []⟩,
 ⟨none, .store 2 (.t 6) (.t 12), none, 16432, [4, 1, 0, 3, 2, 5]⟩,
 ⟨none, .store 5 (.t 7) (.t 14), none, 16440, [5, 3, 2, 1, 0, 6, 4]⟩])
 (.seq
 (.region 3 false [
 ⟨(some 15), .load true 2 (.t 6), none, 24576, []⟩,
 ⟨(some 16), .load true 5 (.t 7), none, 24584, []⟩,
 ⟨(some 17), .call (.c (.fn 15 [])) [(.t 15), (.t 16)], none, 24592, [0, 1]⟩,
 ⟨(some 8), .alloc [.nils, .nils, (.bool false), (.int .i64 0)], none, 24600, []⟩,
 ⟨none, .store 4 (.t 8) (.t 17), none, 24608, [3, 2, 0, 1]⟩])
 (.seq
 (.seq
 (.region 4 false [
 ⟨(some 18), .load true 2 (.t 6), none, 32768, []⟩,
 ⟨(some 19), .load true 5 (.t 7), none, 32776, []⟩,
 ⟨(some 20), .call (.c (.fn 16 [])) [(.t 18), (.t 19)], none, 32784, [0, 1]⟩])
 (.cond (.t 20)
 (.seq
 (.region 5 false [
 ⟨(some 21), .faddr 3 (.t 8), none, 40960, []⟩,
 ⟨(some 22), .load false 1 (.t 21), none, 40968, [0]⟩,
 ⟨(some 23), .bin .eql (.t 22) (.c (.int .i64 0)), none, 40976, [1, 0]⟩,
 ⟨(some 24), .copy (.t 23), none, 40984, [2, 1, 0]⟩,
 ⟨(some 25), .faddr 2 (.t 8), (some (3, 24, true)), 40992, [3, 2, 1, 0]⟩,
 ⟨(some 26), .load false 1 (.t 25), (some (3, 24, true)), 41000, [4, 3, 2, 1, 0]⟩,
 ⟨(some 27), .pick (.t 24) (.t 26) (.c (.bool false)), none, 41008, [3, 2, 1, 0, 5, 4]⟩,
 ⟨(some 28), .copy (.t 27), none, 41016, [6, 3, 2, 1, 0, 5, 4]⟩,
 ⟨(some 29), .faddr 0 (.t 8), (some (7, 28, true)), 41024, [7, 6, 3, 2, 1, 0, 5, 4]⟩,
 ⟨(some 30), .faddr 0 (.t 29), (some (7, 28, true)), 41032, [8, 7, 6, 3, 2, 1, 0, 5, 4]⟩,
 ⟨(some 31), .load false 1 (.t 30), (some (7, 28, true)), 41040, [9, 8, 7, 6, 3, 2, 1, 0, 5, 4]⟩,
 ⟨(some 32), .len (.t 31), (some (7, 28, true)), 41048, [10, 9, 8, 7, 6, 3, 2, 1, 0, 5, 4]⟩,
 ⟨(some 33), .faddr 0 (.t 6), (some (7, 28, true)), 41056, [7, 6, 3, 2, 1, 0, 5, 4]⟩,
 ⟨(some 34), .load false 1 (.t 33), (some (7, 28, true)), 41064, [12, 7, 6, 3, 2, 1, 0, 5, 4]⟩,
 ⟨(some 35), .len (.t 34), (some (7, 28, true)), 41072, [13, 12, 7, 6, 3, 2, 1, 0, 5, 4]⟩,
 ⟨(some 36), .bin .add (.t 35) (.c (.int .i64 1)), (some (7, 28, true)), 41080, [14, 13, 12, 7, 6, 3, 2, 1, 0, 5, 4]⟩,
 ⟨(some 37), .bin .eql (.t 32) (.t 36), (some (7, 28, true)), 41088, [11, 10, 9, 8, 7, 6, 3, 2, 1, 0, 5, 4, 15, 14, 13, 12]⟩,
 ⟨(some 38), .pick (.t 28) (.t 37) (.c (.bool false)), none, 41096, [7, 6, 3, 2, 1, 0, 5, 4, 16, 11, 10, 9, 8, 15, 14, 13, 12]⟩,
 ⟨(some 39), .copy (.t 38), none, 41104, [17, 7, 6, 3, 2, 1, 0, 5, 4, 16, 11, 10, 9, 8, 15, 14, 13, 12]⟩,
 ⟨(some 40), .faddr 0 (.t 8), (some (18, 39, true)), 41112, [18, 17, 7, 6, 3, 2, 1, 0, 5, 4, 16, 11, 10, 9, 8, 15, 14, 13, 12]⟩,
 ⟨(some 41), .faddr 1 (.t 40), (some (18, 39, true)), 41120, [19, 18, 17, 7, 6, 3, 2, 1, 0, 5, 4, 16, 11, 10, 9, 8, 15, 14, 13, 12]⟩,
 ⟨(some 42), .load false 1 (.t 41), (some (18, 39, true)), 41128, [20, 19, 18, 17, 7, 6, 3, 2, 1, 0, 5, 4, 16, 11, 10, 9, 8, 15, 14, 13, 12]⟩,
 ⟨(some 43), .faddr 1 (.t 6), (some (18, 39, true)), 41136, [18, 17, 7, 6, 3, 2, 1, 0, 5, 4, 16, 11, 10, 9, 8, 15, 14, 13, 12]⟩,
 ⟨(some 44), .load false 1 (.t 43), (some (18, 39, true)), 41144, [22, 18, 17, 7, 6, 3, 2, 1, 0, 5, 4, 16, 11, 10, 9, 8, 15, 14, 13, 12]⟩,
 ⟨(some 45), .call (.c (.fn 17 [])) [(.t 42), (.t 44)], (some (18, 39, true)), 41152, [21, 20, 19, 18, 17, 7, 6, 3, 2, 1, 0, 5, 4, 16, 11, 10, 9, 8, 15, 14, 13, 12, 23, 22]⟩,
 ⟨(some 46), .pick (.t 39) (.t 45) (.c (.bool false)), none, 41160, [18, 17, 7, 6, 3, 2, 1, 0, 5, 4, 16, 11, 10, 9, 8, 15, 14, 13, 12, 24, 21, 20, 19, 23, 22]⟩,
 ⟨(some 47), .copy (.t 46), none, 41168, [25, 18, 17, 7, 6, 3, 2, 1, 0, 5, 4, 16, 11, 10, 9, 8, 15, 14, 13, 12, 24, 21, 20, 19, 23, 22]⟩,
 ⟨(some 48), .copy (.t 5), (some (26, 47, true)), 41176, [26, 25, 18, 17, 7, 6, 3, 2, 1, 0, 5, 4, 16, 11, 10, 9, 8, 15, 14, 13, 12, 24, 21, 20, 19, 23, 22]⟩,
 ⟨(some 49), .pick (.t 47) (.t 48) (.c (.bool false)), none, 41184, [26, 25, 18, 17, 7, 6, 3, 2, 1, 0, 5, 4, 16, 11, 10, 9, 8, 15, 14, 13, 12, 24, 21, 20, 19, 23, 22, 27]⟩,
 ⟨(some 4), .copy (.t 49), none, 41192, [28, 26, 25, 18, 17, 7, 6, 3, 2, 1, 0, 5, 4, 16, 11, 10, 9, 8, 15, 14, 13, 12, 24, 21, 20, 19, 23, 22, 27]⟩])
 .ret)
 .skip))
 (.seq
 (.region 6 true [
 ⟨(some 50), .faddr 0 (.t 6), none, 49152, []⟩,
 ⟨(some 51), .load false 1 (.t 50), none, 49160, [0]⟩,
 ⟨(some 52), .bslice 5 [(.int .i64 0), (.str []), (.int .i64 0), (.int .i64 0), (.bool false)] 0 [], none, 49168, []⟩,
 ⟨(some 53), .faddr 1 (.t 6), none, 49176, []⟩,
 ⟨(some 54), .load false 1 (.t 53), none, 49184, [3]⟩,
 ⟨(some 55), .append 5 48 [(.int .i64 0), (.str []), (.int .i64 0), (.int .i64 0), (.bool false)] (.t 52) (.t 54), none, 49192, [2, 4, 3]⟩,
 ⟨(some 56), .load true 5 (.t 7), none, 49200, []⟩,
 ⟨(some 57), .bslice 5 [(.int .i64 0), (.str []), (.int .i64 0), (.int .i64 0), (.bool false)] 1 [(0, (.t 56))], none, 49208, [6]⟩,
 ⟨(some 58), .append 5 48 [(.int .i64 0), (.str []), (.int .i64 0), (.int .i64 0), (.bool false)] (.t 55) (.t 57), none, 49216, [5, 2, 4, 3, 7, 6]⟩,
 ⟨(some 59), .build [.nils, .nils] [(0, 1, (.t 51)), (1, 1, (.t 58))], none, 49224, [1, 0, 8, 5, 2, 4, 3, 7, 6]⟩,
 ⟨(some 9), .alloc [.nils, .nils], none, 49232, []⟩,
 ⟨none, .store 2 (.t 9) (.t 59), none, 49240, [10, 9, 1, 0, 8, 5, 2, 4, 3, 7, 6]⟩])
 (.seq
 (.seq
 (.region 7 false [
 ⟨(some 60), .load true 2 (.t 9), none, 57344, []⟩,
 ⟨(some 61), .faddr 0 (.t 7), none, 57352, []⟩,
 ⟨(some 62), .load false 1 (.t 61), none, 57360, [1]⟩,
 ⟨(some 63), .call (.c (.fn 18 [])) [(.t 60), (.t 62)], none, 57368, [0, 2, 1]⟩])
 (.cond (.t 63)
 (.seq
 (.region 8 false [
 ⟨(some 64), .faddr 3 (.t 8), none, 65536, []⟩,
 ⟨(some 65), .load false 1 (.t 64), none, 65544, [0]⟩,
 ⟨(some 66), .bin .eql (.t 65) (.c (.int .i64 321)), none, 65552, [1, 0]⟩,
 ⟨(some 67), .copy (.t 66), none, 65560, [2, 1, 0]⟩,
 ⟨(some 68), .faddr 2 (.t 8), (some (3, 67, true)), 65568, [3, 2, 1, 0]⟩,
 ⟨(some 69), .load false 1 (.t 68), (some (3, 67, true)), 65576, [4, 3, 2, 1, 0]⟩,
 ⟨(some 70), .not (.t 69), (some (3, 67, true)), 65584, [5, 4, 3, 2, 1, 0]⟩,
 ⟨(some 71), .pick (.t 67) (.t 70) (.c (.bool false)), none, 65592, [3, 2, 1, 0, 6, 5, 4]⟩,
 ⟨(some 72), .copy (.t 71), none, 65600, [7, 3, 2, 1, 0, 6, 5, 4]⟩,
 ⟨(some 73), .faddr 0 (.t 8), (some (8, 72, true)), 65608, [8, 7, 3, 2, 1, 0, 6, 5, 4]⟩,
 ⟨(some 74), .load true 2 (.t 73), (some (8, 72, true)), 65616, [9, 8, 7, 3, 2, 1, 0, 6, 5, 4]⟩,
 ⟨(some 75), .load true 2 (.t 6), (some (8, 72, true)), 65624, [8, 7, 3, 2, 1, 0, 6, 5, 4]⟩,
 ⟨(some 76), .call (.c (.fn 19 [])) [(.t 74), (.t 75)], (some (8, 72, true)), 65632, [10, 9, 8, 7, 3, 2, 1, 0, 6, 5, 4, 11]⟩,
 ⟨(some 77), .pick (.t 72) (.t 76) (.c (.bool false)), none, 65640, [8, 7, 3, 2, 1, 0, 6, 5, 4, 12, 10, 9, 11]⟩,
 ⟨(some 78), .copy (.t 77), none, 65648, [13, 8, 7, 3, 2, 1, 0, 6, 5, 4, 12, 10, 9, 11]⟩,
 ⟨(some 79), .copy (.t 5), (some (14, 78, true)), 65656, [14, 13, 8, 7, 3, 2, 1, 0, 6, 5, 4, 12, 10, 9, 11]⟩,
 ⟨(some 80), .pick (.t 78) (.t 79) (.c (.bool false)), none, 65664, [14, 13, 8, 7, 3, 2, 1, 0, 6, 5, 4, 12, 10, 9, 11, 15]⟩,
 ⟨(some 4), .copy (.t 80), none, 65672, [16, 14, 13, 8, 7, 3, 2, 1, 0, 6, 5, 4, 12, 10, 9, 11, 15]⟩])
 .ret)
 .skip))
 (.seq
 (.region 9 false [
 ⟨(some 81), .faddr 3 (.t 8), none, 73728, []⟩,
 ⟨(some 82), .load false 1 (.t 81), none, 73736, [0]⟩,
 ⟨(some 83), .bin .eql (.t 82) (.c (.int .i64 0)), none, 73744, [1, 0]⟩,
 ⟨(some 84), .copy (.t 83), none, 73752, [2, 1, 0]⟩,
 ⟨(some 85), .faddr 2 (.t 8), (some (3, 84, true)), 73760, [3, 2, 1, 0]⟩,
 ⟨(some 86), .load false 1 (.t 85), (some (3, 84, true)), 73768, [4, 3, 2, 1, 0]⟩,
 ⟨(some 87), .not (.t 86), (some (3, 84, true)), 73776, [5, 4, 3, 2, 1, 0]⟩,
 ⟨(some 88), .pick (.t 84) (.t 87) (.c (.bool false)), none, 73784, [3, 2, 1, 0, 6, 5, 4]⟩,
 ⟨(some 89), .copy (.t 88), none, 73792, [7, 3, 2, 1, 0, 6, 5, 4]⟩,
 ⟨(some 90), .faddr 0 (.t 8), (some (8, 89, true)), 73800, [8, 7, 3, 2, 1, 0, 6, 5, 4]⟩,
 ⟨(some 91), .load true 2 (.t 90), (some (8, 89, true)), 73808, [9, 8, 7, 3, 2, 1, 0, 6, 5, 4]⟩,
 ⟨(some 92), .load true 2 (.t 9), (some (8, 89, true)), 73816, [8, 7, 3, 2, 1, 0, 6, 5, 4]⟩,
 ⟨(some 93), .call (.c (.fn 19 [])) [(.t 91), (.t 92)], (some (8, 89, true)), 73824, [10, 9, 8, 7, 3, 2, 1, 0, 6, 5, 4, 11]⟩,
 ⟨(some 94), .pick (.t 89) (.t 93) (.c (.bool false)), none, 73832, [8, 7, 3, 2, 1, 0, 6, 5, 4, 12, 10, 9, 11]⟩,
 ⟨(some 95), .copy (.t 94), none, 73840, [13, 8, 7, 3, 2, 1, 0, 6, 5, 4, 12, 10, 9, 11]⟩,
 ⟨(some 96), .copy (.t 5), (some (14, 95, true)), 73848, [14, 13, 8, 7, 3, 2, 1, 0, 6, 5, 4, 12, 10, 9, 11]⟩,
 ⟨(some 97), .pick (.t 95) (.t 96) (.c (.bool false)), none, 73856, [14, 13, 8, 7, 3, 2, 1, 0, 6, 5, 4, 12, 10, 9, 11, 15]⟩,
 ⟨(some 4), .copy (.t 97), none, 73864, [16, 14, 13, 8, 7, 3, 2, 1, 0, 6, 5, 4, 12, 10, 9, 11, 15]⟩])
 .ret))))))))
theorem vf4 : VF Try.prog 4 = some (98, vc4, [.tmp 4]) := by kernel_rfl
set_option maxHeartbeats 4000000 in
theorem dead_law_vc {rs : List RawL} (hl : rs.length ≤ 9223372036854775807) (hr : ∀ r ∈ rs, r.ok) {x : RawL} (hx : x.ok) : VC Try.prog 4 [.sh false (rs.map encR), .agg (encR x)] [] (.bool true) [] := by
  have hp := play_vc hl hr 14 (by omega)
  have hS := play_scr (rs.take 14)
  have hn : (playL (rs.take 14)).held.length + (playL (rs.take 14)).waits.length ≤ 14 := Nat.le_trans hS.n (by rw [List.length_take]; omega)
  have hs := hS.s
  have hk := lock_vc hx
  have hy := lock_right x
  generalize playL (rs.take 14) = s at hp hn hs
  generalize lockL x = y at hk hy
  have ht := htake_vc (l := s) (by omega) y
  have ha := allows_vc (l := s) (by omega) (by omega) y
  have hss := sanity_vc
  have hb1 : (s.held.map encL).length ≤ 14 := by rw [List.length_map]; omega
  have hb2 : (s.waits.map encL).length ≤ 14 := by rw [List.length_map]; omega
  rcases take_cases hs hy (by omega) with ⟨h1, h2⟩ | ⟨h1, h2, h3⟩ | ⟨h1, h2, h3⟩
  · rw [show ptakeL s y = _ from h2] at ht
    dsimp only [encT] at ht
    rw [h1] at ha
    have hq := sameLocks_vc (a := s.waits) (b := s.waits) (by omega) (by omega)
    rw [decide_eq_true rfl] at hq
    have g1 : ((((s.held ++ [y]).map encL).length : Int) == ((s.held.map encL).length : Int) + 1) = true := by simp
    refine vc_of vf4 ?_ (Nat.le_of_ble_eq_true rfl) (by intro vs h; cases h)
    repeat first | refine o_copy ?_ | refine nl ?_ | refine ct_seq ?_ | refine rg ?_ | refine ct_block ?_ | refine bq ?_ | refine cv0 hss ?_ | refine cf hp ?_ | refine cv0 hk ?_ | refine cf ht ?_ | refine cv0 ha ?_ | refine o_loads ?_ | refine o_loadp ?_ | refine o_faddr ?_ | refine o_add ?_ | refine o_cat ?_ | refine o_bin ?_ | refine o_lenq ?_ | refine o_len ?_ | refine o_loadsA ?_ | refine o_loadpA ?_ | refine o_box ?_ | refine o_alloc ?_ | refine o_bslice ?_ | refine o_store ?_ | refine o_not ?_ | refine o_pickt ?_ | refine o_pickf ?_ | refine o_build ?_ | refine skF ?_ | refine skU ?_
    refine cndt ?_
    repeat first | refine o_copy ?_ | refine nl ?_ | refine ct_seq ?_ | refine rg ?_ | refine ct_block ?_ | refine bq ?_ | refine cv0 hq ?_ | refine o_loads ?_ | refine o_loadp ?_ | refine o_faddr ?_ | refine o_add ?_ | refine o_cat ?_ | refine o_bin ?_ | refine o_lenq ?_ | refine o_len ?_ | refine o_loadsA ?_ | refine o_loadpA ?_ | refine o_box ?_ | refine o_alloc ?_ | refine o_bslice ?_ | refine o_store ?_ | refine o_not ?_ | refine o_pickt ?_ | refine o_pickf ?_ | refine o_build ?_ | refine skF ?_ | refine skU ?_
    refine ct_ret ⟨.inr rfl, oB ?_⟩
    simp
  · rw [show ptakeL s y = _ from h3] at ht
    dsimp only [encT] at ht
    rw [h1] at ha
    have hc := rcircle_vc (l := ⟨s.held, s.waits ++ [y]⟩) (by simp; omega) y.own
    rw [h2] at hc
    have hq := rsame_vc (a := s) (b := s) (by omega) (by omega) (by omega) (by omega)
    rw [decide_eq_true rfl] at hq
    refine vc_of vf4 ?_ (Nat.le_of_ble_eq_true rfl) (by intro vs h; cases h)
    repeat first | refine o_copy ?_ | refine nl ?_ | refine ct_seq ?_ | refine rg ?_ | refine ct_block ?_ | refine bq ?_ | refine cv0 hss ?_ | refine cf hp ?_ | refine cv0 hk ?_ | refine cf ht ?_ | refine cv0 ha ?_ | refine o_loads ?_ | refine o_loadp ?_ | refine o_faddr ?_ | refine o_add ?_ | refine o_cat ?_ | refine o_bin ?_ | refine o_lenq ?_ | refine o_len ?_ | refine o_loadsA ?_ | refine o_loadpA ?_ | refine o_box ?_ | refine o_alloc ?_ | refine o_bslice ?_ | refine o_store ?_ | refine o_not ?_ | refine o_pickt ?_ | refine o_pickf ?_ | refine o_build ?_ | refine skF ?_ | refine skU ?_
    refine cndf (ct_skip ?_)
    repeat first | refine o_copy ?_ | refine nl ?_ | refine ct_seq ?_ | refine rg ?_ | refine ct_block ?_ | refine bq ?_ | refine o_v (vaps encL [] s.waits) ?_ | refine o_v (vap encL y) ?_ | refine cv0 hc (h3 := by exact l_lsY rfl rfl) ?_ | refine o_loads ?_ | refine o_loadp ?_ | refine o_faddr ?_ | refine o_add ?_ | refine o_cat ?_ | refine o_bin ?_ | refine o_lenq ?_ | refine o_len ?_ | refine o_loadsA ?_ | refine o_loadpA ?_ | refine o_box ?_ | refine o_alloc ?_ | refine o_bslice ?_ | refine o_store ?_ | refine o_not ?_ | refine o_pickt ?_ | refine o_pickf ?_ | refine o_build ?_ | refine skF ?_ | refine skU ?_
    refine cndt ?_
    repeat first | refine o_copy ?_ | refine nl ?_ | refine ct_seq ?_ | refine rg ?_ | refine ct_block ?_ | refine bq ?_ | refine cv0 hq ?_ | refine o_loads ?_ | refine o_loadp ?_ | refine o_faddr ?_ | refine o_add ?_ | refine o_cat ?_ | refine o_bin ?_ | refine o_lenq ?_ | refine o_len ?_ | refine o_loadsA ?_ | refine o_loadpA ?_ | refine o_box ?_ | refine o_alloc ?_ | refine o_bslice ?_ | refine o_store ?_ | refine o_not ?_ | refine o_pickt ?_ | refine o_pickf ?_ | refine o_build ?_ | refine skF ?_ | refine skU ?_
    exact ct_ret ⟨.inr rfl, oB rfl⟩
  · rw [show ptakeL s y = _ from h3] at ht
    dsimp only [encT] at ht
    rw [h1] at ha
    have hc := rcircle_vc (l := ⟨s.held, s.waits ++ [y]⟩) (by simp; omega) y.own
    rw [h2] at hc
    have hq := rsame_vc (a := ⟨s.held, s.waits ++ [y]⟩) (b := ⟨s.held, s.waits ++ [y]⟩) (by simp only; omega) (by simp; omega) (by simp only; omega) (by simp; omega)
    rw [decide_eq_true rfl] at hq
    refine vc_of vf4 ?_ (Nat.le_of_ble_eq_true rfl) (by intro vs h; cases h)
    repeat first | refine o_copy ?_ | refine nl ?_ | refine ct_seq ?_ | refine rg ?_ | refine ct_block ?_ | refine bq ?_ | refine cv0 hss ?_ | refine cf hp ?_ | refine cv0 hk ?_ | refine cf ht ?_ | refine cv0 ha ?_ | refine o_loads ?_ | refine o_loadp ?_ | refine o_faddr ?_ | refine o_add ?_ | refine o_cat ?_ | refine o_bin ?_ | refine o_lenq ?_ | refine o_len ?_ | refine o_loadsA ?_ | refine o_loadpA ?_ | refine o_box ?_ | refine o_alloc ?_ | refine o_bslice ?_ | refine o_store ?_ | refine o_not ?_ | refine o_pickt ?_ | refine o_pickf ?_ | refine o_build ?_ | refine skF ?_ | refine skU ?_
    refine cndf (ct_skip ?_)
    repeat first | refine o_copy ?_ | refine nl ?_ | refine ct_seq ?_ | refine rg ?_ | refine ct_block ?_ | refine bq ?_ | refine o_v (vaps encL [] s.waits) ?_ | refine o_v (vap encL y) ?_ | refine cv0 hc (h3 := by exact l_lsY rfl rfl) ?_ | refine o_loads ?_ | refine o_loadp ?_ | refine o_faddr ?_ | refine o_add ?_ | refine o_cat ?_ | refine o_bin ?_ | refine o_lenq ?_ | refine o_len ?_ | refine o_loadsA ?_ | refine o_loadpA ?_ | refine o_box ?_ | refine o_alloc ?_ | refine o_bslice ?_ | refine o_store ?_ | refine o_not ?_ | refine o_pickt ?_ | refine o_pickf ?_ | refine o_build ?_ | refine skF ?_ | refine skU ?_
    refine cndf (ct_skip ?_)
    repeat first | refine o_copy ?_ | refine nl ?_ | refine ct_seq ?_ | refine rg ?_ | refine ct_block ?_ | refine bq ?_ | refine cv0 hq (h3 := by exact l_lsZ rfl) ?_ | refine o_loads ?_ | refine o_loadp ?_ | refine o_faddr ?_ | refine o_add ?_ | refine o_cat ?_ | refine o_bin ?_ | refine o_lenq ?_ | refine o_len ?_ | refine o_loadsA ?_ | refine o_loadpA ?_ | refine o_box ?_ | refine o_alloc ?_ | refine o_bslice ?_ | refine o_store ?_ | refine o_not ?_ | refine o_pickt ?_ | refine o_pickf ?_ | refine o_build ?_ | refine skF ?_ | refine skU ?_
    exact ct_ret ⟨.inr rfl, oB rfl⟩
theorem lockDead_in (l : List (List PV)) (il : InTy (.sl [.int .u8, .int .u8, .int .u8, .int .u8, .int .u8]) (.sh false l)) (q : List PV) (n : q.length = [CTy.int .u8, .int .u8, .int .u8, .int .u8, .int .u8].length) (i : ∀ (j : Nat) (c : CTy) (p : PV), [CTy.int .u8, .int .u8, .int .u8, .int .u8, .int .u8][j]? = some c → q[j]? = some p → InTy c p) : VC Try.prog 4 [.sh false l, .agg q] [] (.bool true) [] := by
  obtain ⟨rs, rfl, h1, h2⟩ := decRs il
  obtain ⟨r, rfl, hr⟩ := decRaw n i
  exact dead_law_vc h2 h1 hr
end Go.Proofs
