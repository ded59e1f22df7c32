/- Ti -/
import Derived.Test.YtjjkeakejclknaaTh
import Derived.Test.YtjjkeakejclknaaTb
open Go.V Go.Pu
set_option linter.unusedVariables false
set_option linter.unusedSimpArgs false
set_option maxRecDepth 20000
namespace Go.Proofs
/-- downspout/downspoutlaw04.TableFinds -/
def vc5 : VCode :=
 (.seq
 (.region 0 false [
 ⟨(some 4), .box (.t 1), none, 0, []⟩,
 ⟨(some 6), .copy (.c (.bool false)), none, 8, []⟩])
 (.seq
 (.region 1 false [
 ⟨(some 23), .call (.c (.fn 10 [])) [], none, 8192, []⟩,
 ⟨(some 7), .copy (.t 23), none, 8200, [0]⟩])
 (.seq
 (.region 2 true [
 ⟨(some 24), .copy (.t 0), none, 16384, []⟩,
 ⟨(some 25), .call (.c (.fn 11 [])) [(.t 24)], none, 16392, [0]⟩,
 ⟨(some 26), .load true 3 (.t 4), none, 16400, []⟩,
 ⟨(some 27), .call (.c (.fn 32 [])) [(.t 26)], none, 16408, [2, 1, 0]⟩,
 ⟨(some 28), .copy (.t 2), none, 16416, []⟩,
 ⟨(some 29), .call (.c (.fn 15 [])) [(.t 28)], none, 16424, [4, 3, 2, 1, 0]⟩,
 ⟨(some 9), .alloc [(.str []), (.str []), (.int .i64 0)], none, 16432, []⟩,
 ⟨(some 8), .copy (.t 25), none, 16440, [1, 0, 5, 4, 3, 2, 6]⟩,
 ⟨none, .store 3 (.t 9) (.t 27), none, 16448, [6, 3, 2, 1, 0, 7, 5, 4]⟩,
 ⟨(some 10), .copy (.t 29), none, 16456, [5, 4, 3, 2, 1, 0, 8, 6, 7]⟩])
 (.seq
 (.region 3 true [
 ⟨(some 30), .copy (.t 8), none, 24576, []⟩,
 ⟨(some 31), .load true 3 (.t 9), none, 24584, []⟩,
 ⟨(some 32), .call (.c (.fn 22 [])) [(.t 30), (.t 31)], none, 24592, [0, 1]⟩,
 ⟨(some 33), .copy (.t 8), none, 24600, []⟩,
 ⟨(some 34), .faddr 0 (.t 9), none, 24608, []⟩,
 ⟨(some 35), .load false 1 (.t 34), none, 24616, [4]⟩,
 ⟨(some 36), .call (.c (.fn 23 [])) [(.t 33), (.t 35)], none, 24624, [3, 5, 4, 2, 0, 1]⟩,
 ⟨(some 11), .copy (.t 32), none, 24632, [2, 0, 1, 6, 3, 5, 4]⟩,
 ⟨(some 12), .copy (.t 36), none, 24640, [6, 3, 5, 4, 2, 0, 1, 7]⟩])
 (.seq
 (.region 4 false [
 ⟨(some 38), .copy (.t 11), none, 32768, []⟩,
 ⟨(some 39), .faddr 0 (.t 9), none, 32776, []⟩,
 ⟨(some 40), .load false 1 (.t 39), none, 32784, [1]⟩,
 ⟨(some 41), .call (.c (.fn 14 [])) [(.t 38), (.t 40)], none, 32792, [0, 2, 1]⟩,
 ⟨(some 37), .copy (.t 41), none, 32800, [3, 0, 2, 1]⟩,
 ⟨(some 42), .extract (.t 37) 0, none, 32808, [4, 3, 0, 2, 1]⟩,
 ⟨(some 43), .extract (.t 37) 1, none, 32816, [4, 3, 0, 2, 1]⟩,
 ⟨(some 13), .alloc [(.str []), (.str []), (.int .i64 0)], none, 32824, []⟩,
 ⟨none, .store 3 (.t 13) (.t 42), none, 32832, [7, 5, 4, 3, 0, 2, 1]⟩,
 ⟨(some 14), .copy (.t 43), none, 32840, [6, 4, 3, 0, 2, 1, 8, 7, 5]⟩])
 (.seq
 (.region 5 false [
 ⟨(some 45), .copy (.t 12), none, 40960, []⟩,
 ⟨(some 46), .faddr 0 (.t 9), none, 40968, []⟩,
 ⟨(some 47), .load false 1 (.t 46), none, 40976, [1]⟩,
 ⟨(some 48), .call (.c (.fn 14 [])) [(.t 45), (.t 47)], none, 40984, [0, 2, 1]⟩,
 ⟨(some 44), .copy (.t 48), none, 40992, [3, 0, 2, 1]⟩,
 ⟨(some 49), .extract (.t 44) 0, none, 41000, [4, 3, 0, 2, 1]⟩,
 ⟨(some 50), .extract (.t 44) 1, none, 41008, [4, 3, 0, 2, 1]⟩,
 ⟨(some 15), .alloc [(.str []), (.str []), (.int .i64 0)], none, 41016, []⟩,
 ⟨none, .store 3 (.t 15) (.t 49), none, 41024, [7, 5, 4, 3, 0, 2, 1]⟩,
 ⟨(some 16), .copy (.t 50), none, 41032, [6, 4, 3, 0, 2, 1, 8, 7, 5]⟩])
 (.seq
 (.seq
 (.region 6 false [
 ⟨(some 51), .copy (.t 11), none, 49152, []⟩,
 ⟨(some 52), .call (.c (.fn 31 [])) [(.t 51)], none, 49160, [0]⟩,
 ⟨(some 53), .not (.t 52), none, 49168, [1, 0]⟩,
 ⟨(some 54), .copy (.t 53), none, 49176, [2, 1, 0]⟩,
 ⟨(some 55), .copy (.t 12), (some (3, 54, false)), 49184, [3, 2, 1, 0]⟩,
 ⟨(some 56), .call (.c (.fn 31 [])) [(.t 55)], (some (3, 54, false)), 49192, [4, 3, 2, 1, 0]⟩,
 ⟨(some 57), .not (.t 56), (some (3, 54, false)), 49200, [5, 4, 3, 2, 1, 0]⟩,
 ⟨(some 58), .pick (.t 54) (.c (.bool true)) (.t 57), none, 49208, [3, 2, 1, 0, 6, 5, 4]⟩,
 ⟨(some 59), .copy (.t 58), none, 49216, [7, 3, 2, 1, 0, 6, 5, 4]⟩,
 ⟨(some 60), .copy (.t 14), (some (8, 59, false)), 49224, [8, 7, 3, 2, 1, 0, 6, 5, 4]⟩,
 ⟨(some 61), .not (.t 60), (some (8, 59, false)), 49232, [9, 8, 7, 3, 2, 1, 0, 6, 5, 4]⟩,
 ⟨(some 62), .pick (.t 59) (.c (.bool true)) (.t 61), none, 49240, [8, 7, 3, 2, 1, 0, 6, 5, 4, 10, 9]⟩,
 ⟨(some 63), .copy (.t 62), none, 49248, [11, 8, 7, 3, 2, 1, 0, 6, 5, 4, 10, 9]⟩,
 ⟨(some 64), .load true 3 (.t 13), (some (12, 63, false)), 49256, [12, 11, 8, 7, 3, 2, 1, 0, 6, 5, 4, 10, 9]⟩,
 ⟨(some 65), .load true 3 (.t 9), (some (12, 63, false)), 49264, [12, 11, 8, 7, 3, 2, 1, 0, 6, 5, 4, 10, 9]⟩,
 ⟨(some 66), .eqc true [2, 2, 1] (.t 64) (.t 65), (some (12, 63, false)), 49272, [13, 12, 11, 8, 7, 3, 2, 1, 0, 6, 5, 4, 10, 9, 14]⟩,
 ⟨(some 67), .pick (.t 63) (.c (.bool true)) (.t 66), none, 49280, [12, 11, 8, 7, 3, 2, 1, 0, 6, 5, 4, 10, 9, 15, 13, 14]⟩,
 ⟨(some 68), .copy (.t 67), none, 49288, [16, 12, 11, 8, 7, 3, 2, 1, 0, 6, 5, 4, 10, 9, 15, 13, 14]⟩,
 ⟨(some 69), .copy (.t 16), (some (17, 68, false)), 49296, [17, 16, 12, 11, 8, 7, 3, 2, 1, 0, 6, 5, 4, 10, 9, 15, 13, 14]⟩,
 ⟨(some 70), .pick (.t 68) (.c (.bool true)) (.t 69), none, 49304, [17, 16, 12, 11, 8, 7, 3, 2, 1, 0, 6, 5, 4, 10, 9, 15, 13, 14, 18]⟩])
 (.cond (.t 70)
 (.seq
 (.region 7 false [
 ⟨(some 6), .copy (.c (.bool false)), none, 57344, []⟩])
 .ret)
 .skip))
 (.seq
 (.seq
 (.region 8 false [
 ⟨(some 71), .copy (.t 10), none, 65536, []⟩,
 ⟨(some 72), .faddr 0 (.t 9), none, 65544, []⟩,
 ⟨(some 73), .load false 1 (.t 72), none, 65552, [1]⟩,
 ⟨(some 74), .bin .eql (.t 71) (.t 73), none, 65560, [0, 2, 1]⟩])
 (.cond (.t 74)
 (.seq
 (.region 9 false [
 ⟨(some 75), .copy (.t 7), none, 73728, []⟩,
 ⟨(some 6), .copy (.t 75), none, 73736, [0]⟩])
 .ret)
 .skip))
 (.seq
 (.region 10 false [
 ⟨(some 77), .copy (.t 8), none, 81920, []⟩,
 ⟨(some 78), .copy (.t 10), none, 81928, []⟩,
 ⟨(some 79), .call (.c (.fn 14 [])) [(.t 77), (.t 78)], none, 81936, [0, 1]⟩,
 ⟨(some 76), .copy (.t 79), none, 81944, [2, 0, 1]⟩,
 ⟨(some 80), .extract (.t 76) 0, none, 81952, [3, 2, 0, 1]⟩,
 ⟨(some 81), .extract (.t 76) 1, none, 81960, [3, 2, 0, 1]⟩,
 ⟨(some 17), .alloc [(.str []), (.str []), (.int .i64 0)], none, 81968, []⟩,
 ⟨none, .store 3 (.t 17) (.t 80), none, 81976, [6, 4, 3, 2, 0, 1]⟩,
 ⟨(some 18), .copy (.t 81), none, 81984, [5, 3, 2, 0, 1, 7, 6, 4]⟩])
 (.seq
 (.region 11 false [
 ⟨(some 83), .copy (.t 11), none, 90112, []⟩,
 ⟨(some 84), .copy (.t 10), none, 90120, []⟩,
 ⟨(some 85), .call (.c (.fn 14 [])) [(.t 83), (.t 84)], none, 90128, [0, 1]⟩,
 ⟨(some 82), .copy (.t 85), none, 90136, [2, 0, 1]⟩,
 ⟨(some 86), .extract (.t 82) 0, none, 90144, [3, 2, 0, 1]⟩,
 ⟨(some 87), .extract (.t 82) 1, none, 90152, [3, 2, 0, 1]⟩,
 ⟨(some 19), .alloc [(.str []), (.str []), (.int .i64 0)], none, 90160, []⟩,
 ⟨none, .store 3 (.t 19) (.t 86), none, 90168, [6, 4, 3, 2, 0, 1]⟩,
 ⟨(some 20), .copy (.t 87), none, 90176, [5, 3, 2, 0, 1, 7, 6, 4]⟩])
 (.seq
 (.region 12 false [
 ⟨(some 89), .copy (.t 12), none, 98304, []⟩,
 ⟨(some 90), .copy (.t 10), none, 98312, []⟩,
 ⟨(some 91), .call (.c (.fn 14 [])) [(.t 89), (.t 90)], none, 98320, [0, 1]⟩,
 ⟨(some 88), .copy (.t 91), none, 98328, [2, 0, 1]⟩,
 ⟨(some 92), .extract (.t 88) 0, none, 98336, [3, 2, 0, 1]⟩,
 ⟨(some 93), .extract (.t 88) 1, none, 98344, [3, 2, 0, 1]⟩,
 ⟨(some 21), .alloc [(.str []), (.str []), (.int .i64 0)], none, 98352, []⟩,
 ⟨none, .store 3 (.t 21) (.t 92), none, 98360, [6, 4, 3, 2, 0, 1]⟩,
 ⟨(some 22), .copy (.t 93), none, 98368, [5, 3, 2, 0, 1, 7, 6, 4]⟩])
 (.seq
 (.region 13 false [
 ⟨(some 94), .load true 3 (.t 17), none, 106496, []⟩,
 ⟨(some 95), .load true 3 (.t 19), none, 106504, []⟩,
 ⟨(some 96), .eqc false [2, 2, 1] (.t 94) (.t 95), none, 106512, [0, 1]⟩,
 ⟨(some 97), .copy (.t 96), none, 106520, [2, 0, 1]⟩,
 ⟨(some 98), .load true 3 (.t 19), (some (3, 97, true)), 106528, [3, 2, 0, 1]⟩,
 ⟨(some 99), .load true 3 (.t 21), (some (3, 97, true)), 106536, [3, 2, 0, 1]⟩,
 ⟨(some 100), .eqc false [2, 2, 1] (.t 98) (.t 99), (some (3, 97, true)), 106544, [4, 3, 2, 0, 1, 5]⟩,
 ⟨(some 101), .pick (.t 97) (.t 100) (.c (.bool false)), none, 106552, [3, 2, 0, 1, 6, 4, 5]⟩,
 ⟨(some 102), .copy (.t 101), none, 106560, [7, 3, 2, 0, 1, 6, 4, 5]⟩,
 ⟨(some 103), .copy (.t 18), (some (8, 102, true)), 106568, [8, 7, 3, 2, 0, 1, 6, 4, 5]⟩,
 ⟨(some 104), .copy (.t 20), (some (8, 102, true)), 106576, [8, 7, 3, 2, 0, 1, 6, 4, 5]⟩,
 ⟨(some 105), .eqb false (.t 103) (.t 104), (some (8, 102, true)), 106584, [9, 8, 7, 3, 2, 0, 1, 6, 4, 5, 10]⟩,
 ⟨(some 106), .pick (.t 102) (.t 105) (.c (.bool false)), none, 106592, [8, 7, 3, 2, 0, 1, 6, 4, 5, 11, 9, 10]⟩,
 ⟨(some 107), .copy (.t 106), none, 106600, [12, 8, 7, 3, 2, 0, 1, 6, 4, 5, 11, 9, 10]⟩,
 ⟨(some 108), .copy (.t 20), (some (13, 107, true)), 106608, [13, 12, 8, 7, 3, 2, 0, 1, 6, 4, 5, 11, 9, 10]⟩,
 ⟨(some 109), .copy (.t 22), (some (13, 107, true)), 106616, [13, 12, 8, 7, 3, 2, 0, 1, 6, 4, 5, 11, 9, 10]⟩,
 ⟨(some 110), .eqb false (.t 108) (.t 109), (some (13, 107, true)), 106624, [14, 13, 12, 8, 7, 3, 2, 0, 1, 6, 4, 5, 11, 9, 10, 15]⟩,
 ⟨(some 111), .pick (.t 107) (.t 110) (.c (.bool false)), none, 106632, [13, 12, 8, 7, 3, 2, 0, 1, 6, 4, 5, 11, 9, 10, 16, 14, 15]⟩,
 ⟨(some 112), .copy (.t 111), none, 106640, [17, 13, 12, 8, 7, 3, 2, 0, 1, 6, 4, 5, 11, 9, 10, 16, 14, 15]⟩,
 ⟨(some 113), .copy (.t 7), (some (18, 112, true)), 106648, [18, 17, 13, 12, 8, 7, 3, 2, 0, 1, 6, 4, 5, 11, 9, 10, 16, 14, 15]⟩,
 ⟨(some 114), .pick (.t 112) (.t 113) (.c (.bool false)), none, 106656, [18, 17, 13, 12, 8, 7, 3, 2, 0, 1, 6, 4, 5, 11, 9, 10, 16, 14, 15, 19]⟩,
 ⟨(some 6), .copy (.t 114), none, 106664, [20, 18, 17, 13, 12, 8, 7, 3, 2, 0, 1, 6, 4, 5, 11, 9, 10, 16, 14, 15, 19]⟩])
 .ret))))))))))))
theorem vf5 : VF Try.prog 5 = some (115, vc5, [.tmp 6]) := by kernel_rfl
/-! The law of Find -/
set_option maxHeartbeats 4000000 in
theorem finds_law_vc {q : PV} {l : List RawL} {n : Nat} (x : RawL) (hq : Sl q (l.map encR)) (hn : n < 256) : VC Try.prog 5 [q, .agg (encR x), .int .u8 n] [] (.bool true) [] := by
  refine vc_of vf5 ?_ (Nat.le_of_ble_eq_true rfl) (by intro vs h; cases h)
  have hm := made_vc hq
  have hml := madeL_len l
  have hms := madeL_srt l
  have hpv := pair_vc x
  have hpk : (pairL x).key.length ≤ 20 := keyL_len x.x
  have hkv := key_vc hn
  generalize madeL l = t at *
  generalize pairL x = p at *
  generalize keyL n = k at *
  have pv := tput_vc (q := .sh false (t.map encP)) p hms Sl.sh (by omega)
  have dv := tdel_vc (q := .sh false (t.map encP)) p.key hms Sl.sh (by omega) (by omega)
  have sp : Srt (putL t p) := putL_srt hms
  have sd : Srt (delL t p.key) := del_srt hms _
  have lp := putL_len t p
  have ld := del_len t p.key
  have fp := find_put (p := p) hms
  have fd := find_del hms p.key
  generalize putL t p = tp at *
  generalize delL t p.key = td at *
  have f1 := tfind_vc (q := .sh false (tp.map encP)) p.key sp Sl.sh (by omega)
  have f2 := tfind_vc (q := .sh false (td.map encP)) p.key sd Sl.sh (by omega)
  rw [fp, if_pos rfl] at f1
  rw [fd, if_pos rfl] at f2
  have v1 := rvalid_vc (q := .sh false (tp.map encP)) (xs := tp) Sl.sh (by omega)
  have v2 := rvalid_vc (q := .sh false (td.map encP)) (xs := td) Sl.sh (by omega)
  rw [sortedL_iff.2 sp] at v1
  rw [sortedL_iff.2 sd] at v2
  repeat first | refine o_copy ?_ | refine nl ?_ | refine ct_seq ?_ | refine rg ?_ | refine ct_block ?_ | refine bq ?_ | refine cv0 sanity_vc ?_ | refine cv hm ?_ | refine cv0 hpv ?_ | refine cv0 hkv ?_ | refine cv pv ?_ | refine cv dv ?_ | refine cv0 f1 ?_ | refine cv0 f2 ?_ | refine cv0 v1 ?_ | refine cv0 v2 ?_ | refine o_loads ?_ | refine o_loadp ?_ | refine o_faddr ?_ | refine o_bin ?_ | refine o_loadsA ?_ | refine o_loadpA ?_ | refine o_box ?_ | refine o_alloc ?_ | refine o_store ?_ | refine o_not ?_ | refine o_pickt ?_ | refine o_pickf ?_ | refine o_extract ?_ | refine o_eqb ?_ | refine o_eqc ?_ | refine skF ?_ | refine skU ?_
  refine glook (fun hg => ?_) (fun hg => ?_)
  · exact absurd hg (by simp)
  repeat first | refine o_copy ?_ | refine nl ?_ | refine ct_seq ?_ | refine rg ?_ | refine ct_block ?_ | refine bq ?_ | refine o_loads ?_ | refine o_loadp ?_ | refine o_faddr ?_ | refine o_bin ?_ | refine o_loadsA ?_ | refine o_loadpA ?_ | refine o_box ?_ | refine o_alloc ?_ | refine o_store ?_ | refine o_not ?_ | refine o_pickt ?_ | refine o_pickf ?_ | refine o_extract ?_ | refine o_eqb ?_ | refine o_eqc ?_ | refine skF ?_ | refine skU ?_
  refine cndf (ct_skip ?_)
  repeat first | refine o_copy ?_ | refine nl ?_ | refine ct_seq ?_ | refine rg ?_ | refine ct_block ?_ | refine bq ?_ | refine o_loads ?_ | refine o_loadp ?_ | refine o_faddr ?_ | refine o_bin ?_ | refine o_loadsA ?_ | refine o_loadpA ?_ | refine o_box ?_ | refine o_alloc ?_ | refine o_store ?_ | refine o_not ?_ | refine o_pickt ?_ | refine o_pickf ?_ | refine o_extract ?_ | refine o_eqb ?_ | refine o_eqc ?_ | refine skF ?_ | refine skU ?_
  refine cnd (fun h => ?_) (fun h => ct_skip ?_)
  · repeat first | refine o_copy ?_ | refine nl ?_ | refine ct_seq ?_ | refine rg ?_ | refine ct_block ?_ | refine bq ?_ | refine o_loads ?_ | refine o_loadp ?_ | refine o_faddr ?_ | refine o_bin ?_ | refine o_loadsA ?_ | refine o_loadpA ?_ | refine o_box ?_ | refine o_alloc ?_ | refine o_store ?_ | refine o_not ?_ | refine o_pickt ?_ | refine o_pickf ?_ | refine o_extract ?_ | refine o_eqb ?_ | refine o_eqc ?_ | refine skF ?_ | refine skU ?_
    exact ct_ret ⟨.inr rfl, oB rfl⟩
  have hk : p.key ≠ k := by
    have h' : ¬ k = p.key := by simpa using h
    exact fun e => h' e.symm
  have g1 := tfind_vc (q := .sh false (t.map encP)) k hms Sl.sh (by omega)
  have g2 := tfind_vc (q := .sh false (tp.map encP)) k sp Sl.sh (by omega)
  have g3 := tfind_vc (q := .sh false (td.map encP)) k sd Sl.sh (by omega)
  rw [fp, if_neg hk] at g2
  rw [fd, if_neg hk] at g3
  generalize (findP t k).getD zP = y at *
  generalize (findP t k).isSome = b at *
  repeat first | refine o_copy ?_ | refine nl ?_ | refine ct_seq ?_ | refine rg ?_ | refine ct_block ?_ | refine bq ?_ | refine cv0 g1 ?_ | refine cv0 g2 ?_ | refine cv0 g3 ?_ | refine o_loads ?_ | refine o_loadp ?_ | refine o_faddr ?_ | refine o_bin ?_ | refine o_loadsA ?_ | refine o_loadpA ?_ | refine o_box ?_ | refine o_alloc ?_ | refine o_store ?_ | refine o_not ?_ | refine o_pickt ?_ | refine o_pickf ?_ | refine o_extract ?_ | refine o_eqb ?_ | refine o_eqc ?_ | refine skF ?_ | refine skU ?_
  refine glook (fun hg => ?_) (fun hg => ?_)
  rotate_left
  · exact absurd hg (by simp)
  repeat first | refine o_copy ?_ | refine nl ?_ | refine ct_seq ?_ | refine rg ?_ | refine ct_block ?_ | refine bq ?_ | refine o_loads ?_ | refine o_loadp ?_ | refine o_faddr ?_ | refine o_bin ?_ | refine o_loadsA ?_ | refine o_loadpA ?_ | refine o_box ?_ | refine o_alloc ?_ | refine o_store ?_ | refine o_not ?_ | refine o_pickt ?_ | refine o_pickf ?_ | refine o_extract ?_ | refine o_eqb ?_ | refine o_eqc ?_ | refine skF ?_ | refine skU ?_
  refine glook (fun hg => ?_) (fun hg => ?_)
  rotate_left
  · exact absurd hg (by simp)
  repeat first | refine o_copy ?_ | refine nl ?_ | refine ct_seq ?_ | refine rg ?_ | refine ct_block ?_ | refine bq ?_ | refine o_loads ?_ | refine o_loadp ?_ | refine o_faddr ?_ | refine o_bin ?_ | refine o_loadsA ?_ | refine o_loadpA ?_ | refine o_box ?_ | refine o_alloc ?_ | refine o_store ?_ | refine o_not ?_ | refine o_pickt ?_ | refine o_pickf ?_ | refine o_extract ?_ | refine o_eqb ?_ | refine o_eqc ?_ | refine skF ?_ | refine skU ?_
  exact ct_ret ⟨.inr rfl, oB rfl⟩
end Go.Proofs
open Go.V Go.Pu
set_option linter.unusedVariables false
set_option linter.unusedSimpArgs false
set_option maxRecDepth 20000
namespace Go.Proofs
/-- downspout/downspoutlaw04.TableOrders -/
def vc6 : VCode :=
 (.seq
 (.region 0 false [
 ⟨(some 4), .box (.t 1), none, 0, []⟩,
 ⟨(some 5), .box (.t 2), none, 8, []⟩,
 ⟨(some 6), .copy (.c (.bool false)), none, 16, []⟩])
 (.seq
 (.region 1 false [
 ⟨(some 13), .call (.c (.fn 10 [])) [], none, 8192, []⟩,
 ⟨(some 7), .copy (.t 13), none, 8200, [0]⟩])
 (.seq
 (.region 2 true [
 ⟨(some 14), .copy (.t 0), none, 16384, []⟩,
 ⟨(some 15), .call (.c (.fn 11 [])) [(.t 14)], none, 16392, [0]⟩,
 ⟨(some 16), .load true 3 (.t 4), none, 16400, []⟩,
 ⟨(some 17), .call (.c (.fn 32 [])) [(.t 16)], none, 16408, [2, 1, 0]⟩,
 ⟨(some 18), .load true 3 (.t 5), none, 16416, []⟩,
 ⟨(some 19), .call (.c (.fn 32 [])) [(.t 18)], none, 16424, [4, 3, 2, 1, 0]⟩,
 ⟨(some 9), .alloc [(.str []), (.str []), (.int .i64 0)], none, 16432, []⟩,
 ⟨(some 10), .alloc [(.str []), (.str []), (.int .i64 0)], none, 16440, []⟩,
 ⟨(some 8), .copy (.t 15), none, 16448, [1, 0, 5, 4, 3, 2, 6, 7]⟩,
 ⟨none, .store 3 (.t 9) (.t 17), none, 16456, [6, 3, 2, 1, 0, 8, 5, 4, 7]⟩,
 ⟨none, .store 3 (.t 10) (.t 19), none, 16464, [7, 5, 4, 3, 2, 1, 0, 9, 6, 8]⟩])
 (.seq
 (.region 3 true [
 ⟨(some 20), .copy (.t 8), none, 24576, []⟩,
 ⟨(some 21), .load true 3 (.t 9), none, 24584, []⟩,
 ⟨(some 22), .call (.c (.fn 22 [])) [(.t 20), (.t 21)], none, 24592, [0, 1]⟩,
 ⟨(some 23), .load true 3 (.t 10), none, 24600, []⟩,
 ⟨(some 24), .call (.c (.fn 22 [])) [(.t 22), (.t 23)], none, 24608, [2, 0, 1, 3]⟩,
 ⟨(some 25), .copy (.t 8), none, 24616, []⟩,
 ⟨(some 26), .load true 3 (.t 10), none, 24624, []⟩,
 ⟨(some 27), .call (.c (.fn 22 [])) [(.t 25), (.t 26)], none, 24632, [5, 6, 4, 2, 0, 1, 3]⟩,
 ⟨(some 28), .load true 3 (.t 9), none, 24640, []⟩,
 ⟨(some 29), .call (.c (.fn 22 [])) [(.t 27), (.t 28)], none, 24648, [7, 5, 6, 4, 2, 0, 1, 3, 8]⟩,
 ⟨(some 11), .copy (.t 24), none, 24656, [4, 2, 0, 1, 3, 9, 7, 5, 6, 8]⟩,
 ⟨(some 12), .copy (.t 29), none, 24664, [9, 7, 5, 6, 4, 2, 0, 1, 3, 8, 10]⟩])
 (.seq
 (.seq
 (.region 4 false [
 ⟨(some 30), .faddr 0 (.t 9), none, 32768, []⟩,
 ⟨(some 31), .load false 1 (.t 30), none, 32776, [0]⟩,
 ⟨(some 32), .faddr 0 (.t 10), none, 32784, []⟩,
 ⟨(some 33), .load false 1 (.t 32), none, 32792, [2]⟩,
 ⟨(some 34), .bin .eql (.t 31) (.t 33), none, 32800, [1, 0, 3, 2]⟩])
 (.cond (.t 34)
 (.seq
 (.region 5 false [
 ⟨(some 35), .copy (.t 11), none, 40960, []⟩,
 ⟨(some 36), .copy (.t 8), none, 40968, []⟩,
 ⟨(some 37), .load true 3 (.t 10), none, 40976, []⟩,
 ⟨(some 38), .call (.c (.fn 22 [])) [(.t 36), (.t 37)], none, 40984, [1, 2]⟩,
 ⟨(some 39), .call (.c (.fn 17 [])) [(.t 35), (.t 38)], none, 40992, [0, 3, 1, 2]⟩,
 ⟨(some 40), .copy (.t 39), none, 41000, [4, 0, 3, 1, 2]⟩,
 ⟨(some 41), .copy (.t 12), (some (5, 40, true)), 41008, [5, 4, 0, 3, 1, 2]⟩,
 ⟨(some 42), .copy (.t 8), (some (5, 40, true)), 41016, [5, 4, 0, 3, 1, 2]⟩,
 ⟨(some 43), .load true 3 (.t 9), (some (5, 40, true)), 41024, [5, 4, 0, 3, 1, 2]⟩,
 ⟨(some 44), .call (.c (.fn 22 [])) [(.t 42), (.t 43)], (some (5, 40, true)), 41032, [7, 5, 4, 0, 3, 1, 2, 8]⟩,
 ⟨(some 45), .call (.c (.fn 17 [])) [(.t 41), (.t 44)], (some (5, 40, true)), 41040, [6, 5, 4, 0, 3, 1, 2, 9, 7, 8]⟩,
 ⟨(some 46), .pick (.t 40) (.t 45) (.c (.bool false)), none, 41048, [5, 4, 0, 3, 1, 2, 10, 6, 9, 7, 8]⟩,
 ⟨(some 47), .copy (.t 46), none, 41056, [11, 5, 4, 0, 3, 1, 2, 10, 6, 9, 7, 8]⟩,
 ⟨(some 48), .copy (.t 7), (some (12, 47, true)), 41064, [12, 11, 5, 4, 0, 3, 1, 2, 10, 6, 9, 7, 8]⟩,
 ⟨(some 49), .pick (.t 47) (.t 48) (.c (.bool false)), none, 41072, [12, 11, 5, 4, 0, 3, 1, 2, 10, 6, 9, 7, 8, 13]⟩,
 ⟨(some 6), .copy (.t 49), none, 41080, [14, 12, 11, 5, 4, 0, 3, 1, 2, 10, 6, 9, 7, 8, 13]⟩])
 .ret)
 .skip))
 (.seq
 (.region 6 true [
 ⟨(some 50), .copy (.t 11), none, 49152, []⟩,
 ⟨(some 51), .copy (.t 12), none, 49160, []⟩,
 ⟨(some 52), .call (.c (.fn 17 [])) [(.t 50), (.t 51)], none, 49168, [0, 1]⟩,
 ⟨(some 53), .copy (.t 52), none, 49176, [2, 0, 1]⟩,
 ⟨(some 54), .copy (.t 8), (some (3, 53, true)), 49184, [3, 2, 0, 1]⟩,
 ⟨(some 55), .load true 3 (.t 9), (some (3, 53, true)), 49192, [3, 2, 0, 1]⟩,
 ⟨(some 56), .call (.c (.fn 22 [])) [(.t 54), (.t 55)], (some (3, 53, true)), 49200, [4, 3, 2, 0, 1, 5]⟩,
 ⟨(some 57), .faddr 0 (.t 9), (some (3, 53, true)), 49208, [3, 2, 0, 1]⟩,
 ⟨(some 58), .load false 1 (.t 57), (some (3, 53, true)), 49216, [7, 3, 2, 0, 1]⟩,
 ⟨(some 59), .call (.c (.fn 23 [])) [(.t 56), (.t 58)], (some (3, 53, true)), 49224, [6, 4, 3, 2, 0, 1, 5, 8, 7]⟩,
 ⟨(some 60), .copy (.t 8), (some (3, 53, true)), 49232, [3, 2, 0, 1]⟩,
 ⟨(some 61), .faddr 0 (.t 9), (some (3, 53, true)), 49240, [3, 2, 0, 1]⟩,
 ⟨(some 62), .load false 1 (.t 61), (some (3, 53, true)), 49248, [11, 3, 2, 0, 1]⟩,
 ⟨(some 63), .call (.c (.fn 23 [])) [(.t 60), (.t 62)], (some (3, 53, true)), 49256, [10, 3, 2, 0, 1, 12, 11, 9, 6, 4, 5, 8, 7]⟩,
 ⟨(some 64), .call (.c (.fn 17 [])) [(.t 59), (.t 63)], (some (3, 53, true)), 49264, [9, 6, 4, 3, 2, 0, 1, 5, 8, 7, 13, 10, 12, 11]⟩,
 ⟨(some 65), .pick (.t 53) (.t 64) (.c (.bool false)), none, 49272, [3, 2, 0, 1, 14, 9, 6, 4, 5, 8, 7, 13, 10, 12, 11]⟩,
 ⟨(some 66), .copy (.t 65), none, 49280, [15, 3, 2, 0, 1, 14, 9, 6, 4, 5, 8, 7, 13, 10, 12, 11]⟩,
 ⟨(some 67), .copy (.t 7), (some (16, 66, true)), 49288, [16, 15, 3, 2, 0, 1, 14, 9, 6, 4, 5, 8, 7, 13, 10, 12, 11]⟩,
 ⟨(some 68), .pick (.t 66) (.t 67) (.c (.bool false)), none, 49296, [16, 15, 3, 2, 0, 1, 14, 9, 6, 4, 5, 8, 7, 13, 10, 12, 11, 17]⟩,
 ⟨(some 6), .copy (.t 68), none, 49304, [18, 16, 15, 3, 2, 0, 1, 14, 9, 6, 4, 5, 8, 7, 13, 10, 12, 11, 17]⟩])
 .ret))))))
theorem vf6 : VF Try.prog 6 = some (69, vc6, [.tmp 6]) := by kernel_rfl
/-! The law of the order -/
set_option maxHeartbeats 4000000 in
theorem orders_law_vc {q : PV} {l : List RawL} (x y : RawL) (hq : Sl q (l.map encR)) : VC Try.prog 6 [q, .agg (encR x), .agg (encR y)] [] (.bool true) [] := by
  refine vc_of vf6 ?_ (Nat.le_of_ble_eq_true rfl) (by intro vs h; cases h)
  have hm := made_vc hq
  have hml := madeL_len l
  have hms := madeL_srt l
  have hxv := pair_vc x
  have hyv := pair_vc y
  have hpk : (pairL x).key.length ≤ 20 := keyL_len x.x
  generalize madeL l = t at *
  generalize pairL x = p at *
  generalize pairL y = r at *
  have lp := putL_len t p
  have lr := putL_len t r
  have p1 := tput_vc (q := .sh false (t.map encP)) p hms Sl.sh (by omega)
  have p2 := tput_vc (q := .sh false ((putL t p).map encP)) r (putL_srt hms) Sl.sh (by omega)
  have r1 := tput_vc (q := .sh false (t.map encP)) r hms Sl.sh (by omega)
  have r2 := tput_vc (q := .sh false ((putL t r).map encP)) p (putL_srt hms) Sl.sh (by omega)
  have lpr := putL_len (putL t p) r
  have lrp := putL_len (putL t r) p
  repeat first | refine o_copy ?_ | refine nl ?_ | refine ct_seq ?_ | refine rg ?_ | refine ct_block ?_ | refine bq ?_ | refine cv0 sanity_vc ?_ | refine cv hm ?_ | refine cv0 hxv ?_ | refine cv0 hyv ?_ | refine cv p1 ?_ | refine cv p2 ?_ | refine cv r1 ?_ | refine cv r2 ?_ | refine o_loads ?_ | refine o_loadp ?_ | refine o_faddr ?_ | refine o_bin ?_ | refine o_loadsA ?_ | refine o_loadpA ?_ | refine o_box ?_ | refine o_alloc ?_ | refine o_store ?_ | refine o_pickt ?_ | refine o_pickf ?_ | refine skF ?_ | refine skU ?_
  refine cnd (fun h => ?_) (fun h => ct_skip ?_)
  · have hk : p.key = r.key := by simpa using h
    have e1 := put_put (p := p) (q := r) hms hk
    have e2 := put_put (p := r) (q := p) hms hk.symm
    rw [e1, e2]
    have s1 := same_t (q := .sh false ((putL t r).map encP)) (p := .sh false ((putL t r).map encP)) (l := putL t r) Sl.sh Sl.sh (by omega)
    have s2 := same_t (q := .sh false ((putL t p).map encP)) (p := .sh false ((putL t p).map encP)) (l := putL t p) Sl.sh Sl.sh (by omega)
    repeat first | refine o_copy ?_ | refine nl ?_ | refine ct_seq ?_ | refine rg ?_ | refine ct_block ?_ | refine bq ?_ | refine cv r1 ?_ | refine cv0 s1 ?_ | refine cv p1 ?_ | refine cv0 s2 ?_ | refine o_loads ?_ | refine o_loadp ?_ | refine o_faddr ?_ | refine o_bin ?_ | refine o_loadsA ?_ | refine o_loadpA ?_ | refine o_box ?_ | refine o_alloc ?_ | refine o_store ?_ | refine o_pickt ?_ | refine o_pickf ?_ | refine skF ?_ | refine skU ?_
    exact ct_ret ⟨.inr rfl, oB rfl⟩
  · have hk : p.key ≠ r.key := by simpa using h
    have e1 := put_comm (p := p) (q := r) hms hk
    rw [e1]
    have dl := del_len t p.key
    have s1 := same_t (q := .sh false ((putL (putL t r) p).map encP)) (p := .sh false ((putL (putL t r) p).map encP)) (l := putL (putL t r) p) Sl.sh Sl.sh (by omega)
    have d1 := tdel_vc (q := .sh false ((putL t p).map encP)) p.key (putL_srt hms) Sl.sh (by omega) (by omega)
    have d2 := tdel_vc (q := .sh false (t.map encP)) p.key hms Sl.sh (by omega) (by omega)
    rw [del_put hms] at d1
    have s2 := same_t (q := .sh false ((delL t p.key).map encP)) (p := .sh false ((delL t p.key).map encP)) (l := delL t p.key) Sl.sh Sl.sh (by omega)
    repeat first | refine o_copy ?_ | refine nl ?_ | refine ct_seq ?_ | refine rg ?_ | refine ct_block ?_ | refine bq ?_ | refine cv0 s1 ?_ | refine cv p1 ?_ | refine cv d1 ?_ | refine cv d2 ?_ | refine cv0 s2 ?_ | refine o_loads ?_ | refine o_loadp ?_ | refine o_faddr ?_ | refine o_bin ?_ | refine o_loadsA ?_ | refine o_loadpA ?_ | refine o_box ?_ | refine o_alloc ?_ | refine o_store ?_ | refine o_pickt ?_ | refine o_pickf ?_ | refine skF ?_ | refine skU ?_
    exact ct_ret ⟨.inr rfl, oB rfl⟩
end Go.Proofs
open Go.V Go.Pu
set_option linter.unusedVariables false
namespace Go.Proofs
theorem decR1 {qs : List PV} (hl : qs.length = [CTy.int .u8, .int .u8, .int .u8].length) (hq : ∀ (j : Nat) (c : CTy) (q : PV), [CTy.int .u8, .int .u8, .int .u8][j]? = some c → qs[j]? = some q → InTy c q) : ∃ r : RawL, qs = encR r := by
  obtain ⟨a, b, c, rfl⟩ := list3 hl
  obtain ⟨x, rfl, hx⟩ := in_u8 (hq 0 _ _ rfl rfl)
  obtain ⟨y, rfl, hy⟩ := in_u8 (hq 1 _ _ rfl rfl)
  obtain ⟨z, rfl, hz⟩ := in_u8 (hq 2 _ _ rfl rfl)
  exact ⟨⟨x, y, z, hx, hy, hz⟩, rfl⟩
theorem tableFinds_in (l0 : List (List PV)) (i0 : InTy (.sl [.int .u8, .int .u8, .int .u8]) (.sh false l0)) (q1 : List PV) (n1 : q1.length = [CTy.int .u8, .int .u8, .int .u8].length) (i1 : ∀ (j : Nat) (c : CTy) (q : PV), [CTy.int .u8, .int .u8, .int .u8][j]? = some c → q1[j]? = some q → InTy c q) (n : Int) (hw : (Lit.int .u8 n).wf = true) : VC Try.prog 5 [.sh false l0, .agg q1, .int .u8 n] [] (.bool true) [] := by
  obtain ⟨l, rfl, _⟩ := decR i0
  obtain ⟨x, rfl⟩ := decR1 n1 i1
  obtain ⟨k, hk, h256⟩ := in_u8 (InTy.int .u8 n hw)
  cases hk
  exact finds_law_vc x Sl.sh h256
theorem tableOrders_in (l0 : List (List PV)) (i0 : InTy (.sl [.int .u8, .int .u8, .int .u8]) (.sh false l0)) (q1 : List PV) (n1 : q1.length = [CTy.int .u8, .int .u8, .int .u8].length) (i1 : ∀ (j : Nat) (c : CTy) (q : PV), [CTy.int .u8, .int .u8, .int .u8][j]? = some c → q1[j]? = some q → InTy c q)
    (q2 : List PV) (n2 : q2.length = [CTy.int .u8, .int .u8, .int .u8].length) (i2 : ∀ (j : Nat) (c : CTy) (q : PV), [CTy.int .u8, .int .u8, .int .u8][j]? = some c → q2[j]? = some q → InTy c q) : VC Try.prog 6 [.sh false l0, .agg q1, .agg q2] [] (.bool true) [] := by
  obtain ⟨l, rfl, _⟩ := decR i0
  obtain ⟨x, rfl⟩ := decR1 n1 i1
  obtain ⟨y, rfl⟩ := decR1 n2 i2
  exact orders_law_vc x y Sl.sh
end Go.Proofs
