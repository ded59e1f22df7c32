/- Sj -/
import Derived.Test.YtloajdobgadplaaSa
import Derived.Test.YtloajdobgadplaaSg
import Derived.Test.YtloajdobgadplaaSh
open Go.V Go.Pu
set_option linter.unusedVariables false
set_option linter.unusedSimpArgs false
set_option maxRecDepth 20000
namespace Go.Proofs
/-- downspout/downspoutlaw02.SpanParts -/
def vc9 : VCode :=
 (.seq
 (.region 0 false [
 ⟨(some 2), .box (.t 0), none, 0, []⟩,
 ⟨(some 4), .copy (.c (.bool false)), none, 8, []⟩])
 (.seq
 (.region 1 false [
 ⟨(some 14), .call (.c (.fn 11 [])) [], none, 8192, []⟩,
 ⟨(some 5), .copy (.t 14), none, 8200, [0]⟩])
 (.seq
 (.seq
 (.region 2 false [
 ⟨(some 15), .load true 2 (.t 2), none, 16384, []⟩,
 ⟨(some 16), .bslice 2 [(.str []), (.str [])] 1 [(0, (.t 15))], none, 16392, [0]⟩,
 ⟨(some 17), .call (.c (.fn 12 [])) [(.t 16), (.c (.int .i64 1))], none, 16400, [1, 0]⟩,
 ⟨(some 18), .not (.t 17), none, 16408, [2, 1, 0]⟩,
 ⟨(some 19), .copy (.t 18), none, 16416, [3, 2, 1, 0]⟩,
 ⟨(some 20), .copy (.t 1), (some (4, 19, false)), 16424, [4, 3, 2, 1, 0]⟩,
 ⟨(some 21), .len (.t 20), (some (4, 19, false)), 16432, [5, 4, 3, 2, 1, 0]⟩,
 ⟨(some 22), .bin .gtr (.t 21) (.c (.int .i64 8)), (some (4, 19, false)), 16440, [6, 5, 4, 3, 2, 1, 0]⟩,
 ⟨(some 23), .pick (.t 19) (.c (.bool true)) (.t 22), none, 16448, [4, 3, 2, 1, 0, 7, 6, 5]⟩])
 (.cond (.t 23)
 (.seq
 (.region 3 false [
 ⟨(some 24), .copy (.t 5), none, 24576, []⟩,
 ⟨(some 4), .copy (.t 24), none, 24584, [0]⟩])
 .ret)
 .skip))
 (.seq
 (.region 4 false [
 ⟨(some 25), .load true 2 (.t 2), none, 32768, []⟩,
 ⟨(some 26), .bslice 2 [(.str []), (.str [])] 1 [(0, (.t 25))], none, 32776, [0]⟩,
 ⟨(some 6), .copy (.t 26), none, 32784, [1, 0]⟩])
 (.seq
 (.seq
 (.region 5 false [
 ⟨(some 7), .copy (.c (.int .i64 0)), none, 40960, []⟩])
 (.block 0
 (.loop
 (.seq
 (.seq
 (.region 6 false [
 ⟨(some 27), .copy (.t 7), none, 49152, []⟩,
 ⟨(some 28), .copy (.t 1), none, 49160, []⟩,
 ⟨(some 29), .len (.t 28), none, 49168, [1]⟩,
 ⟨(some 30), .bin .lss (.t 27) (.t 29), none, 49176, [0, 2, 1]⟩])
 (.cond (.t 30)
 .skip
 (.exit 0)))
 (.seq
 (.block 1
 (.seq
 (.seq
 (.region 8 false [
 ⟨(some 33), .copy (.t 1), none, 65536, []⟩,
 ⟨(some 34), .copy (.t 7), none, 65544, []⟩,
 ⟨(some 35), .iaddr 1 (.t 33) (.t 34), none, 65552, [0, 1]⟩,
 ⟨(some 36), .load false 1 (.t 35), none, 65560, [2, 0, 1]⟩,
 ⟨(some 37), .lenS (.t 36), none, 65568, [3, 2, 0, 1]⟩,
 ⟨(some 38), .bin .gtr (.t 37) (.c (.int .i64 30)), none, 65576, [4, 3, 2, 0, 1]⟩])
 (.cond (.t 38)
 (.seq
 (.region 9 false [
 ⟨(some 39), .copy (.t 5), none, 73728, []⟩,
 ⟨(some 4), .copy (.t 39), none, 73736, [0]⟩])
 .ret)
 .skip))
 (.region 10 true [
 ⟨(some 40), .copy (.t 6), none, 81920, []⟩,
 ⟨(some 41), .copy (.t 1), none, 81928, []⟩,
 ⟨(some 42), .copy (.t 7), none, 81936, []⟩,
 ⟨(some 43), .iaddr 1 (.t 41) (.t 42), none, 81944, [1, 2]⟩,
 ⟨(some 44), .load false 1 (.t 43), none, 81952, [3, 1, 2]⟩,
 ⟨(some 45), .copy (.t 1), none, 81960, []⟩,
 ⟨(some 46), .copy (.t 7), none, 81968, []⟩,
 ⟨(some 47), .iaddr 1 (.t 45) (.t 46), none, 81976, [5, 6]⟩,
 ⟨(some 48), .load false 1 (.t 47), none, 81984, [7, 5, 6]⟩,
 ⟨(some 49), .call (.c (.fn 19 [])) [(.t 44), (.t 48)], none, 81992, [4, 3, 1, 2, 8, 7, 5, 6]⟩,
 ⟨(some 50), .bslice 2 [(.str []), (.str [])] 1 [(0, (.t 49))], none, 82000, [9, 4, 3, 1, 2, 8, 7, 5, 6]⟩,
 ⟨(some 51), .append 2 32 [(.str []), (.str [])] (.t 40) (.t 50), none, 82008, [0, 10, 9, 4, 3, 1, 2, 8, 7, 5, 6]⟩,
 ⟨(some 6), .copy (.t 51), none, 82016, [11, 0, 10, 9, 4, 3, 1, 2, 8, 7, 5, 6]⟩])))
 (.region 7 false [
 ⟨(some 31), .copy (.t 7), none, 57344, []⟩,
 ⟨(some 32), .bin .add (.t 31) (.c (.int .i64 1)), none, 57352, [0]⟩,
 ⟨(some 7), .copy (.t 32), none, 57360, [1, 0]⟩]))))))
 (.seq
 (.region 11 false [
 ⟨(some 52), .copy (.t 1), none, 90112, []⟩,
 ⟨(some 53), .call (.c (.fn 20 [])) [(.t 52)], none, 90120, [0]⟩,
 ⟨(some 8), .copy (.t 53), none, 90128, [1, 0]⟩])
 (.seq
 (.region 12 false [
 ⟨(some 54), .load true 2 (.t 2), none, 98304, []⟩,
 ⟨(some 55), .copy (.t 8), none, 98312, []⟩,
 ⟨(some 56), .call (.c (.fn 30 [])) [(.t 54), (.t 55)], none, 98320, [0, 1]⟩,
 ⟨(some 57), .copy (.t 6), none, 98328, []⟩,
 ⟨(some 58), .call (.c (.fn 36 [])) [(.t 57)], none, 98336, [3, 2, 0, 1]⟩,
 ⟨(some 9), .copy (.t 56), none, 98344, [2, 0, 1, 4, 3]⟩,
 ⟨(some 10), .copy (.t 58), none, 98352, [4, 3, 2, 0, 1, 5]⟩])
 (.seq
 (.seq
 (.region 13 false [
 ⟨(some 59), .copy (.t 9), none, 106496, []⟩,
 ⟨(some 60), .len (.t 59), none, 106504, [0]⟩,
 ⟨(some 61), .copy (.t 8), none, 106512, []⟩,
 ⟨(some 62), .len (.t 61), none, 106520, [2]⟩,
 ⟨(some 63), .bin .add (.t 62) (.c (.int .i64 1)), none, 106528, [3, 2]⟩,
 ⟨(some 64), .bin .neq (.t 60) (.t 63), none, 106536, [1, 0, 4, 3, 2]⟩])
 (.cond (.t 64)
 (.seq
 (.region 14 false [
 ⟨(some 4), .copy (.c (.bool false)), none, 114688, []⟩])
 .ret)
 .skip))
 (.seq
 (.seq
 (.region 15 false [
 ⟨(some 11), .copy (.c (.int .i64 0)), none, 122880, []⟩])
 (.block 2
 (.loop
 (.seq
 (.seq
 (.region 16 false [
 ⟨(some 65), .copy (.t 11), none, 131072, []⟩,
 ⟨(some 66), .copy (.t 10), none, 131080, []⟩,
 ⟨(some 67), .len (.t 66), none, 131088, [1]⟩,
 ⟨(some 68), .bin .lss (.t 65) (.t 67), none, 131096, [0, 2, 1]⟩])
 (.cond (.t 68)
 .skip
 (.exit 2)))
 (.seq
 (.block 3
 (.seq
 (.region 18 false [
 ⟨(some 12), .copy (.c (.int .i64 0)), none, 147456, []⟩])
 (.seq
 (.block 4
 (.loop
 (.seq
 (.seq
 (.region 19 true [
 ⟨(some 71), .copy (.t 12), none, 155648, []⟩,
 ⟨(some 72), .copy (.t 8), none, 155656, []⟩,
 ⟨(some 73), .len (.t 72), none, 155664, [1]⟩,
 ⟨(some 74), .bin .lss (.t 71) (.t 73), none, 155672, [0, 2, 1]⟩,
 ⟨(some 75), .copy (.t 74), none, 155680, [3, 0, 2, 1]⟩,
 ⟨(some 76), .copy (.t 8), (some (4, 75, true)), 155688, [4, 3, 0, 2, 1]⟩,
 ⟨(some 77), .copy (.t 12), (some (4, 75, true)), 155696, [4, 3, 0, 2, 1]⟩,
 ⟨(some 78), .iaddr 1 (.t 76) (.t 77), (some (4, 75, true)), 155704, [5, 4, 3, 0, 2, 1, 6]⟩,
 ⟨(some 79), .load false 1 (.t 78), (some (4, 75, true)), 155712, [7, 5, 4, 3, 0, 2, 1, 6]⟩,
 ⟨(some 80), .copy (.t 10), (some (4, 75, true)), 155720, [4, 3, 0, 2, 1]⟩,
 ⟨(some 81), .copy (.t 11), (some (4, 75, true)), 155728, [4, 3, 0, 2, 1]⟩,
 ⟨(some 82), .iaddr 1 (.t 80) (.t 81), (some (4, 75, true)), 155736, [9, 4, 3, 0, 2, 1, 10]⟩,
 ⟨(some 83), .load false 1 (.t 82), (some (4, 75, true)), 155744, [11, 9, 4, 3, 0, 2, 1, 10]⟩,
 ⟨(some 84), .bin .leq (.t 79) (.t 83), (some (4, 75, true)), 155752, [8, 7, 5, 4, 3, 0, 2, 1, 6, 12, 11, 9, 10]⟩,
 ⟨(some 85), .pick (.t 75) (.t 84) (.c (.bool false)), none, 155760, [4, 3, 0, 2, 1, 13, 8, 7, 5, 6, 12, 11, 9, 10]⟩])
 (.cond (.t 85)
 .skip
 (.exit 4)))
 (.block 5
 (.region 20 false [
 ⟨(some 86), .copy (.t 12), none, 163840, []⟩,
 ⟨(some 87), .bin .add (.t 86) (.c (.int .i64 1)), none, 163848, [0]⟩,
 ⟨(some 12), .copy (.t 87), none, 163856, [1, 0]⟩])))))
 (.seq
 (.region 21 false [
 ⟨(some 13), .copy (.c (.int .i64 0)), none, 172032, []⟩])
 (.block 6
 (.loop
 (.seq
 (.seq
 (.region 22 false [
 ⟨(some 88), .copy (.t 13), none, 180224, []⟩,
 ⟨(some 89), .copy (.t 9), none, 180232, []⟩,
 ⟨(some 90), .len (.t 89), none, 180240, [1]⟩,
 ⟨(some 91), .bin .lss (.t 88) (.t 90), none, 180248, [0, 2, 1]⟩])
 (.cond (.t 91)
 .skip
 (.exit 6)))
 (.seq
 (.block 7
 (.seq
 (.region 24 true [
 ⟨(some 94), .copy (.t 9), none, 196608, []⟩,
 ⟨(some 95), .copy (.t 13), none, 196616, []⟩,
 ⟨(some 96), .iaddr 2 (.t 94) (.t 95), none, 196624, [0, 1]⟩,
 ⟨(some 97), .load true 2 (.t 96), none, 196632, [2, 0, 1]⟩,
 ⟨(some 98), .copy (.t 10), none, 196640, []⟩,
 ⟨(some 99), .copy (.t 11), none, 196648, []⟩,
 ⟨(some 100), .iaddr 1 (.t 98) (.t 99), none, 196656, [4, 5]⟩,
 ⟨(some 101), .load false 1 (.t 100), none, 196664, [6, 4, 5]⟩,
 ⟨(some 102), .call (.c (.fn 21 [])) [(.t 97), (.t 101)], none, 196672, [3, 2, 0, 1, 7, 6, 4, 5]⟩,
 ⟨(some 103), .copy (.t 13), none, 196680, []⟩,
 ⟨(some 104), .copy (.t 12), none, 196688, []⟩,
 ⟨(some 105), .bin .eql (.t 103) (.t 104), none, 196696, [9, 10]⟩,
 ⟨(some 106), .copy (.t 105), none, 196704, [11, 9, 10, 8, 3, 2, 0, 1, 7, 6, 4, 5]⟩,
 ⟨(some 107), .load true 2 (.t 2), (some (12, 106, true)), 196712, [12, 11, 9, 10, 8, 3, 2, 0, 1, 7, 6, 4, 5]⟩,
 ⟨(some 108), .copy (.t 10), (some (12, 106, true)), 196720, [12, 11, 9, 10, 8, 3, 2, 0, 1, 7, 6, 4, 5]⟩,
 ⟨(some 109), .copy (.t 11), (some (12, 106, true)), 196728, [12, 11, 9, 10, 8, 3, 2, 0, 1, 7, 6, 4, 5]⟩,
 ⟨(some 110), .iaddr 1 (.t 108) (.t 109), (some (12, 106, true)), 196736, [14, 12, 11, 9, 10, 8, 3, 2, 0, 1, 7, 6, 4, 5, 15]⟩,
 ⟨(some 111), .load false 1 (.t 110), (some (12, 106, true)), 196744, [16, 14, 12, 11, 9, 10, 8, 3, 2, 0, 1, 7, 6, 4, 5, 15]⟩,
 ⟨(some 112), .call (.c (.fn 21 [])) [(.t 107), (.t 111)], (some (12, 106, true)), 196752, [13, 12, 11, 9, 10, 8, 3, 2, 0, 1, 7, 6, 4, 5, 17, 16, 14, 15]⟩,
 ⟨(some 113), .pick (.t 106) (.t 112) (.c (.bool false)), none, 196760, [12, 11, 9, 10, 8, 3, 2, 0, 1, 7, 6, 4, 5, 18, 13, 17, 16, 14, 15]⟩,
 ⟨(some 114), .eqb true (.t 102) (.t 113), none, 196768, [8, 3, 2, 0, 1, 7, 6, 4, 5, 19, 12, 11, 9, 10, 18, 13, 17, 16, 14, 15]⟩])
 (.cond (.t 114)
 (.seq
 (.region 25 false [
 ⟨(some 4), .copy (.c (.bool false)), none, 204800, []⟩])
 .ret)
 .skip)))
 (.region 23 false [
 ⟨(some 92), .copy (.t 13), none, 188416, []⟩,
 ⟨(some 93), .bin .add (.t 92) (.c (.int .i64 1)), none, 188424, [0]⟩,
 ⟨(some 13), .copy (.t 93), none, 188432, [1, 0]⟩])))))))))
 (.region 17 false [
 ⟨(some 69), .copy (.t 11), none, 139264, []⟩,
 ⟨(some 70), .bin .add (.t 69) (.c (.int .i64 1)), none, 139272, [0]⟩,
 ⟨(some 11), .copy (.t 70), none, 139280, [1, 0]⟩]))))))
 (.seq
 (.region 26 true [
 ⟨(some 115), .copy (.t 9), none, 212992, []⟩,
 ⟨(some 116), .call (.c (.fn 32 [])) [(.t 115)], none, 213000, [0]⟩,
 ⟨(some 117), .load true 2 (.t 2), none, 213008, []⟩,
 ⟨(some 118), .bslice 2 [(.str []), (.str [])] 1 [(0, (.t 117))], none, 213016, [2]⟩,
 ⟨(some 119), .call (.c (.fn 32 [])) [(.t 118)], none, 213024, [3, 2, 1, 0]⟩,
 ⟨(some 120), .call (.c (.fn 29 [])) [(.t 116), (.t 119)], none, 213032, [1, 0, 4, 3, 2]⟩,
 ⟨(some 121), .copy (.t 120), none, 213040, [5, 1, 0, 4, 3, 2]⟩,
 ⟨(some 122), .copy (.t 5), (some (6, 121, true)), 213048, [6, 5, 1, 0, 4, 3, 2]⟩,
 ⟨(some 123), .pick (.t 121) (.t 122) (.c (.bool false)), none, 213056, [6, 5, 1, 0, 4, 3, 2, 7]⟩,
 ⟨(some 4), .copy (.t 123), none, 213064, [8, 6, 5, 1, 0, 4, 3, 2, 7]⟩])
 .ret))))))))))
theorem vf9 : VF Try.prog 9 = some (124, vc9, [.tmp 4]) := by kernel_rfl
/-! The law of Parts -/
set_option maxHeartbeats 2000000 in
theorem parts_law_vc {q : PV} {s : SpanL} {l : List Str} (hq : Sl q (l.map encT)) (hl : l.length ≤ maxLen) : VC Try.prog 9 [.agg (encS s), q] [] (.bool true) [] := by
  refine vc_of vf9 ?_ (Nat.le_of_ble_eq_true rfl) (by intro vs h; cases h)
  have hml : (l.map encT).length = l.length := List.length_map ..
  have hs1 := short_vc (q := .sh false ([s].map encS)) (l := [s]) (n := 1) Sl.sh (Nat.le_of_ble_eq_true rfl)
  repeat first | refine o_copy ?_ | refine nl ?_ | refine ct_seq ?_ | refine rg ?_ | refine ct_block ?_ | refine bq ?_ | refine cv0 sanity_vc ?_ | refine cv0 hs1 ?_ | refine o_loads ?_ | refine o_loadp ?_ | refine o_iaddr ?_ | refine o_iaddrO ?_ | refine o_iaddrR ?_ | refine o_add ?_ | refine o_cat ?_ | refine o_bin ?_ | refine o_lenq ?_ | refine o_len ?_ | refine o_loadsA ?_ | refine o_loadpA ?_ | refine o_box ?_ | refine o_bslice ?_ | refine o_not ?_ | refine o_pickt ?_ | refine o_pickf ?_ | refine o_eqb ?_ | refine o_lenS ?_ | refine skF ?_ | refine skU ?_
  refine glook (fun hg => ?_) (fun hg => ?_)
  · repeat first | refine o_copy ?_ | refine nl ?_ | refine ct_seq ?_ | refine rg ?_ | refine ct_block ?_ | refine bq ?_ | refine o_loads ?_ | refine o_loadp ?_ | refine o_iaddr ?_ | refine o_iaddrO ?_ | refine o_iaddrR ?_ | refine o_add ?_ | refine o_cat ?_ | refine o_bin ?_ | refine o_lenq ?_ | refine o_len ?_ | refine o_loadsA ?_ | refine o_loadpA ?_ | refine o_box ?_ | refine o_bslice ?_ | refine o_not ?_ | refine o_pickt ?_ | refine o_pickf ?_ | refine o_eqb ?_ | refine o_lenS ?_ | refine skF ?_ | refine skU ?_
    refine cndt ?_
    repeat first | refine o_copy ?_ | refine nl ?_ | refine ct_seq ?_ | refine rg ?_ | refine ct_block ?_ | refine bq ?_ | refine o_loads ?_ | refine o_loadp ?_ | refine o_iaddr ?_ | refine o_iaddrO ?_ | refine o_iaddrR ?_ | refine o_add ?_ | refine o_cat ?_ | refine o_bin ?_ | refine o_lenq ?_ | refine o_len ?_ | refine o_loadsA ?_ | refine o_loadpA ?_ | refine o_box ?_ | refine o_bslice ?_ | refine o_not ?_ | refine o_pickt ?_ | refine o_pickf ?_ | refine o_eqb ?_ | refine o_lenS ?_ | refine skF ?_ | refine skU ?_
    exact ct_ret ⟨.inr rfl, oAny rfl⟩
  repeat first | refine o_copy ?_ | refine nl ?_ | refine ct_seq ?_ | refine rg ?_ | refine ct_block ?_ | refine bq ?_ | refine o_loads ?_ | refine o_loadp ?_ | refine o_iaddr ?_ | refine o_iaddrO ?_ | refine o_iaddrR ?_ | refine o_add ?_ | refine o_cat ?_ | refine o_bin ?_ | refine o_lenq ?_ | refine o_len ?_ | refine o_loadsA ?_ | refine o_loadpA ?_ | refine o_box ?_ | refine o_bslice ?_ | refine o_not ?_ | refine o_pickt ?_ | refine o_pickf ?_ | refine o_eqb ?_ | refine o_lenS ?_ | refine skF ?_ | refine skU ?_
  refine cnd (fun h => ?_) (fun h => ct_skip ?_)
  · repeat first | refine o_copy ?_ | refine nl ?_ | refine ct_seq ?_ | refine rg ?_ | refine ct_block ?_ | refine bq ?_ | refine o_loads ?_ | refine o_loadp ?_ | refine o_iaddr ?_ | refine o_iaddrO ?_ | refine o_iaddrR ?_ | refine o_add ?_ | refine o_cat ?_ | refine o_bin ?_ | refine o_lenq ?_ | refine o_len ?_ | refine o_loadsA ?_ | refine o_loadpA ?_ | refine o_box ?_ | refine o_bslice ?_ | refine o_not ?_ | refine o_pickt ?_ | refine o_pickf ?_ | refine o_eqb ?_ | refine o_lenS ?_ | refine skF ?_ | refine skU ?_
    exact ct_ret ⟨.inr rfl, oAny rfl⟩
  have h8 : l.length ≤ 8 := by have h' := of_decide_eq_false h; omega
  obtain ⟨_, hsl⟩ := short_all (l := [s]) (n := 1) (by simpa using hg)
  have hs30 := hsl s (by simp)
  repeat first | refine o_copy ?_ | refine nl ?_ | refine ct_seq ?_ | refine rg ?_ | refine ct_block ?_ | refine bq ?_ | refine o_loads ?_ | refine o_loadp ?_ | refine o_iaddr ?_ | refine o_iaddrO ?_ | refine o_iaddrR ?_ | refine o_add ?_ | refine o_cat ?_ | refine o_bin ?_ | refine o_lenq ?_ | refine o_len ?_ | refine o_loadsA ?_ | refine o_loadpA ?_ | refine o_box ?_ | refine o_bslice ?_ | refine o_not ?_ | refine o_pickt ?_ | refine o_pickf ?_ | refine o_eqb ?_ | refine o_lenS ?_ | refine skF ?_ | refine skU ?_
  refine ct_loopG (fun (g : Nat × List SpanL) => [(1, q), (2, .ptr ⟨1, 0⟩ 1 0 0), (5, .bool true), (6, ownV ⟨1, 32776⟩ (g.2.map encS)), (7, .int .i64 g.1)])
    (fun g => [(⟨1, 0⟩, ⟨true, false, 2, [encS s]⟩), (⟨1, 32776⟩, blkV 2 (g.2.map encS))]) (fun g => l.length - g.1)
    (fun g => g.1 ≤ l.length ∧ g.2.length = g.1 + 1 ∧ ∀ e ∈ g.2, e.lo.length ≤ 30 ∧ e.hi.length ≤ 30) (0, [s]) goes ⟨Nat.zero_le _, rfl, fun e he => by rw [List.mem_singleton.1 he]; exact hs30⟩ ?_
  rintro ⟨i, es⟩ ⟨hi, hel, hes⟩
  dsimp only at hi hel hes ⊢
  repeat first | refine o_copy ?_ | refine nl ?_ | refine ct_seq ?_ | refine rg ?_ | refine ct_block ?_ | refine bq ?_ | refine o_loads ?_ | refine o_loadp ?_ | refine o_iaddr ?_ | refine o_iaddrO ?_ | refine o_iaddrR ?_ | refine o_add ?_ | refine o_cat ?_ | refine o_bin ?_ | refine o_lenq ?_ | refine o_len ?_ | refine o_loadsA ?_ | refine o_loadpA ?_ | refine o_box ?_ | refine o_bslice ?_ | refine o_not ?_ | refine o_pickt ?_ | refine o_pickf ?_ | refine o_eqb ?_ | refine o_lenS ?_ | refine skF ?_ | refine skU ?_
  refine cnd (fun h => ct_skip ?_) (fun h => ct_exit ?_)
  · have hlt : i < l.length := by have h' := of_decide_eq_true h; omega
    obtain ⟨x, hx⟩ : ∃ x, l[i]? = some x := ⟨_, List.getElem?_eq_getElem hlt⟩
    have hxe := gm (enc := encT) (n := (i : Int)) hx (by omega)
    repeat first | refine o_copy ?_ | refine nl ?_ | refine ct_seq ?_ | refine rg ?_ | refine ct_block ?_ | refine bq ?_ | refine o_loads ?_ | refine o_loadp ?_ | refine o_iaddr ?_ | refine o_iaddrO ?_ | refine o_iaddrR ?_ | refine o_add ?_ | refine o_cat ?_ | refine o_bin ?_ | refine o_lenq ?_ | refine o_len ?_ | refine o_loadsA ?_ | refine o_loadpA ?_ | refine o_box ?_ | refine o_bslice ?_ | refine o_not ?_ | refine o_pickt ?_ | refine o_pickf ?_ | refine o_eqb ?_ | refine o_lenS ?_ | refine skF ?_ | refine skU ?_
    refine cnd (fun h => ?_) (fun h => ct_skip ?_)
    · repeat first | refine o_copy ?_ | refine nl ?_ | refine ct_seq ?_ | refine rg ?_ | refine ct_block ?_ | refine bq ?_ | refine o_loads ?_ | refine o_loadp ?_ | refine o_iaddr ?_ | refine o_iaddrO ?_ | refine o_iaddrR ?_ | refine o_add ?_ | refine o_cat ?_ | refine o_bin ?_ | refine o_lenq ?_ | refine o_len ?_ | refine o_loadsA ?_ | refine o_loadpA ?_ | refine o_box ?_ | refine o_bslice ?_ | refine o_not ?_ | refine o_pickt ?_ | refine o_pickf ?_ | refine o_eqb ?_ | refine o_lenS ?_ | refine skF ?_ | refine skU ?_
      exact ct_ret ⟨.inr rfl, oAny rfl⟩
    have hx30 : x.length ≤ 30 := by have h' := of_decide_eq_false h; omega
    repeat first | refine o_copy ?_ | refine nl ?_ | refine ct_seq ?_ | refine rg ?_ | refine ct_block ?_ | refine bq ?_ | refine cv0 (sp_vc x x) ?_ | refine o_v (vap encS (⟨x, x⟩ : SpanL)) ?_ | refine o_loads ?_ | refine o_loadp ?_ | refine o_iaddr ?_ | refine o_iaddrO ?_ | refine o_iaddrR ?_ | refine o_add ?_ | refine o_cat ?_ | refine o_bin ?_ | refine o_lenq ?_ | refine o_len ?_ | refine o_loadsA ?_ | refine o_loadpA ?_ | refine o_box ?_ | refine o_bslice ?_ | refine o_not ?_ | refine o_pickt ?_ | refine o_pickf ?_ | refine o_eqb ?_ | refine o_lenS ?_ | refine skF ?_ | refine skU ?_
    refine agn (i + 1, es ++ [⟨x, x⟩]) ⟨by simp only; omega, by simp only [List.length_append, List.length_cons, List.length_nil]; omega, ?_⟩ goes
    intro e he
    rcases List.mem_append.1 he with he | he
    · exact hes e he
    · rw [List.mem_singleton.1 he]; exact ⟨hx30, hx30⟩
  have hpl := pivL_len l
  have hpa := pivL_asc l
  have h1 := pivots_vc hq (by omega)
  generalize pivL l = pv at *
  have h2 := parts_vc (q := .sh false (pv.map encT)) s (l := pv) Sl.sh (by omega)
  have h3 := near_vc (q := .sh false (es.map encS)) (l := es) Sl.sh (by omega) (fun e he => by have := hes e he; omega)
  have hkl := nearL_len es
  generalize nearL es = ks at *
  have hpt := partsL_len s [] pv
  have hph := fun key k t => parts_has s key pv [] k t hpa (fun p _ => ble_nil p)
  have hpn := parts_norm s pv hpa
  generalize partsL s [] pv = pt at *
  have hmp : (pv.map encT).length = pv.length := List.length_map ..
  have hmt : (pt.map encS).length = pt.length := List.length_map ..
  have hmk : (ks.map encT).length = ks.length := List.length_map ..
  repeat first | refine o_copy ?_ | refine nl ?_ | refine ct_seq ?_ | refine rg ?_ | refine ct_block ?_ | refine bq ?_ | refine cv h1 ?_ | refine cv h2 ?_ | refine cv h3 ?_ | refine o_loads ?_ | refine o_loadp ?_ | refine o_iaddr ?_ | refine o_iaddrO ?_ | refine o_iaddrR ?_ | refine o_add ?_ | refine o_cat ?_ | refine o_bin ?_ | refine o_lenq ?_ | refine o_len ?_ | refine o_loadsA ?_ | refine o_loadpA ?_ | refine o_box ?_ | refine o_bslice ?_ | refine o_not ?_ | refine o_pickt ?_ | refine o_pickf ?_ | refine o_eqb ?_ | refine o_lenS ?_ | refine skF ?_ | refine skU ?_
  refine cndf (ct_skip ?_) rfl (by simp only [hmt, hmp, hpt]; simp)
  repeat first | refine o_copy ?_ | refine nl ?_ | refine ct_seq ?_ | refine rg ?_ | refine ct_block ?_ | refine bq ?_ | refine o_loads ?_ | refine o_loadp ?_ | refine o_iaddr ?_ | refine o_iaddrO ?_ | refine o_iaddrR ?_ | refine o_add ?_ | refine o_cat ?_ | refine o_bin ?_ | refine o_lenq ?_ | refine o_len ?_ | refine o_loadsA ?_ | refine o_loadpA ?_ | refine o_box ?_ | refine o_bslice ?_ | refine o_not ?_ | refine o_pickt ?_ | refine o_pickf ?_ | refine o_eqb ?_ | refine o_lenS ?_ | refine skF ?_ | refine skU ?_
  refine ct_loopG (fun (g : Nat) => [(2, .ptr ⟨1, 0⟩ 1 0 0), (5, .bool true), (8, ownV ⟨1, 90120⟩ (pv.map encT)), (9, ownV ⟨1, 98320⟩ (pt.map encS)), (10, ownV ⟨1, 98336⟩ (ks.map encT)), (11, .int .i64 g)])
    (fun g => [(⟨1, 0⟩, ⟨true, false, 2, [encS s]⟩), (⟨1, 90120⟩, blkV 1 (pv.map encT)), (⟨1, 98320⟩, blkV 2 (pt.map encS)), (⟨1, 98336⟩, blkV 1 (ks.map encT))]) (fun g => ks.length - g)
    (fun g => g ≤ ks.length) 0 goes (Nat.zero_le _) ?_
  intro i hi
  (try dsimp only)
  repeat first | refine o_copy ?_ | refine nl ?_ | refine ct_seq ?_ | refine rg ?_ | refine ct_block ?_ | refine bq ?_ | refine o_loads ?_ | refine o_loadp ?_ | refine o_iaddr ?_ | refine o_iaddrO ?_ | refine o_iaddrR ?_ | refine o_add ?_ | refine o_cat ?_ | refine o_bin ?_ | refine o_lenq ?_ | refine o_len ?_ | refine o_loadsA ?_ | refine o_loadpA ?_ | refine o_box ?_ | refine o_bslice ?_ | refine o_not ?_ | refine o_pickt ?_ | refine o_pickf ?_ | refine o_eqb ?_ | refine o_lenS ?_ | refine skF ?_ | refine skU ?_
  refine cnd (fun h => ct_skip ?_) (fun h => ct_exit ?_)
  · have hlt : i < ks.length := by have h' := of_decide_eq_true h; omega
    obtain ⟨key, hk⟩ : ∃ x, ks[i]? = some x := ⟨_, List.getElem?_eq_getElem hlt⟩
    have hke := gm (enc := encT) (n := (i : Int)) hk (by omega)
    have hal := atL_le key pv
    have hag := atL_get key pv
    have hph := hph key
    generalize hat : atL key pv = a at *
    refine ct_seq (ct_block (ct_seq (rg ?_)))
    repeat first | refine o_copy ?_ | refine o_loads ?_ | refine o_loadp ?_ | refine o_iaddr ?_ | refine o_iaddrO ?_ | refine o_iaddrR ?_ | refine o_add ?_ | refine o_cat ?_ | refine o_bin ?_ | refine o_lenq ?_ | refine o_len ?_ | refine o_loadsA ?_ | refine o_loadpA ?_ | refine o_box ?_ | refine o_bslice ?_ | refine o_not ?_ | refine o_pickt ?_ | refine o_pickf ?_ | refine o_eqb ?_ | refine o_lenS ?_ | refine skF ?_ | refine skU ?_
    refine nl ?_
    refine ct_mid (lvl := 1) (fun (g : Unit) => [(2, .ptr ⟨1, 0⟩ 1 0 0), (5, .bool true), (8, ownV ⟨1, 90120⟩ (pv.map encT)), (9, ownV ⟨1, 98320⟩ (pt.map encS)), (10, ownV ⟨1, 98336⟩ (ks.map encT)), (11, .int .i64 i), (12, .int .i64 a)])
      (fun g => [(⟨1, 0⟩, ⟨true, false, 2, [encS s]⟩), (⟨1, 90120⟩, blkV 1 (pv.map encT)), (⟨1, 98320⟩, blkV 2 (pt.map encS)), (⟨1, 98336⟩, blkV 1 (ks.map encT))]) (fun _ => True) (ct_block ?_) ?_
    · refine ct_loopG (fun (g : Nat) => [(2, .ptr ⟨1, 0⟩ 1 0 0), (5, .bool true), (8, ownV ⟨1, 90120⟩ (pv.map encT)), (9, ownV ⟨1, 98320⟩ (pt.map encS)), (10, ownV ⟨1, 98336⟩ (ks.map encT)), (11, .int .i64 i), (12, .int .i64 g)])
        (fun g => [(⟨1, 0⟩, ⟨true, false, 2, [encS s]⟩), (⟨1, 90120⟩, blkV 1 (pv.map encT)), (⟨1, 98320⟩, blkV 2 (pt.map encS)), (⟨1, 98336⟩, blkV 1 (ks.map encT))]) (fun g => pv.length - g)
        (fun g => g ≤ a) 0 goes (Nat.zero_le _) ?_
      intro j hj
      (try dsimp only)
      repeat first | refine o_copy ?_ | refine nl ?_ | refine ct_seq ?_ | refine rg ?_ | refine ct_block ?_ | refine bq ?_ | refine o_loads ?_ | refine o_loadp ?_ | refine o_iaddr ?_ | refine o_iaddrO ?_ | refine o_iaddrR ?_ | refine o_add ?_ | refine o_cat ?_ | refine o_bin ?_ | refine o_lenq ?_ | refine o_len ?_ | refine o_loadsA ?_ | refine o_loadpA ?_ | refine o_box ?_ | refine o_bslice ?_ | refine o_not ?_ | refine o_pickt ?_ | refine o_pickf ?_ | refine o_eqb ?_ | refine o_lenS ?_ | refine skF ?_ | refine skU ?_
      refine glook (fun hg => ?_) (fun hg => ?_)
      · have hjl : j < pv.length := by have h' := of_decide_eq_true hg; omega
        obtain ⟨p, hp⟩ : ∃ x, pv[j]? = some x := ⟨_, List.getElem?_eq_getElem hjl⟩
        have hpe := gm (enc := encT) (n := (j : Int)) hp (by omega)
        have hbl := hag j p hp hj
        repeat first | refine o_copy ?_ | refine nl ?_ | refine ct_seq ?_ | refine rg ?_ | refine ct_block ?_ | refine bq ?_ | refine o_loads ?_ | refine o_loadp ?_ | refine o_iaddr ?_ | refine o_iaddrO ?_ | refine o_iaddrR ?_ | refine o_add ?_ | refine o_cat ?_ | refine o_bin ?_ | refine o_lenq ?_ | refine o_len ?_ | refine o_loadsA ?_ | refine o_loadpA ?_ | refine o_box ?_ | refine o_bslice ?_ | refine o_not ?_ | refine o_pickt ?_ | refine o_pickf ?_ | refine o_eqb ?_ | refine o_lenS ?_ | refine skF ?_ | refine skU ?_
        refine cnd (fun h2 => ct_skip ?_) (fun h2 => ct_exit ?_)
        · have hb : ble p key = true := ble_iff.2 (by simpa using h2)
          repeat first | refine o_copy ?_ | refine nl ?_ | refine ct_seq ?_ | refine rg ?_ | refine ct_block ?_ | refine bq ?_ | refine o_loads ?_ | refine o_loadp ?_ | refine o_iaddr ?_ | refine o_iaddrO ?_ | refine o_iaddrR ?_ | refine o_add ?_ | refine o_cat ?_ | refine o_bin ?_ | refine o_lenq ?_ | refine o_len ?_ | refine o_loadsA ?_ | refine o_loadpA ?_ | refine o_box ?_ | refine o_bslice ?_ | refine o_not ?_ | refine o_pickt ?_ | refine o_pickf ?_ | refine o_eqb ?_ | refine o_lenS ?_ | refine skF ?_ | refine skU ?_
          exact agn (j + 1) (by have := hbl.1 hb; omega) goes
        · have hb : ¬ ble p key = true := fun hb => by
            have := ble_iff.1 hb
            simp only [Bool.or_eq_false_iff, beq_eq_false_iff_ne] at h2
            rcases this with h5 | h5
            · rw [h2.1] at h5; cases h5
            · exact h2.2 h5
          have : j = a := by have := mt hbl.2 hb; omega
          subst this
          exact ⟨(), trivial, goes⟩
      · have hjl : pv.length ≤ j := by have h' := of_decide_eq_false hg; omega
        have : j = a := by omega
        subst this
        repeat first | refine o_copy ?_ | refine nl ?_ | refine ct_seq ?_ | refine rg ?_ | refine ct_block ?_ | refine bq ?_ | refine o_loads ?_ | refine o_loadp ?_ | refine o_iaddr ?_ | refine o_iaddrO ?_ | refine o_iaddrR ?_ | refine o_add ?_ | refine o_cat ?_ | refine o_bin ?_ | refine o_lenq ?_ | refine o_len ?_ | refine o_loadsA ?_ | refine o_loadpA ?_ | refine o_box ?_ | refine o_bslice ?_ | refine o_not ?_ | refine o_pickt ?_ | refine o_pickf ?_ | refine o_eqb ?_ | refine o_lenS ?_ | refine skF ?_ | refine skU ?_
        refine cndf (ct_exit ?_)
        exact ⟨(), trivial, goes⟩
    rintro ⟨⟩ -
    (try dsimp only)
    repeat first | refine o_copy ?_ | refine nl ?_ | refine ct_seq ?_ | refine rg ?_ | refine ct_block ?_ | refine bq ?_ | refine o_loads ?_ | refine o_loadp ?_ | refine o_iaddr ?_ | refine o_iaddrO ?_ | refine o_iaddrR ?_ | refine o_add ?_ | refine o_cat ?_ | refine o_bin ?_ | refine o_lenq ?_ | refine o_len ?_ | refine o_loadsA ?_ | refine o_loadpA ?_ | refine o_box ?_ | refine o_bslice ?_ | refine o_not ?_ | refine o_pickt ?_ | refine o_pickf ?_ | refine o_eqb ?_ | refine o_lenS ?_ | refine skF ?_ | refine skU ?_
    refine ct_loopG (fun (g : Nat) => [(2, .ptr ⟨1, 0⟩ 1 0 0), (5, .bool true), (8, ownV ⟨1, 90120⟩ (pv.map encT)), (9, ownV ⟨1, 98320⟩ (pt.map encS)), (10, ownV ⟨1, 98336⟩ (ks.map encT)), (11, .int .i64 i), (12, .int .i64 a), (13, .int .i64 g)])
      (fun g => [(⟨1, 0⟩, ⟨true, false, 2, [encS s]⟩), (⟨1, 90120⟩, blkV 1 (pv.map encT)), (⟨1, 98320⟩, blkV 2 (pt.map encS)), (⟨1, 98336⟩, blkV 1 (ks.map encT))]) (fun g => pt.length - g)
      (fun g => g ≤ pt.length) 0 goes (Nat.zero_le _) ?_
    intro j hj
    (try dsimp only)
    repeat first | refine o_copy ?_ | refine nl ?_ | refine ct_seq ?_ | refine rg ?_ | refine ct_block ?_ | refine bq ?_ | refine o_loads ?_ | refine o_loadp ?_ | refine o_iaddr ?_ | refine o_iaddrO ?_ | refine o_iaddrR ?_ | refine o_add ?_ | refine o_cat ?_ | refine o_bin ?_ | refine o_lenq ?_ | refine o_len ?_ | refine o_loadsA ?_ | refine o_loadpA ?_ | refine o_box ?_ | refine o_bslice ?_ | refine o_not ?_ | refine o_pickt ?_ | refine o_pickf ?_ | refine o_eqb ?_ | refine o_lenS ?_ | refine skF ?_ | refine skU ?_
    refine cnd (fun h => ct_skip ?_) (fun h => ct_exit ?_)
    · have hjl : j < pt.length := by have h' := of_decide_eq_true h; omega
      obtain ⟨t, ht⟩ : ∃ x, pt[j]? = some x := ⟨_, List.getElem?_eq_getElem hjl⟩
      have hte := gm (enc := encS) (n := (j : Int)) ht (by omega)
      have hth := hph j t ht
      rw [ble_nil, Bool.true_and] at hth
      repeat first | refine o_copy ?_ | refine nl ?_ | refine ct_seq ?_ | refine rg ?_ | refine ct_block ?_ | refine bq ?_ | refine cv0 (has_vc t key) ?_ | refine cv0 (has_vc s key) ?_ | refine o_loads ?_ | refine o_loadp ?_ | refine o_iaddr ?_ | refine o_iaddrO ?_ | refine o_iaddrR ?_ | refine o_add ?_ | refine o_cat ?_ | refine o_bin ?_ | refine o_lenq ?_ | refine o_len ?_ | refine o_loadsA ?_ | refine o_loadpA ?_ | refine o_box ?_ | refine o_bslice ?_ | refine o_not ?_ | refine o_pickt ?_ | refine o_pickf ?_ | refine o_eqb ?_ | refine o_lenS ?_ | refine skF ?_ | refine skU ?_
      refine glook (fun hg => ?_) (fun hg => ?_)
      · have hja : j = a := by have h' := of_decide_eq_true hg; omega
        rw [show decide (j = a) = true from decide_eq_true hja, Bool.true_and] at hth
        repeat first | refine o_copy ?_ | refine nl ?_ | refine ct_seq ?_ | refine rg ?_ | refine ct_block ?_ | refine bq ?_ | refine cv0 (has_vc t key) ?_ | refine cv0 (has_vc s key) ?_ | refine o_loads ?_ | refine o_loadp ?_ | refine o_iaddr ?_ | refine o_iaddrO ?_ | refine o_iaddrR ?_ | refine o_add ?_ | refine o_cat ?_ | refine o_bin ?_ | refine o_lenq ?_ | refine o_len ?_ | refine o_loadsA ?_ | refine o_loadpA ?_ | refine o_box ?_ | refine o_bslice ?_ | refine o_not ?_ | refine o_pickt ?_ | refine o_pickf ?_ | refine o_eqb ?_ | refine o_lenS ?_ | refine skF ?_ | refine skU ?_
        refine cndf (ct_skip ?_) rfl (by simp [hth])
        repeat first | refine o_copy ?_ | refine nl ?_ | refine ct_seq ?_ | refine rg ?_ | refine ct_block ?_ | refine bq ?_ | refine o_loads ?_ | refine o_loadp ?_ | refine o_iaddr ?_ | refine o_iaddrO ?_ | refine o_iaddrR ?_ | refine o_add ?_ | refine o_cat ?_ | refine o_bin ?_ | refine o_lenq ?_ | refine o_len ?_ | refine o_loadsA ?_ | refine o_loadpA ?_ | refine o_box ?_ | refine o_bslice ?_ | refine o_not ?_ | refine o_pickt ?_ | refine o_pickf ?_ | refine o_eqb ?_ | refine o_lenS ?_ | refine skF ?_ | refine skU ?_
        exact agn (j + 1) (by omega) goes
      · have hja : j ≠ a := by have h' := of_decide_eq_false hg; omega
        rw [show decide (j = a) = false from decide_eq_false hja, Bool.false_and] at hth
        repeat first | refine o_copy ?_ | refine nl ?_ | refine ct_seq ?_ | refine rg ?_ | refine ct_block ?_ | refine bq ?_ | refine cv0 (has_vc t key) ?_ | refine cv0 (has_vc s key) ?_ | refine o_loads ?_ | refine o_loadp ?_ | refine o_iaddr ?_ | refine o_iaddrO ?_ | refine o_iaddrR ?_ | refine o_add ?_ | refine o_cat ?_ | refine o_bin ?_ | refine o_lenq ?_ | refine o_len ?_ | refine o_loadsA ?_ | refine o_loadpA ?_ | refine o_box ?_ | refine o_bslice ?_ | refine o_not ?_ | refine o_pickt ?_ | refine o_pickf ?_ | refine o_eqb ?_ | refine o_lenS ?_ | refine skF ?_ | refine skU ?_
        refine cndf (ct_skip ?_) rfl (by simp [hth])
        repeat first | refine o_copy ?_ | refine nl ?_ | refine ct_seq ?_ | refine rg ?_ | refine ct_block ?_ | refine bq ?_ | refine o_loads ?_ | refine o_loadp ?_ | refine o_iaddr ?_ | refine o_iaddrO ?_ | refine o_iaddrR ?_ | refine o_add ?_ | refine o_cat ?_ | refine o_bin ?_ | refine o_lenq ?_ | refine o_len ?_ | refine o_loadsA ?_ | refine o_loadpA ?_ | refine o_box ?_ | refine o_bslice ?_ | refine o_not ?_ | refine o_pickt ?_ | refine o_pickf ?_ | refine o_eqb ?_ | refine o_lenS ?_ | refine skF ?_ | refine skU ?_
        exact agn (j + 1) (by omega) goes
    repeat first | refine o_copy ?_ | refine nl ?_ | refine ct_seq ?_ | refine rg ?_ | refine ct_block ?_ | refine bq ?_ | refine o_loads ?_ | refine o_loadp ?_ | refine o_iaddr ?_ | refine o_iaddrO ?_ | refine o_iaddrR ?_ | refine o_add ?_ | refine o_cat ?_ | refine o_bin ?_ | refine o_lenq ?_ | refine o_len ?_ | refine o_loadsA ?_ | refine o_loadpA ?_ | refine o_box ?_ | refine o_bslice ?_ | refine o_not ?_ | refine o_pickt ?_ | refine o_pickf ?_ | refine o_eqb ?_ | refine o_lenS ?_ | refine skF ?_ | refine skU ?_
    exact agn (i + 1) (by omega) goes
  have hn1 := norm_vc (q := .sh false (pt.map encS)) (xs := pt) Sl.sh (by omega)
  have hn2 := norm_vc (q := .sh false ([s].map encS)) (xs := [s]) Sl.sh (by simp)
  rw [hpn] at hn1
  have hrl := rnorm_len [s]
  generalize rnormL [s] = out at *
  have hsm := same_vc (q := .sh false (out.map encS)) (p := .sh false (out.map encS)) (l := out) (m := out) Sl.sh Sl.sh (by unfold maxLen; simp only [List.length_cons, List.length_nil] at hrl; omega) (by unfold maxLen; simp only [List.length_cons, List.length_nil] at hrl; omega)
  rw [show decide (out = out) = true from decide_eq_true rfl] at hsm
  repeat first | refine o_copy ?_ | refine nl ?_ | refine ct_seq ?_ | refine rg ?_ | refine ct_block ?_ | refine bq ?_ | refine cv hn1 ?_ | refine cv hn2 ?_ | refine cv0 hsm ?_ | refine o_loads ?_ | refine o_loadp ?_ | refine o_iaddr ?_ | refine o_iaddrO ?_ | refine o_iaddrR ?_ | refine o_add ?_ | refine o_cat ?_ | refine o_bin ?_ | refine o_lenq ?_ | refine o_len ?_ | refine o_loadsA ?_ | refine o_loadpA ?_ | refine o_box ?_ | refine o_bslice ?_ | refine o_not ?_ | refine o_pickt ?_ | refine o_pickf ?_ | refine o_eqb ?_ | refine o_lenS ?_ | refine skF ?_ | refine skU ?_
  exact ct_ret ⟨.inr rfl, oB rfl⟩
theorem spanParts_in (q1 : List PV) (l1 : q1.length = [CTy.str, .str].length) (i1 : ∀ (j : Nat) (c : CTy) (q : PV), [CTy.str, .str][j]? = some c → q1[j]? = some q → InTy c q) (l0 : List (List PV)) (i0 : InTy (.sl [.str]) (.sh false l0)) : VC Try.prog 9 [.agg q1, .sh false l0] [] (.bool true) [] := by
  obtain ⟨a, b, rfl, _⟩ := dec2s l1 i1
  obtain ⟨l, rfl, hl⟩ := decT i0
  exact parts_law_vc (s := ⟨a, b⟩) Sl.sh hl
end Go.Proofs
