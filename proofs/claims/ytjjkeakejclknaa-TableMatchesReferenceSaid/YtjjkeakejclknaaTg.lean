/- Tg -/
import Derived.Test.YtjjkeakejclknaaTf
import Derived.Test.YtjjkeakejclknaaTb
open Go.V Go.Pu
set_option linter.unusedVariables false
set_option linter.unusedSimpArgs false
set_option maxRecDepth 20000
namespace Go.Proofs
/-- downspout/downspoutlaw04.TableSpans -/
def vc7 : VCode :=
 (.seq
 (.region 0 false [
 ⟨(some 4), .box (.t 1), none, 0, []⟩,
 ⟨(some 5), .box (.t 2), none, 8, []⟩,
 ⟨(some 6), .copy (.c (.bool false)), none, 16, []⟩])
 (.seq
 (.region 1 false [
 ⟨(some 14), .call (.c (.fn 10 [])) [], none, 8192, []⟩,
 ⟨(some 7), .copy (.t 14), none, 8200, [0]⟩])
 (.seq
 (.region 2 true [
 ⟨(some 15), .copy (.t 0), none, 16384, []⟩,
 ⟨(some 16), .call (.c (.fn 11 [])) [(.t 15)], none, 16392, [0]⟩,
 ⟨(some 17), .load true 2 (.t 4), none, 16400, []⟩,
 ⟨(some 18), .call (.c (.fn 13 [])) [(.t 17)], none, 16408, [2, 1, 0]⟩,
 ⟨(some 19), .load true 2 (.t 5), none, 16416, []⟩,
 ⟨(some 20), .call (.c (.fn 13 [])) [(.t 19)], none, 16424, [4, 3, 2, 1, 0]⟩,
 ⟨(some 9), .alloc [(.str []), (.str [])], none, 16432, []⟩,
 ⟨(some 10), .alloc [(.str []), (.str [])], none, 16440, []⟩,
 ⟨(some 8), .copy (.t 16), none, 16448, [1, 0, 5, 4, 3, 2, 6, 7]⟩,
 ⟨none, .store 2 (.t 9) (.t 18), none, 16456, [6, 3, 2, 1, 0, 8, 5, 4, 7]⟩,
 ⟨none, .store 2 (.t 10) (.t 20), none, 16464, [7, 5, 4, 3, 2, 1, 0, 9, 6, 8]⟩])
 (.seq
 (.region 3 true [
 ⟨(some 21), .copy (.t 8), none, 24576, []⟩,
 ⟨(some 22), .load true 2 (.t 9), none, 24584, []⟩,
 ⟨(some 23), .call (.c (.fn 18 [])) [(.t 21), (.t 22)], none, 24592, [0, 1]⟩,
 ⟨(some 24), .copy (.t 8), none, 24600, []⟩,
 ⟨(some 25), .load true 2 (.t 9), none, 24608, []⟩,
 ⟨(some 26), .call (.c (.fn 20 [])) [(.t 24), (.t 25)], none, 24616, [3, 4, 2, 0, 1]⟩,
 ⟨(some 11), .copy (.t 23), none, 24624, [2, 0, 1, 5, 3, 4]⟩,
 ⟨(some 12), .copy (.t 26), none, 24632, [5, 3, 4, 2, 0, 1, 6]⟩])
 (.seq
 (.seq
 (.region 4 false [
 ⟨(some 27), .copy (.t 11), none, 32768, []⟩,
 ⟨(some 28), .call (.c (.fn 31 [])) [(.t 27)], none, 32776, [0]⟩,
 ⟨(some 29), .not (.t 28), none, 32784, [1, 0]⟩,
 ⟨(some 30), .copy (.t 29), none, 32792, [2, 1, 0]⟩,
 ⟨(some 31), .copy (.t 12), (some (3, 30, false)), 32800, [3, 2, 1, 0]⟩,
 ⟨(some 32), .call (.c (.fn 31 [])) [(.t 31)], (some (3, 30, false)), 32808, [4, 3, 2, 1, 0]⟩,
 ⟨(some 33), .not (.t 32), (some (3, 30, false)), 32816, [5, 4, 3, 2, 1, 0]⟩,
 ⟨(some 34), .pick (.t 30) (.c (.bool true)) (.t 33), none, 32824, [3, 2, 1, 0, 6, 5, 4]⟩,
 ⟨(some 35), .copy (.t 34), none, 32832, [7, 3, 2, 1, 0, 6, 5, 4]⟩,
 ⟨(some 36), .copy (.t 11), (some (8, 35, false)), 32840, [8, 7, 3, 2, 1, 0, 6, 5, 4]⟩,
 ⟨(some 37), .len (.t 36), (some (8, 35, false)), 32848, [9, 8, 7, 3, 2, 1, 0, 6, 5, 4]⟩,
 ⟨(some 38), .copy (.t 12), (some (8, 35, false)), 32856, [8, 7, 3, 2, 1, 0, 6, 5, 4]⟩,
 ⟨(some 39), .len (.t 38), (some (8, 35, false)), 32864, [11, 8, 7, 3, 2, 1, 0, 6, 5, 4]⟩,
 ⟨(some 40), .bin .add (.t 37) (.t 39), (some (8, 35, false)), 32872, [10, 9, 8, 7, 3, 2, 1, 0, 6, 5, 4, 12, 11]⟩,
 ⟨(some 41), .copy (.t 8), (some (8, 35, false)), 32880, [8, 7, 3, 2, 1, 0, 6, 5, 4]⟩,
 ⟨(some 42), .len (.t 41), (some (8, 35, false)), 32888, [14, 8, 7, 3, 2, 1, 0, 6, 5, 4]⟩,
 ⟨(some 43), .bin .neq (.t 40) (.t 42), (some (8, 35, false)), 32896, [13, 10, 9, 8, 7, 3, 2, 1, 0, 6, 5, 4, 12, 11, 15, 14]⟩,
 ⟨(some 44), .pick (.t 35) (.c (.bool true)) (.t 43), none, 32904, [8, 7, 3, 2, 1, 0, 6, 5, 4, 16, 13, 10, 9, 12, 11, 15, 14]⟩,
 ⟨(some 45), .copy (.t 44), none, 32912, [17, 8, 7, 3, 2, 1, 0, 6, 5, 4, 16, 13, 10, 9, 12, 11, 15, 14]⟩,
 ⟨(some 46), .copy (.t 11), (some (18, 45, false)), 32920, [18, 17, 8, 7, 3, 2, 1, 0, 6, 5, 4, 16, 13, 10, 9, 12, 11, 15, 14]⟩,
 ⟨(some 47), .copy (.t 12), (some (18, 45, false)), 32928, [18, 17, 8, 7, 3, 2, 1, 0, 6, 5, 4, 16, 13, 10, 9, 12, 11, 15, 14]⟩,
 ⟨(some 48), .call (.c (.fn 25 [])) [(.t 46), (.t 47)], (some (18, 45, false)), 32936, [19, 18, 17, 8, 7, 3, 2, 1, 0, 6, 5, 4, 16, 13, 10, 9, 12, 11, 15, 14, 20]⟩,
 ⟨(some 49), .copy (.t 8), (some (18, 45, false)), 32944, [18, 17, 8, 7, 3, 2, 1, 0, 6, 5, 4, 16, 13, 10, 9, 12, 11, 15, 14]⟩,
 ⟨(some 50), .call (.c (.fn 17 [])) [(.t 48), (.t 49)], (some (18, 45, false)), 32952, [21, 19, 18, 17, 8, 7, 3, 2, 1, 0, 6, 5, 4, 16, 13, 10, 9, 12, 11, 15, 14, 20, 22]⟩,
 ⟨(some 51), .not (.t 50), (some (18, 45, false)), 32960, [23, 21, 19, 18, 17, 8, 7, 3, 2, 1, 0, 6, 5, 4, 16, 13, 10, 9, 12, 11, 15, 14, 20, 22]⟩,
 ⟨(some 52), .pick (.t 45) (.c (.bool true)) (.t 51), none, 32968, [18, 17, 8, 7, 3, 2, 1, 0, 6, 5, 4, 16, 13, 10, 9, 12, 11, 15, 14, 24, 23, 21, 19, 20, 22]⟩,
 ⟨(some 53), .copy (.t 52), none, 32976, [25, 18, 17, 8, 7, 3, 2, 1, 0, 6, 5, 4, 16, 13, 10, 9, 12, 11, 15, 14, 24, 23, 21, 19, 20, 22]⟩,
 ⟨(some 54), .copy (.t 12), (some (26, 53, false)), 32984, [26, 25, 18, 17, 8, 7, 3, 2, 1, 0, 6, 5, 4, 16, 13, 10, 9, 12, 11, 15, 14, 24, 23, 21, 19, 20, 22]⟩,
 ⟨(some 55), .load true 2 (.t 9), (some (26, 53, false)), 32992, [26, 25, 18, 17, 8, 7, 3, 2, 1, 0, 6, 5, 4, 16, 13, 10, 9, 12, 11, 15, 14, 24, 23, 21, 19, 20, 22]⟩,
 ⟨(some 56), .call (.c (.fn 18 [])) [(.t 54), (.t 55)], (some (26, 53, false)), 33000, [27, 26, 25, 18, 17, 8, 7, 3, 2, 1, 0, 6, 5, 4, 16, 13, 10, 9, 12, 11, 15, 14, 24, 23, 21, 19, 20, 22, 28]⟩,
 ⟨(some 57), .len (.t 56), (some (26, 53, false)), 33008, [29, 27, 26, 25, 18, 17, 8, 7, 3, 2, 1, 0, 6, 5, 4, 16, 13, 10, 9, 12, 11, 15, 14, 24, 23, 21, 19, 20, 22, 28]⟩,
 ⟨(some 58), .bin .gtr (.t 57) (.c (.int .i64 0)), (some (26, 53, false)), 33016, [30, 29, 27, 26, 25, 18, 17, 8, 7, 3, 2, 1, 0, 6, 5, 4, 16, 13, 10, 9, 12, 11, 15, 14, 24, 23, 21, 19, 20, 22, 28]⟩,
 ⟨(some 59), .pick (.t 53) (.c (.bool true)) (.t 58), none, 33024, [26, 25, 18, 17, 8, 7, 3, 2, 1, 0, 6, 5, 4, 16, 13, 10, 9, 12, 11, 15, 14, 24, 23, 21, 19, 20, 22, 31, 30, 29, 27, 28]⟩])
 (.cond (.t 59)
 (.seq
 (.region 5 false [
 ⟨(some 6), .copy (.c (.bool false)), none, 40960, []⟩])
 .ret)
 .skip))
 (.seq
 (.seq
 (.region 6 false [
 ⟨(some 13), .copy (.c (.int .i64 0)), none, 49152, []⟩])
 (.block 0
 (.loop
 (.seq
 (.seq
 (.region 7 false [
 ⟨(some 60), .copy (.t 13), none, 57344, []⟩,
 ⟨(some 61), .copy (.t 11), none, 57352, []⟩,
 ⟨(some 62), .len (.t 61), none, 57360, [1]⟩,
 ⟨(some 63), .bin .lss (.t 60) (.t 62), none, 57368, [0, 2, 1]⟩])
 (.cond (.t 63)
 .skip
 (.exit 0)))
 (.seq
 (.block 1
 (.seq
 (.region 9 true [
 ⟨(some 66), .load true 2 (.t 9), none, 73728, []⟩,
 ⟨(some 67), .copy (.t 11), none, 73736, []⟩,
 ⟨(some 68), .copy (.t 13), none, 73744, []⟩,
 ⟨(some 69), .iaddr 3 (.t 67) (.t 68), none, 73752, [1, 2]⟩,
 ⟨(some 70), .faddr 0 (.t 69), none, 73760, [3, 1, 2]⟩,
 ⟨(some 71), .load false 1 (.t 70), none, 73768, [4, 3, 1, 2]⟩,
 ⟨(some 72), .call (.c (.fn 33 [])) [(.t 66), (.t 71)], none, 73776, [0, 5, 4, 3, 1, 2]⟩,
 ⟨(some 73), .not (.t 72), none, 73784, [6, 0, 5, 4, 3, 1, 2]⟩])
 (.cond (.t 73)
 (.seq
 (.region 10 false [
 ⟨(some 6), .copy (.c (.bool false)), none, 81920, []⟩])
 .ret)
 .skip)))
 (.region 8 false [
 ⟨(some 64), .copy (.t 13), none, 65536, []⟩,
 ⟨(some 65), .bin .add (.t 64) (.c (.int .i64 1)), none, 65544, [0]⟩,
 ⟨(some 13), .copy (.t 65), none, 65552, [1, 0]⟩]))))))
 (.seq
 (.region 11 true [
 ⟨(some 74), .copy (.t 11), none, 90112, []⟩,
 ⟨(some 75), .load true 2 (.t 10), none, 90120, []⟩,
 ⟨(some 76), .call (.c (.fn 18 [])) [(.t 74), (.t 75)], none, 90128, [0, 1]⟩,
 ⟨(some 77), .copy (.t 8), none, 90136, []⟩,
 ⟨(some 78), .load true 2 (.t 10), none, 90144, []⟩,
 ⟨(some 79), .call (.c (.fn 18 [])) [(.t 77), (.t 78)], none, 90152, [3, 4, 2, 0, 1]⟩,
 ⟨(some 80), .load true 2 (.t 9), none, 90160, []⟩,
 ⟨(some 81), .call (.c (.fn 18 [])) [(.t 79), (.t 80)], none, 90168, [5, 3, 4, 2, 0, 1, 6]⟩,
 ⟨(some 82), .call (.c (.fn 17 [])) [(.t 76), (.t 81)], none, 90176, [2, 0, 1, 7, 5, 3, 4, 6]⟩,
 ⟨(some 83), .copy (.t 82), none, 90184, [8, 2, 0, 1, 7, 5, 3, 4, 6]⟩,
 ⟨(some 84), .copy (.t 12), (some (9, 83, true)), 90192, [9, 8, 2, 0, 1, 7, 5, 3, 4, 6]⟩,
 ⟨(some 85), .load true 2 (.t 10), (some (9, 83, true)), 90200, [9, 8, 2, 0, 1, 7, 5, 3, 4, 6]⟩,
 ⟨(some 86), .call (.c (.fn 20 [])) [(.t 84), (.t 85)], (some (9, 83, true)), 90208, [10, 9, 8, 2, 0, 1, 7, 5, 3, 4, 6, 11]⟩,
 ⟨(some 87), .copy (.t 8), (some (9, 83, true)), 90216, [9, 8, 2, 0, 1, 7, 5, 3, 4, 6]⟩,
 ⟨(some 88), .load true 2 (.t 10), (some (9, 83, true)), 90224, [9, 8, 2, 0, 1, 7, 5, 3, 4, 6]⟩,
 ⟨(some 89), .call (.c (.fn 20 [])) [(.t 87), (.t 88)], (some (9, 83, true)), 90232, [13, 9, 8, 2, 0, 1, 7, 5, 3, 4, 6, 14, 12, 10, 11]⟩,
 ⟨(some 90), .load true 2 (.t 9), (some (9, 83, true)), 90240, [9, 8, 2, 0, 1, 7, 5, 3, 4, 6]⟩,
 ⟨(some 91), .call (.c (.fn 20 [])) [(.t 89), (.t 90)], (some (9, 83, true)), 90248, [15, 13, 9, 8, 2, 0, 1, 7, 5, 3, 4, 6, 14, 12, 10, 11, 16]⟩,
 ⟨(some 92), .call (.c (.fn 17 [])) [(.t 86), (.t 91)], (some (9, 83, true)), 90256, [12, 10, 9, 8, 2, 0, 1, 7, 5, 3, 4, 6, 11, 17, 15, 13, 14, 16]⟩,
 ⟨(some 93), .pick (.t 83) (.t 92) (.c (.bool false)), none, 90264, [9, 8, 2, 0, 1, 7, 5, 3, 4, 6, 18, 12, 10, 11, 17, 15, 13, 14, 16]⟩,
 ⟨(some 94), .copy (.t 93), none, 90272, [19, 9, 8, 2, 0, 1, 7, 5, 3, 4, 6, 18, 12, 10, 11, 17, 15, 13, 14, 16]⟩,
 ⟨(some 95), .copy (.t 7), (some (20, 94, true)), 90280, [20, 19, 9, 8, 2, 0, 1, 7, 5, 3, 4, 6, 18, 12, 10, 11, 17, 15, 13, 14, 16]⟩,
 ⟨(some 96), .pick (.t 94) (.t 95) (.c (.bool false)), none, 90288, [20, 19, 9, 8, 2, 0, 1, 7, 5, 3, 4, 6, 18, 12, 10, 11, 17, 15, 13, 14, 16, 21]⟩,
 ⟨(some 6), .copy (.t 96), none, 90296, [22, 20, 19, 9, 8, 2, 0, 1, 7, 5, 3, 4, 6, 18, 12, 10, 11, 17, 15, 13, 14, 16, 21]⟩])
 .ret)))))))
theorem vf7 : VF Try.prog 7 = some (97, vc7, [.tmp 6]) := by kernel_rfl
/-! The law of spans of tables -/
set_option maxHeartbeats 4000000 in
theorem spans_law_vc {q : PV} {l : List RawL} {x y x' y' : Nat} (hq : Sl q (l.map encR)) (hx : x < 256) (hy : y < 256) (hx' : x' < 256) (hy' : y' < 256) : VC Try.prog 7 [q, .agg [.int .u8 x, .int .u8 y], .agg [.int .u8 x', .int .u8 y']] [] (.bool true) [] := by
  refine vc_of vf7 ?_ (Nat.le_of_ble_eq_true rfl) (by intro vs h; cases h)
  have hm := made_vc hq
  have hml := madeL_len l
  have hms := madeL_srt l
  generalize madeL l = t at *
  have p1 := rspan_vc hx hy
  have p2 := rspan_vc hx' hy'
  generalize rspanL x y = s at *
  generalize rspanL x' y' = u at *
  have r1 := range_vc (q := .sh false (t.map encP)) s hms Sl.sh (by omega)
  have d1 := drop_vc (q := .sh false (t.map encP)) s hms Sl.sh (by omega)
  have sr := range_srt hms s
  have sd := drop_srt hms s
  have hrd := range_drop_len t s
  have hru := range_drop_union hms s
  have hor := range_of_drop t s
  have hin : ∀ p ∈ rangeL t s, hasL s p.key = true := fun p hp => (List.mem_filter.1 hp).2
  have e1 := range_range t s u
  have e2 := drop_drop t s u
  generalize hri : rangeL t s = rin at *
  generalize hro : dropL t s = rout at *
  repeat first | refine o_copy ?_ | refine nl ?_ | refine ct_seq ?_ | refine rg ?_ | refine ct_block ?_ | refine bq ?_ | refine cv0 sanity_vc ?_ | refine cv hm ?_ | refine cv0 p1 ?_ | refine cv0 p2 ?_ | refine cf r1 ?_ | refine cv d1 ?_ | refine o_loads ?_ | refine o_loadp ?_ | refine o_faddr ?_ | refine o_iaddr ?_ | refine o_iaddrO ?_ | refine o_iaddrR ?_ | refine o_add ?_ | refine o_cat ?_ | refine o_bin ?_ | refine o_lenq ?_ | refine o_len ?_ | refine o_loadsA ?_ | refine o_loadpA ?_ | refine o_box ?_ | refine o_alloc ?_ | refine o_store ?_ | refine o_not ?_ | refine o_pickt ?_ | refine o_pickf ?_ | refine skF ?_ | refine skU ?_
  have v1 := rvalid_vc (q := .sh false (rin.map encP)) (xs := rin) Sl.sh (by omega)
  have v2 := rvalid_vc (q := .sh false (rout.map encP)) (xs := rout) Sl.sh (by omega)
  rw [sortedL_iff.2 sr] at v1
  rw [sortedL_iff.2 sd] at v2
  have un := union_vc (q := .sh false (rin.map encP)) (p := .sh false (rout.map encP)) (a := rin) (b := rout) Sl.sh Sl.sh (by omega) (by omega)
  rw [hru] at un
  have st := same_t (q := .sh false (t.map encP)) (p := .sh false (t.map encP)) (l := t) Sl.sh Sl.sh (by omega)
  have ro := range_vc (q := .sh false (rout.map encP)) s sd Sl.sh (by omega)
  rw [hor] at ro
  have hmi : (rin.map encP).length = rin.length := List.length_map ..
  have hmo : (rout.map encP).length = rout.length := List.length_map ..
  have hmt : (t.map encP).length = t.length := List.length_map ..
  repeat first | refine o_copy ?_ | refine nl ?_ | refine ct_seq ?_ | refine rg ?_ | refine ct_block ?_ | refine bq ?_ | refine cv0 v1 ?_ | refine cv0 v2 ?_ | refine o_loads ?_ | refine o_loadp ?_ | refine o_faddr ?_ | refine o_iaddr ?_ | refine o_iaddrO ?_ | refine o_iaddrR ?_ | refine o_add ?_ | refine o_cat ?_ | refine o_bin ?_ | refine o_lenq ?_ | refine o_len ?_ | refine o_loadsA ?_ | refine o_loadpA ?_ | refine o_box ?_ | refine o_alloc ?_ | refine o_store ?_ | refine o_not ?_ | refine o_pickt ?_ | refine o_pickf ?_ | refine skF ?_ | refine skU ?_
  refine glook (fun hg => ?_) (fun hg => ?_)
  · exact absurd hg (by rw [hmi, hmo, hmt]; simp; omega)
  repeat first | refine o_copy ?_ | refine nl ?_ | refine ct_seq ?_ | refine rg ?_ | refine ct_block ?_ | refine bq ?_ | refine cv un ?_ | refine cv0 st ?_ | refine cf ro ?_ | refine o_loads ?_ | refine o_loadp ?_ | refine o_faddr ?_ | refine o_iaddr ?_ | refine o_iaddrO ?_ | refine o_iaddrR ?_ | refine o_add ?_ | refine o_cat ?_ | refine o_bin ?_ | refine o_lenq ?_ | refine o_len ?_ | refine o_loadsA ?_ | refine o_loadpA ?_ | refine o_box ?_ | refine o_alloc ?_ | refine o_store ?_ | refine o_not ?_ | refine o_pickt ?_ | refine o_pickf ?_ | refine skF ?_ | refine skU ?_
  refine cndf (ct_skip ?_)
  repeat first | refine o_copy ?_ | refine nl ?_ | refine ct_seq ?_ | refine rg ?_ | refine ct_block ?_ | refine bq ?_ | refine o_loads ?_ | refine o_loadp ?_ | refine o_faddr ?_ | refine o_iaddr ?_ | refine o_iaddrO ?_ | refine o_iaddrR ?_ | refine o_add ?_ | refine o_cat ?_ | refine o_bin ?_ | refine o_lenq ?_ | refine o_len ?_ | refine o_loadsA ?_ | refine o_loadpA ?_ | refine o_box ?_ | refine o_alloc ?_ | refine o_store ?_ | refine o_not ?_ | refine o_pickt ?_ | refine o_pickf ?_ | refine skF ?_ | refine skU ?_
  refine ct_loopG (fun (g : Nat) => [(7, .bool true), (8, ownV ⟨1, 16392⟩ (t.map encP)), (9, .ptr ⟨1, 16432⟩ 1 0 0), (10, .ptr ⟨1, 16440⟩ 1 0 0), (11, .sh false (rin.map encP)), (12, ownV ⟨1, 24616⟩ (rout.map encP)), (13, .int .i64 g)])
    (fun g => [(⟨1, 16392⟩, ⟨false, true, 3, t.map encP⟩), (⟨1, 16432⟩, ⟨true, false, 2, [encS s]⟩), (⟨1, 16440⟩, ⟨true, false, 2, [encS u]⟩), (⟨1, 24616⟩, ⟨false, true, 3, rout.map encP⟩)]) (fun g => rin.length - g)
    (fun g => g ≤ rin.length) 0 goes (Nat.zero_le _) ?_
  intro i hi
  (try dsimp only)
  repeat first | refine o_copy ?_ | refine nl ?_ | refine ct_seq ?_ | refine rg ?_ | refine ct_block ?_ | refine bq ?_ | refine o_loads ?_ | refine o_loadp ?_ | refine o_faddr ?_ | refine o_iaddr ?_ | refine o_iaddrO ?_ | refine o_iaddrR ?_ | refine o_add ?_ | refine o_cat ?_ | refine o_bin ?_ | refine o_lenq ?_ | refine o_len ?_ | refine o_loadsA ?_ | refine o_loadpA ?_ | refine o_box ?_ | refine o_alloc ?_ | refine o_store ?_ | refine o_not ?_ | refine o_pickt ?_ | refine o_pickf ?_ | refine skF ?_ | refine skU ?_
  refine cnd (fun h => ct_skip ?_) (fun h => ct_exit ?_)
  · have hlt : i < rin.length := by have h' := of_decide_eq_true h; omega
    obtain ⟨p, hp⟩ : ∃ x, rin[i]? = some x := ⟨_, List.getElem?_eq_getElem hlt⟩
    have hpe := gm (enc := encP) (n := (i : Int)) hp (by omega)
    have hh := has_vc s p.key
    rw [hin p (List.mem_of_getElem? hp)] at hh
    repeat first | refine o_copy ?_ | refine nl ?_ | refine ct_seq ?_ | refine rg ?_ | refine ct_block ?_ | refine bq ?_ | refine cv0 hh ?_ | refine o_loads ?_ | refine o_loadp ?_ | refine o_faddr ?_ | refine o_iaddr ?_ | refine o_iaddrO ?_ | refine o_iaddrR ?_ | refine o_add ?_ | refine o_cat ?_ | refine o_bin ?_ | refine o_lenq ?_ | refine o_len ?_ | refine o_loadsA ?_ | refine o_loadpA ?_ | refine o_box ?_ | refine o_alloc ?_ | refine o_store ?_ | refine o_not ?_ | refine o_pickt ?_ | refine o_pickf ?_ | refine skF ?_ | refine skU ?_
    refine cndf (ct_skip ?_)
    repeat first | refine o_copy ?_ | refine nl ?_ | refine ct_seq ?_ | refine rg ?_ | refine ct_block ?_ | refine bq ?_ | refine o_loads ?_ | refine o_loadp ?_ | refine o_faddr ?_ | refine o_iaddr ?_ | refine o_iaddrO ?_ | refine o_iaddrR ?_ | refine o_add ?_ | refine o_cat ?_ | refine o_bin ?_ | refine o_lenq ?_ | refine o_len ?_ | refine o_loadsA ?_ | refine o_loadpA ?_ | refine o_box ?_ | refine o_alloc ?_ | refine o_store ?_ | refine o_not ?_ | refine o_pickt ?_ | refine o_pickf ?_ | refine skF ?_ | refine skU ?_
    exact agn (i + 1) (by omega) goes
  have g1 := range_vc (q := .sh false (rin.map encP)) u sr Sl.sh (by omega)
  have g2 := range_vc (q := .sh false (t.map encP)) u hms Sl.sh (by omega)
  have su := range_srt hms u
  have lu : (rangeL t u).length ≤ t.length := List.length_filter_le ..
  have lru : (rangeL rin u).length ≤ rin.length := List.length_filter_le ..
  have g3 := range_vc (q := .sh false ((rangeL t u).map encP)) s su Sl.sh (by omega)
  rw [← e1] at g3
  have k1 := drop_vc (q := .sh false (rout.map encP)) u sd Sl.sh (by omega)
  have k2 := drop_vc (q := .sh false (t.map encP)) u hms Sl.sh (by omega)
  have sdu := drop_srt hms u
  have ldu : (dropL t u).length ≤ t.length := List.length_filter_le ..
  have lro : (dropL rout u).length ≤ rout.length := List.length_filter_le ..
  have k3 := drop_vc (q := .sh false ((dropL t u).map encP)) s sdu Sl.sh (by omega)
  rw [← e2] at k3
  generalize rangeL t u = tu at *
  generalize dropL t u = du at *
  generalize rangeL rin u = ru at *
  generalize dropL rout u = rd at *
  have s1 := same_t (q := .sh false (ru.map encP)) (p := .sh false (ru.map encP)) (l := ru) Sl.sh Sl.sh (by omega)
  have s2 := same_t (q := .sh false (rd.map encP)) (p := .sh false (rd.map encP)) (l := rd) Sl.sh Sl.sh (by omega)
  repeat first | refine o_copy ?_ | refine nl ?_ | refine ct_seq ?_ | refine rg ?_ | refine ct_block ?_ | refine bq ?_ | refine cf g1 ?_ | refine cf g2 ?_ | refine cf g3 ?_ | refine cv0 s1 ?_ | refine cv k1 ?_ | refine cv k2 ?_ | refine cv k3 ?_ | refine cv0 s2 ?_ | refine o_loads ?_ | refine o_loadp ?_ | refine o_faddr ?_ | refine o_iaddr ?_ | refine o_iaddrO ?_ | refine o_iaddrR ?_ | refine o_add ?_ | refine o_cat ?_ | refine o_bin ?_ | refine o_lenq ?_ | refine o_len ?_ | refine o_loadsA ?_ | refine o_loadpA ?_ | refine o_box ?_ | refine o_alloc ?_ | refine o_store ?_ | refine o_not ?_ | refine o_pickt ?_ | refine o_pickf ?_ | refine skF ?_ | refine skU ?_
  exact ct_ret ⟨.inr rfl, oB rfl⟩
end Go.Proofs
open Go.V Go.Pu
set_option linter.unusedVariables false
namespace Go.Proofs
theorem decB2 {qs : List PV} (hl : qs.length = [CTy.int .u8, .int .u8].length) (hq : ∀ (j : Nat) (c : CTy) (q : PV), [CTy.int .u8, .int .u8][j]? = some c → qs[j]? = some q → InTy c q) : ∃ x y : Nat, qs = [.int .u8 x, .int .u8 y] ∧ x < 256 ∧ y < 256 := by
  obtain ⟨a, b, rfl⟩ := list2 hl
  obtain ⟨x, rfl, hx⟩ := in_u8 (hq 0 _ _ rfl rfl)
  obtain ⟨y, rfl, hy⟩ := in_u8 (hq 1 _ _ rfl rfl)
  exact ⟨x, y, rfl, hx, hy⟩
theorem tableSpans_in (l0 : List (List PV)) (i0 : InTy (.sl [.int .u8, .int .u8, .int .u8]) (.sh false l0)) (q1 : List PV) (n1 : q1.length = [CTy.int .u8, .int .u8].length) (i1 : ∀ (j : Nat) (c : CTy) (q : PV), [CTy.int .u8, .int .u8][j]? = some c → q1[j]? = some q → InTy c q) (q2 : List PV) (n2 : q2.length = [CTy.int .u8, .int .u8].length) (i2 : ∀ (j : Nat) (c : CTy) (q : PV), [CTy.int .u8, .int .u8][j]? = some c → q2[j]? = some q → InTy c q) : VC Try.prog 7 [.sh false l0, .agg q1, .agg q2] [] (.bool true) [] := by
  obtain ⟨l, rfl, _⟩ := decR i0
  obtain ⟨x, y, rfl, hx, hy⟩ := decB2 n1 i1
  obtain ⟨x', y', rfl, hx', hy'⟩ := decB2 n2 i2
  exact spans_law_vc Sl.sh hx hy hx' hy'
end Go.Proofs
