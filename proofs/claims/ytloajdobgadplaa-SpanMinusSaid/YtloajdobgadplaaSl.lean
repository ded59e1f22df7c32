/- Sl -/
import Derived.Test.YtloajdobgadplaaSa
import Derived.Test.YtloajdobgadplaaSk
open Go.V Go.Pu
set_option linter.unusedVariables false
set_option linter.unusedSimpArgs false
set_option maxRecDepth 20000
namespace Go.Proofs
/-- downspout/downspoutlaw02.SpanMinus -/
def vc8 : VCode :=
 (.seq
 (.region 0 false [
 ⟨(some 4), .copy (.c (.bool false)), none, 0, []⟩])
 (.seq
 (.region 1 false [
 ⟨(some 11), .call (.c (.fn 11 [])) [], none, 8192, []⟩,
 ⟨(some 5), .copy (.t 11), none, 8200, [0]⟩])
 (.seq
 (.seq
 (.region 2 false [
 ⟨(some 12), .copy (.t 0), none, 16384, []⟩,
 ⟨(some 13), .call (.c (.fn 12 [])) [(.t 12), (.c (.int .i64 8))], none, 16392, [0]⟩,
 ⟨(some 14), .not (.t 13), none, 16400, [1, 0]⟩,
 ⟨(some 15), .copy (.t 14), none, 16408, [2, 1, 0]⟩,
 ⟨(some 16), .copy (.t 1), (some (3, 15, false)), 16416, [3, 2, 1, 0]⟩,
 ⟨(some 17), .call (.c (.fn 12 [])) [(.t 16), (.c (.int .i64 8))], (some (3, 15, false)), 16424, [4, 3, 2, 1, 0]⟩,
 ⟨(some 18), .not (.t 17), (some (3, 15, false)), 16432, [5, 4, 3, 2, 1, 0]⟩,
 ⟨(some 19), .pick (.t 15) (.c (.bool true)) (.t 18), none, 16440, [3, 2, 1, 0, 6, 5, 4]⟩])
 (.cond (.t 19)
 (.seq
 (.region 3 false [
 ⟨(some 20), .copy (.t 5), none, 24576, []⟩,
 ⟨(some 4), .copy (.t 20), none, 24584, [0]⟩])
 .ret)
 .skip))
 (.seq
 (.region 4 false [
 ⟨(some 21), .copy (.t 0), none, 32768, []⟩,
 ⟨(some 22), .copy (.t 1), none, 32776, []⟩,
 ⟨(some 23), .call (.c (.fn 34 [])) [(.t 21), (.t 22)], none, 32784, [0, 1]⟩,
 ⟨(some 6), .copy (.t 23), none, 32792, [2, 0, 1]⟩])
 (.seq
 (.region 5 false [
 ⟨(some 24), .copy (.t 0), none, 40960, []⟩,
 ⟨(some 25), .call (.c (.fn 36 [])) [(.t 24)], none, 40968, [0]⟩,
 ⟨(some 26), .copy (.t 1), none, 40976, []⟩,
 ⟨(some 27), .call (.c (.fn 36 [])) [(.t 26)], none, 40984, [2, 1, 0]⟩,
 ⟨(some 28), .append 1 16 [(.str [])] (.t 25) (.t 27), none, 40992, [1, 0, 3, 2]⟩,
 ⟨(some 7), .copy (.t 28), none, 41000, [4, 1, 0, 3, 2]⟩])
 (.seq
 (.seq
 (.region 6 false [
 ⟨(some 8), .copy (.c (.int .i64 0)), none, 49152, []⟩])
 (.block 0
 (.loop
 (.seq
 (.seq
 (.region 7 false [
 ⟨(some 29), .copy (.t 8), none, 57344, []⟩,
 ⟨(some 30), .copy (.t 7), none, 57352, []⟩,
 ⟨(some 31), .len (.t 30), none, 57360, [1]⟩,
 ⟨(some 32), .bin .lss (.t 29) (.t 31), none, 57368, [0, 2, 1]⟩])
 (.cond (.t 32)
 .skip
 (.exit 0)))
 (.seq
 (.block 1
 (.seq
 (.region 9 true [
 ⟨(some 35), .copy (.t 6), none, 73728, []⟩,
 ⟨(some 36), .copy (.t 7), none, 73736, []⟩,
 ⟨(some 37), .copy (.t 8), none, 73744, []⟩,
 ⟨(some 38), .iaddr 1 (.t 36) (.t 37), none, 73752, [1, 2]⟩,
 ⟨(some 39), .load false 1 (.t 38), none, 73760, [3, 1, 2]⟩,
 ⟨(some 40), .call (.c (.fn 38 [])) [(.t 35), (.t 39)], none, 73768, [0, 4, 3, 1, 2]⟩,
 ⟨(some 41), .copy (.t 0), none, 73776, []⟩,
 ⟨(some 42), .copy (.t 7), none, 73784, []⟩,
 ⟨(some 43), .copy (.t 8), none, 73792, []⟩,
 ⟨(some 44), .iaddr 1 (.t 42) (.t 43), none, 73800, [7, 8]⟩,
 ⟨(some 45), .load false 1 (.t 44), none, 73808, [9, 7, 8]⟩,
 ⟨(some 46), .call (.c (.fn 38 [])) [(.t 41), (.t 45)], none, 73816, [6, 10, 9, 7, 8, 5, 0, 4, 3, 1, 2]⟩,
 ⟨(some 47), .copy (.t 46), none, 73824, [11, 6, 10, 9, 7, 8, 5, 0, 4, 3, 1, 2]⟩,
 ⟨(some 48), .copy (.t 1), (some (12, 47, true)), 73832, [12, 11, 6, 10, 9, 7, 8, 5, 0, 4, 3, 1, 2]⟩,
 ⟨(some 49), .copy (.t 7), (some (12, 47, true)), 73840, [12, 11, 6, 10, 9, 7, 8, 5, 0, 4, 3, 1, 2]⟩,
 ⟨(some 50), .copy (.t 8), (some (12, 47, true)), 73848, [12, 11, 6, 10, 9, 7, 8, 5, 0, 4, 3, 1, 2]⟩,
 ⟨(some 51), .iaddr 1 (.t 49) (.t 50), (some (12, 47, true)), 73856, [14, 12, 11, 6, 10, 9, 7, 8, 5, 0, 4, 3, 1, 2, 15]⟩,
 ⟨(some 52), .load false 1 (.t 51), (some (12, 47, true)), 73864, [16, 14, 12, 11, 6, 10, 9, 7, 8, 5, 0, 4, 3, 1, 2, 15]⟩,
 ⟨(some 53), .call (.c (.fn 38 [])) [(.t 48), (.t 52)], (some (12, 47, true)), 73872, [13, 12, 11, 6, 10, 9, 7, 8, 5, 0, 4, 3, 1, 2, 17, 16, 14, 15]⟩,
 ⟨(some 54), .not (.t 53), (some (12, 47, true)), 73880, [18, 13, 12, 11, 6, 10, 9, 7, 8, 5, 0, 4, 3, 1, 2, 17, 16, 14, 15]⟩,
 ⟨(some 55), .pick (.t 47) (.t 54) (.c (.bool false)), none, 73888, [12, 11, 6, 10, 9, 7, 8, 5, 0, 4, 3, 1, 2, 19, 18, 13, 17, 16, 14, 15]⟩,
 ⟨(some 56), .eqb true (.t 40) (.t 55), none, 73896, [5, 0, 4, 3, 1, 2, 20, 12, 11, 6, 10, 9, 7, 8, 19, 18, 13, 17, 16, 14, 15]⟩])
 (.cond (.t 56)
 (.seq
 (.region 10 false [
 ⟨(some 4), .copy (.c (.bool false)), none, 81920, []⟩])
 .ret)
 .skip)))
 (.region 8 false [
 ⟨(some 33), .copy (.t 8), none, 65536, []⟩,
 ⟨(some 34), .bin .add (.t 33) (.c (.int .i64 1)), none, 65544, [0]⟩,
 ⟨(some 8), .copy (.t 34), none, 65552, [1, 0]⟩]))))))
 (.seq
 (.seq
 (.region 11 false [
 ⟨(some 57), .copy (.t 6), none, 90112, []⟩,
 ⟨(some 58), .len (.t 57), none, 90120, [0]⟩,
 ⟨(some 59), .bin .gtr (.t 58) (.c (.int .i64 17)), none, 90128, [1, 0]⟩])
 (.cond (.t 59)
 (.seq
 (.region 12 false [
 ⟨(some 4), .copy (.c (.bool false)), none, 98304, []⟩])
 .ret)
 .skip))
 (.seq
 (.region 13 false [
 ⟨(some 60), .copy (.t 0), none, 106496, []⟩,
 ⟨(some 61), .copy (.t 6), none, 106504, []⟩,
 ⟨(some 62), .call (.c (.fn 34 [])) [(.t 60), (.t 61)], none, 106512, [0, 1]⟩,
 ⟨(some 9), .copy (.t 62), none, 106520, [2, 0, 1]⟩])
 (.seq
 (.region 14 false [
 ⟨(some 63), .bslice 2 [(.str []), (.str [])] 0 [], none, 114688, []⟩,
 ⟨(some 64), .copy (.t 9), none, 114696, []⟩,
 ⟨(some 65), .append 2 32 [(.str []), (.str [])] (.t 63) (.t 64), none, 114704, [0, 1]⟩,
 ⟨(some 66), .copy (.t 6), none, 114712, []⟩,
 ⟨(some 67), .append 2 32 [(.str []), (.str [])] (.t 65) (.t 66), none, 114720, [2, 0, 1, 3]⟩,
 ⟨(some 10), .copy (.t 67), none, 114728, [4, 2, 0, 1, 3]⟩])
 (.seq
 (.region 15 false [
 ⟨(some 68), .copy (.t 10), none, 122880, []⟩,
 ⟨(some 69), .call (.c (.fn 32 [])) [(.t 68)], none, 122888, [0]⟩,
 ⟨(some 70), .copy (.t 0), none, 122896, []⟩,
 ⟨(some 71), .call (.c (.fn 32 [])) [(.t 70)], none, 122904, [2, 1, 0]⟩,
 ⟨(some 72), .call (.c (.fn 29 [])) [(.t 69), (.t 71)], none, 122912, [1, 0, 3, 2]⟩,
 ⟨(some 73), .copy (.t 72), none, 122920, [4, 1, 0, 3, 2]⟩,
 ⟨(some 74), .copy (.t 6), (some (5, 73, true)), 122928, [5, 4, 1, 0, 3, 2]⟩,
 ⟨(some 75), .call (.c (.fn 32 [])) [(.t 74)], (some (5, 73, true)), 122936, [6, 5, 4, 1, 0, 3, 2]⟩,
 ⟨(some 76), .copy (.t 6), (some (5, 73, true)), 122944, [5, 4, 1, 0, 3, 2]⟩,
 ⟨(some 77), .call (.c (.fn 29 [])) [(.t 75), (.t 76)], (some (5, 73, true)), 122952, [7, 6, 5, 4, 1, 0, 3, 2, 8]⟩,
 ⟨(some 78), .pick (.t 73) (.t 77) (.c (.bool false)), none, 122960, [5, 4, 1, 0, 3, 2, 9, 7, 6, 8]⟩,
 ⟨(some 79), .copy (.t 78), none, 122968, [10, 5, 4, 1, 0, 3, 2, 9, 7, 6, 8]⟩,
 ⟨(some 80), .copy (.t 0), (some (11, 79, true)), 122976, [11, 10, 5, 4, 1, 0, 3, 2, 9, 7, 6, 8]⟩,
 ⟨(some 81), .copy (.t 0), (some (11, 79, true)), 122984, [11, 10, 5, 4, 1, 0, 3, 2, 9, 7, 6, 8]⟩,
 ⟨(some 82), .call (.c (.fn 34 [])) [(.t 80), (.t 81)], (some (11, 79, true)), 122992, [12, 11, 10, 5, 4, 1, 0, 3, 2, 9, 7, 6, 8, 13]⟩,
 ⟨(some 83), .len (.t 82), (some (11, 79, true)), 123000, [14, 12, 11, 10, 5, 4, 1, 0, 3, 2, 9, 7, 6, 8, 13]⟩,
 ⟨(some 84), .bin .eql (.t 83) (.c (.int .i64 0)), (some (11, 79, true)), 123008, [15, 14, 12, 11, 10, 5, 4, 1, 0, 3, 2, 9, 7, 6, 8, 13]⟩,
 ⟨(some 85), .pick (.t 79) (.t 84) (.c (.bool false)), none, 123016, [11, 10, 5, 4, 1, 0, 3, 2, 9, 7, 6, 8, 16, 15, 14, 12, 13]⟩,
 ⟨(some 86), .copy (.t 85), none, 123024, [17, 11, 10, 5, 4, 1, 0, 3, 2, 9, 7, 6, 8, 16, 15, 14, 12, 13]⟩,
 ⟨(some 87), .copy (.t 0), (some (18, 86, true)), 123032, [18, 17, 11, 10, 5, 4, 1, 0, 3, 2, 9, 7, 6, 8, 16, 15, 14, 12, 13]⟩,
 ⟨(some 88), .call (.c (.fn 34 [])) [(.t 87), (.c .nils)], (some (18, 86, true)), 123040, [19, 18, 17, 11, 10, 5, 4, 1, 0, 3, 2, 9, 7, 6, 8, 16, 15, 14, 12, 13]⟩,
 ⟨(some 89), .copy (.t 0), (some (18, 86, true)), 123048, [18, 17, 11, 10, 5, 4, 1, 0, 3, 2, 9, 7, 6, 8, 16, 15, 14, 12, 13]⟩,
 ⟨(some 90), .call (.c (.fn 32 [])) [(.t 89)], (some (18, 86, true)), 123056, [21, 18, 17, 11, 10, 5, 4, 1, 0, 3, 2, 9, 7, 6, 8, 16, 15, 14, 12, 13, 20, 19]⟩,
 ⟨(some 91), .call (.c (.fn 29 [])) [(.t 88), (.t 90)], (some (18, 86, true)), 123064, [20, 19, 18, 17, 11, 10, 5, 4, 1, 0, 3, 2, 9, 7, 6, 8, 16, 15, 14, 12, 13, 22, 21]⟩,
 ⟨(some 92), .pick (.t 86) (.t 91) (.c (.bool false)), none, 123072, [18, 17, 11, 10, 5, 4, 1, 0, 3, 2, 9, 7, 6, 8, 16, 15, 14, 12, 13, 23, 20, 19, 22, 21]⟩,
 ⟨(some 93), .copy (.t 92), none, 123080, [24, 18, 17, 11, 10, 5, 4, 1, 0, 3, 2, 9, 7, 6, 8, 16, 15, 14, 12, 13, 23, 20, 19, 22, 21]⟩,
 ⟨(some 94), .copy (.t 5), (some (25, 93, true)), 123088, [25, 24, 18, 17, 11, 10, 5, 4, 1, 0, 3, 2, 9, 7, 6, 8, 16, 15, 14, 12, 13, 23, 20, 19, 22, 21]⟩,
 ⟨(some 95), .pick (.t 93) (.t 94) (.c (.bool false)), none, 123096, [25, 24, 18, 17, 11, 10, 5, 4, 1, 0, 3, 2, 9, 7, 6, 8, 16, 15, 14, 12, 13, 23, 20, 19, 22, 21, 26]⟩,
 ⟨(some 4), .copy (.t 95), none, 123104, [27, 25, 24, 18, 17, 11, 10, 5, 4, 1, 0, 3, 2, 9, 7, 6, 8, 16, 15, 14, 12, 13, 23, 20, 19, 22, 21, 26]⟩])
 .ret))))))))))
theorem vf8 : VF Try.prog 8 = some (96, vc8, [.tmp 4]) := by kernel_rfl
/-! The law of Minus -/
set_option maxHeartbeats 2000000 in
theorem minus_law_vc {q p : PV} {l m : List SpanL} (hq : Sl q (l.map encS)) (hp : Sl p (m.map encS)) (hl : l.length ≤ maxLen) (hm : m.length ≤ maxLen) : VC Try.prog 8 [q, p] [] (.bool true) [] := by
  refine vc_of vf8 ?_ (Nat.le_of_ble_eq_true rfl) (by intro vs h; cases h)
  have hs1 := short_vc (n := 8) hq hl
  have hs2 := short_vc (n := 8) hp hm
  repeat first | refine o_copy ?_ | refine nl ?_ | refine ct_seq ?_ | refine rg ?_ | refine ct_block ?_ | refine bq ?_ | refine cv0 sanity_vc ?_ | refine cv0 hs1 ?_ | refine o_loads ?_ | refine o_loadp ?_ | refine o_iaddr ?_ | refine o_iaddrO ?_ | refine o_iaddrR ?_ | refine o_add ?_ | refine o_cat ?_ | refine o_bin ?_ | refine o_lenq ?_ | refine o_len ?_ | refine o_bslice ?_ | refine o_not ?_ | refine o_pickt ?_ | refine o_pickf ?_ | refine o_eqb ?_ | refine skF ?_ | refine skU ?_
  refine glook (fun hg => ?_) (fun hg => ?_)
  · repeat first | refine o_copy ?_ | refine nl ?_ | refine ct_seq ?_ | refine rg ?_ | refine ct_block ?_ | refine bq ?_ | refine o_loads ?_ | refine o_loadp ?_ | refine o_iaddr ?_ | refine o_iaddrO ?_ | refine o_iaddrR ?_ | refine o_add ?_ | refine o_cat ?_ | refine o_bin ?_ | refine o_lenq ?_ | refine o_len ?_ | refine o_bslice ?_ | refine o_not ?_ | refine o_pickt ?_ | refine o_pickf ?_ | refine o_eqb ?_ | refine skF ?_ | refine skU ?_
    refine cndt ?_
    repeat first | refine o_copy ?_ | refine nl ?_ | refine ct_seq ?_ | refine rg ?_ | refine ct_block ?_ | refine bq ?_ | refine o_loads ?_ | refine o_loadp ?_ | refine o_iaddr ?_ | refine o_iaddrO ?_ | refine o_iaddrR ?_ | refine o_add ?_ | refine o_cat ?_ | refine o_bin ?_ | refine o_lenq ?_ | refine o_len ?_ | refine o_bslice ?_ | refine o_not ?_ | refine o_pickt ?_ | refine o_pickf ?_ | refine o_eqb ?_ | refine skF ?_ | refine skU ?_
    exact ct_ret ⟨.inr rfl, oAny rfl⟩
  repeat first | refine o_copy ?_ | refine nl ?_ | refine ct_seq ?_ | refine rg ?_ | refine ct_block ?_ | refine bq ?_ | refine cv0 hs2 ?_ | refine o_loads ?_ | refine o_loadp ?_ | refine o_iaddr ?_ | refine o_iaddrO ?_ | refine o_iaddrR ?_ | refine o_add ?_ | refine o_cat ?_ | refine o_bin ?_ | refine o_lenq ?_ | refine o_len ?_ | refine o_bslice ?_ | refine o_not ?_ | refine o_pickt ?_ | refine o_pickf ?_ | refine o_eqb ?_ | refine skF ?_ | refine skU ?_
  refine cnd (fun h => ?_) (fun h => ct_skip ?_)
  · repeat first | refine o_copy ?_ | refine nl ?_ | refine ct_seq ?_ | refine rg ?_ | refine ct_block ?_ | refine bq ?_ | refine o_loads ?_ | refine o_loadp ?_ | refine o_iaddr ?_ | refine o_iaddrO ?_ | refine o_iaddrR ?_ | refine o_add ?_ | refine o_cat ?_ | refine o_bin ?_ | refine o_lenq ?_ | refine o_len ?_ | refine o_bslice ?_ | refine o_not ?_ | refine o_pickt ?_ | refine o_pickf ?_ | refine o_eqb ?_ | refine skF ?_ | refine skU ?_
    exact ct_ret ⟨.inr rfl, oAny rfl⟩
  obtain ⟨h8, hls⟩ := short_all (l := l) (n := 8) (by simpa using hg)
  obtain ⟨hm8, hms⟩ := short_all (l := m) (n := 8) (by simpa using h)
  have h1 := minus_vc hq hp (by omega) (by omega)
  have hk := minus_keys l m
  have hno := minus_nrm l m
  have hol := minus_len l m
  generalize minusL l m = out at *
  have n1 := near_vc hq (by omega) (fun s hs' => by have := hls s hs'; omega)
  have n2 := near_vc hp (by omega) (fun s hs' => by have := hms s hs'; omega)
  have hkl1 := nearL_len l
  have hkl2 := nearL_len m
  generalize nearL l = ks1 at *
  generalize nearL m = ks2 at *
  have h2 := minus_vc (q := q) (p := .sh false (out.map encS)) (m := out) hq Sl.sh (by omega) (by omega)
  have h2k := minus_keys l out
  have h2l := minus_len l out
  generalize minusL l out = tk at *
  have hml : (l.map encS).length = l.length := List.length_map ..
  have hmo : (out.map encS).length = out.length := List.length_map ..
  have f1 : rnormL (([] ++ tk) ++ out) = rnormL l := Nrm.ext (rnorm_nrm _).1 (rnorm_nrm _).1 (fun k => by
    rw [(rnorm_nrm _).2, (rnorm_nrm _).2, List.nil_append, inL_append, h2k, hk]
    cases inL l k <;> cases inL m k <;> rfl)
  have f2 : rnormL out = out := Nrm.ext (rnorm_nrm _).1 hno (fun k => (rnorm_nrm _).2 k)
  have f3 : minusL l l = [] := Nrm.ext (minus_nrm l l) ⟨by simp, by simp⟩ (fun k => by rw [minus_keys]; simp [inL])
  have f4 : minusL l [] = rnormL l := Nrm.ext (minus_nrm l []) (rnorm_nrm l).1 (fun k => by rw [minus_keys, (rnorm_nrm l).2]; simp [inL])
  repeat first | refine o_copy ?_ | refine nl ?_ | refine ct_seq ?_ | refine rg ?_ | refine ct_block ?_ | refine bq ?_ | refine cv h1 ?_ | refine cv n1 ?_ | refine cv n2 ?_ | refine o_v (vaps encT ks1 ks2) ?_ | refine o_loads ?_ | refine o_loadp ?_ | refine o_iaddr ?_ | refine o_iaddrO ?_ | refine o_iaddrR ?_ | refine o_add ?_ | refine o_cat ?_ | refine o_bin ?_ | refine o_lenq ?_ | refine o_len ?_ | refine o_bslice ?_ | refine o_not ?_ | refine o_pickt ?_ | refine o_pickf ?_ | refine o_eqb ?_ | refine skF ?_ | refine skU ?_
  have hmk : ((ks1 ++ ks2).map encT).length = (ks1 ++ ks2).length := List.length_map ..
  have hkl3 : (ks1 ++ ks2).length ≤ 200 := by rw [List.length_append]; omega
  generalize ks1 ++ ks2 = ks at *
  refine ct_loopG (fun (g : Nat) => [(0, q), (1, p), (5, .bool true), (6, ownV ⟨1, 32784⟩ (out.map encS)), (7, ownV ⟨1, 40968⟩ (ks.map encT)), (8, .int .i64 g)])
    (fun g => [(⟨1, 32784⟩, blkV 2 (out.map encS)), (⟨1, 40968⟩, blkV 1 (ks.map encT))]) (fun g => ks.length - g)
    (fun g => g ≤ ks.length) 0 goes (Nat.zero_le _) ?_
  intro i hi
  (try dsimp only)
  repeat first | refine o_copy ?_ | refine nl ?_ | refine ct_seq ?_ | refine rg ?_ | refine ct_block ?_ | refine bq ?_ | refine o_loads ?_ | refine o_loadp ?_ | refine o_iaddr ?_ | refine o_iaddrO ?_ | refine o_iaddrR ?_ | refine o_add ?_ | refine o_cat ?_ | refine o_bin ?_ | refine o_lenq ?_ | refine o_len ?_ | refine o_bslice ?_ | refine o_not ?_ | refine o_pickt ?_ | refine o_pickf ?_ | refine o_eqb ?_ | refine skF ?_ | refine skU ?_
  refine cnd (fun h => ct_skip ?_) (fun h => ct_exit ?_)
  · have hlt : i < ks.length := by have h' := of_decide_eq_true h; omega
    obtain ⟨k, hk'⟩ : ∃ x, ks[i]? = some x := ⟨_, List.getElem?_eq_getElem hlt⟩
    have hke := gm (enc := encT) (n := (i : Int)) hk' (by omega)
    have hkk := hk k
    have i1 := in_vc (q := .sh false (out.map encS)) (l := out) k Sl.sh (by unfold maxLen; omega)
    have i2 := in_vc k hq hl
    have i3 := in_vc k hp hm
    repeat first | refine o_copy ?_ | refine nl ?_ | refine ct_seq ?_ | refine rg ?_ | refine ct_block ?_ | refine bq ?_ | refine cv0 i1 ?_ | refine cv0 i2 ?_ | refine o_loads ?_ | refine o_loadp ?_ | refine o_iaddr ?_ | refine o_iaddrO ?_ | refine o_iaddrR ?_ | refine o_add ?_ | refine o_cat ?_ | refine o_bin ?_ | refine o_lenq ?_ | refine o_len ?_ | refine o_bslice ?_ | refine o_not ?_ | refine o_pickt ?_ | refine o_pickf ?_ | refine o_eqb ?_ | refine skF ?_ | refine skU ?_
    refine glook (fun hg => ?_) (fun hg => ?_)
    · repeat first | refine o_copy ?_ | refine nl ?_ | refine ct_seq ?_ | refine rg ?_ | refine ct_block ?_ | refine bq ?_ | refine cv0 i3 ?_ | refine o_loads ?_ | refine o_loadp ?_ | refine o_iaddr ?_ | refine o_iaddrO ?_ | refine o_iaddrR ?_ | refine o_add ?_ | refine o_cat ?_ | refine o_bin ?_ | refine o_lenq ?_ | refine o_len ?_ | refine o_bslice ?_ | refine o_not ?_ | refine o_pickt ?_ | refine o_pickf ?_ | refine o_eqb ?_ | refine skF ?_ | refine skU ?_
      refine cndf (ct_skip ?_) rfl (by simp [hkk, hg])
      repeat first | refine o_copy ?_ | refine nl ?_ | refine ct_seq ?_ | refine rg ?_ | refine ct_block ?_ | refine bq ?_ | refine o_loads ?_ | refine o_loadp ?_ | refine o_iaddr ?_ | refine o_iaddrO ?_ | refine o_iaddrR ?_ | refine o_add ?_ | refine o_cat ?_ | refine o_bin ?_ | refine o_lenq ?_ | refine o_len ?_ | refine o_bslice ?_ | refine o_not ?_ | refine o_pickt ?_ | refine o_pickf ?_ | refine o_eqb ?_ | refine skF ?_ | refine skU ?_
      exact agn (i + 1) (by omega) goes
    · repeat first | refine o_copy ?_ | refine nl ?_ | refine ct_seq ?_ | refine rg ?_ | refine ct_block ?_ | refine bq ?_ | refine cv0 i3 ?_ | refine o_loads ?_ | refine o_loadp ?_ | refine o_iaddr ?_ | refine o_iaddrO ?_ | refine o_iaddrR ?_ | refine o_add ?_ | refine o_cat ?_ | refine o_bin ?_ | refine o_lenq ?_ | refine o_len ?_ | refine o_bslice ?_ | refine o_not ?_ | refine o_pickt ?_ | refine o_pickf ?_ | refine o_eqb ?_ | refine skF ?_ | refine skU ?_
      refine cndf (ct_skip ?_) rfl (by simp [hkk, hg])
      repeat first | refine o_copy ?_ | refine nl ?_ | refine ct_seq ?_ | refine rg ?_ | refine ct_block ?_ | refine bq ?_ | refine o_loads ?_ | refine o_loadp ?_ | refine o_iaddr ?_ | refine o_iaddrO ?_ | refine o_iaddrR ?_ | refine o_add ?_ | refine o_cat ?_ | refine o_bin ?_ | refine o_lenq ?_ | refine o_len ?_ | refine o_bslice ?_ | refine o_not ?_ | refine o_pickt ?_ | refine o_pickf ?_ | refine o_eqb ?_ | refine skF ?_ | refine skU ?_
      exact agn (i + 1) (by omega) goes
  repeat first | refine o_copy ?_ | refine nl ?_ | refine ct_seq ?_ | refine rg ?_ | refine ct_block ?_ | refine bq ?_ | refine o_loads ?_ | refine o_loadp ?_ | refine o_iaddr ?_ | refine o_iaddrO ?_ | refine o_iaddrR ?_ | refine o_add ?_ | refine o_cat ?_ | refine o_bin ?_ | refine o_lenq ?_ | refine o_len ?_ | refine o_bslice ?_ | refine o_not ?_ | refine o_pickt ?_ | refine o_pickf ?_ | refine o_eqb ?_ | refine skF ?_ | refine skU ?_
  refine cndf (ct_skip ?_) rfl (decide_eq_false (by omega))
  repeat first | refine o_copy ?_ | refine nl ?_ | refine ct_seq ?_ | refine rg ?_ | refine ct_block ?_ | refine bq ?_ | refine cv h2 ?_ | refine o_v (vaps encS [] tk) ?_ | refine o_v (vaps encS ([] ++ tk) out) ?_ | refine o_loads ?_ | refine o_loadp ?_ | refine o_iaddr ?_ | refine o_iaddrO ?_ | refine o_iaddrR ?_ | refine o_add ?_ | refine o_cat ?_ | refine o_bin ?_ | refine o_lenq ?_ | refine o_len ?_ | refine o_bslice ?_ | refine o_not ?_ | refine o_pickt ?_ | refine o_pickf ?_ | refine o_eqb ?_ | refine skF ?_ | refine skU ?_
  have g1 := norm_vc (q := .sh false ((([] ++ tk) ++ out).map encS)) (xs := ([] ++ tk) ++ out) Sl.sh (by simp only [List.length_append, List.length_nil]; omega)
  have g2 := norm_vc hq (by omega)
  have g3 := norm_vc (q := .sh false (out.map encS)) (xs := out) Sl.sh (by omega)
  have g4 := minus_vc hq hq (by omega) (by omega)
  have g5 := minus_vc (q := q) (p := .nils) (m := []) hq Sl.nils (by omega) (by simp)
  rw [f1] at g1
  rw [f2] at g3
  rw [f3] at g4
  rw [f4] at g5
  have hrl := rnorm_len l
  generalize rnormL l = nrm at *
  have s1 := same_vc (q := .sh false (nrm.map encS)) (p := .sh false (nrm.map encS)) (l := nrm) (m := nrm) Sl.sh Sl.sh (by unfold maxLen; omega) (by unfold maxLen; omega)
  have s2 := same_vc (q := .sh false (out.map encS)) (p := .sh false (out.map encS)) (l := out) (m := out) Sl.sh Sl.sh (by unfold maxLen; omega) (by unfold maxLen; omega)
  rw [show decide (nrm = nrm) = true from decide_eq_true rfl] at s1
  rw [show decide (out = out) = true from decide_eq_true rfl] at s2
  repeat first | refine o_copy ?_ | refine nl ?_ | refine ct_seq ?_ | refine rg ?_ | refine ct_block ?_ | refine bq ?_ | refine cv g1 ?_ | refine cv g2 ?_ | refine cv g3 ?_ | refine cv g4 ?_ | refine cv g5 ?_ | refine cv0 s1 ?_ | refine cv0 s2 ?_ | refine o_loads ?_ | refine o_loadp ?_ | refine o_iaddr ?_ | refine o_iaddrO ?_ | refine o_iaddrR ?_ | refine o_add ?_ | refine o_cat ?_ | refine o_bin ?_ | refine o_lenq ?_ | refine o_len ?_ | refine o_bslice ?_ | refine o_not ?_ | refine o_pickt ?_ | refine o_pickf ?_ | refine o_eqb ?_ | refine skF ?_ | refine skU ?_
  exact ct_ret ⟨.inr rfl, oB rfl⟩
theorem spanMinus_in (l0 : List (List PV)) (i0 : InTy (.sl [.str, .str]) (.sh false l0)) (l1 : List (List PV)) (i1 : InTy (.sl [.str, .str]) (.sh false l1)) : VC Try.prog 8 [.sh false l0, .sh false l1] [] (.bool true) [] := by
  obtain ⟨l, rfl, hl⟩ := decS i0
  obtain ⟨m, rfl, hm⟩ := decS i1
  exact minus_law_vc Sl.sh Sl.sh hl hm
end Go.Proofs
