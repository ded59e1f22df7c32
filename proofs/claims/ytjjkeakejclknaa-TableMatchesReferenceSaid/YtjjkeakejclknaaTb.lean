/- Tb -/
import Derived.Test.YtjjkeakejclknaaTa
import Derived.Test.YtjjkeakejclknaaVD
import Derived.Test.YtjjkeakejclknaaPu
open Go.V Go.Pu
set_option linter.unusedVariables false
set_option maxRecDepth 20000
namespace Go.Proofs
/-- downspout/table.Valid -/
def vc30 : VCode :=
 (.seq
 (.region 0 false [
 ⟨(some 2), .copy (.c (.bool false)), none, 0, []⟩])
 (.seq
 (.seq
 (.region 1 false [
 ⟨(some 3), .copy (.c (.int .i64 1)), none, 8192, []⟩])
 (.block 0
 (.loop
 (.seq
 (.seq
 (.region 2 false [
 ⟨(some 4), .copy (.t 3), none, 16384, []⟩,
 ⟨(some 5), .copy (.t 0), none, 16392, []⟩,
 ⟨(some 6), .len (.t 5), none, 16400, [1]⟩,
 ⟨(some 7), .bin .lss (.t 4) (.t 6), none, 16408, [0, 2, 1]⟩])
 (.cond (.t 7)
 .skip
 (.exit 0)))
 (.seq
 (.block 1
 (.seq
 (.region 4 true [
 ⟨(some 10), .copy (.t 0), none, 32768, []⟩,
 ⟨(some 11), .copy (.t 3), none, 32776, []⟩,
 ⟨(some 12), .bin .sub (.t 11) (.c (.int .i64 1)), none, 32784, [1]⟩,
 ⟨(some 13), .iaddr 3 (.t 10) (.t 12), none, 32792, [0, 2, 1]⟩,
 ⟨(some 14), .faddr 0 (.t 13), none, 32800, [3, 0, 2, 1]⟩,
 ⟨(some 15), .load false 1 (.t 14), none, 32808, [4, 3, 0, 2, 1]⟩,
 ⟨(some 16), .copy (.t 0), none, 32816, []⟩,
 ⟨(some 17), .copy (.t 3), none, 32824, []⟩,
 ⟨(some 18), .iaddr 3 (.t 16) (.t 17), none, 32832, [6, 7]⟩,
 ⟨(some 19), .faddr 0 (.t 18), none, 32840, [8, 6, 7]⟩,
 ⟨(some 20), .load false 1 (.t 19), none, 32848, [9, 8, 6, 7]⟩,
 ⟨(some 21), .bin .geq (.t 15) (.t 20), none, 32856, [5, 4, 3, 0, 2, 1, 10, 9, 8, 6, 7]⟩])
 (.cond (.t 21)
 (.seq
 (.region 5 false [
 ⟨(some 2), .copy (.c (.bool false)), none, 40960, []⟩])
 .ret)
 .skip)))
 (.region 3 false [
 ⟨(some 8), .copy (.t 3), none, 24576, []⟩,
 ⟨(some 9), .bin .add (.t 8) (.c (.int .i64 1)), none, 24584, [0]⟩,
 ⟨(some 3), .copy (.t 9), none, 24592, [1, 0]⟩]))))))
 (.seq
 (.region 6 false [
 ⟨(some 2), .copy (.c (.bool true)), none, 49152, []⟩])
 .ret)))
theorem vf30 : VF Try.prog 30 = some (22, vc30, [.tmp 2]) := by kernel_rfl
/-- downspout/downspoutref04.Valid -/
def vc31 : VCode :=
 (.seq
 (.region 0 false [
 ⟨(some 2), .copy (.c (.bool false)), none, 0, []⟩])
 (.seq
 (.seq
 (.region 1 false [
 ⟨(some 3), .copy (.c (.int .i64 1)), none, 8192, []⟩])
 (.block 0
 (.loop
 (.seq
 (.seq
 (.region 2 false [
 ⟨(some 4), .copy (.t 3), none, 16384, []⟩,
 ⟨(some 5), .copy (.t 0), none, 16392, []⟩,
 ⟨(some 6), .len (.t 5), none, 16400, [1]⟩,
 ⟨(some 7), .bin .lss (.t 4) (.t 6), none, 16408, [0, 2, 1]⟩])
 (.cond (.t 7)
 .skip
 (.exit 0)))
 (.seq
 (.block 1
 (.seq
 (.region 4 true [
 ⟨(some 10), .copy (.t 0), none, 32768, []⟩,
 ⟨(some 11), .copy (.t 3), none, 32776, []⟩,
 ⟨(some 12), .bin .sub (.t 11) (.c (.int .i64 1)), none, 32784, [1]⟩,
 ⟨(some 13), .iaddr 3 (.t 10) (.t 12), none, 32792, [0, 2, 1]⟩,
 ⟨(some 14), .faddr 0 (.t 13), none, 32800, [3, 0, 2, 1]⟩,
 ⟨(some 15), .load false 1 (.t 14), none, 32808, [4, 3, 0, 2, 1]⟩,
 ⟨(some 16), .copy (.t 0), none, 32816, []⟩,
 ⟨(some 17), .copy (.t 3), none, 32824, []⟩,
 ⟨(some 18), .iaddr 3 (.t 16) (.t 17), none, 32832, [6, 7]⟩,
 ⟨(some 19), .faddr 0 (.t 18), none, 32840, [8, 6, 7]⟩,
 ⟨(some 20), .load false 1 (.t 19), none, 32848, [9, 8, 6, 7]⟩,
 ⟨(some 21), .bin .geq (.t 15) (.t 20), none, 32856, [5, 4, 3, 0, 2, 1, 10, 9, 8, 6, 7]⟩])
 (.cond (.t 21)
 (.seq
 (.region 5 false [
 ⟨(some 2), .copy (.c (.bool false)), none, 40960, []⟩])
 .ret)
 .skip)))
 (.region 3 false [
 ⟨(some 8), .copy (.t 3), none, 24576, []⟩,
 ⟨(some 9), .bin .add (.t 8) (.c (.int .i64 1)), none, 24584, [0]⟩,
 ⟨(some 3), .copy (.t 9), none, 24592, [1, 0]⟩]))))))
 (.seq
 (.region 6 false [
 ⟨(some 2), .copy (.c (.bool true)), none, 49152, []⟩])
 .ret)))
theorem vf31 : VF Try.prog 31 = some (22, vc31, [.tmp 2]) := by kernel_rfl
/-- downspout/downspoutlaw04.TableValid -/
def vc4 : VCode :=
 (.seq
 (.region 0 false [
 ⟨(some 5), .box (.t 2), none, 0, []⟩,
 ⟨(some 6), .copy (.c (.bool false)), none, 8, []⟩])
 (.seq
 (.region 1 false [
 ⟨(some 12), .call (.c (.fn 10 [])) [], none, 8192, []⟩,
 ⟨(some 7), .copy (.t 12), none, 8200, [0]⟩])
 (.seq
 (.seq
 (.region 2 false [
 ⟨(some 13), .copy (.t 0), none, 16384, []⟩,
 ⟨(some 14), .len (.t 13), none, 16392, [0]⟩,
 ⟨(some 15), .bin .gtr (.t 14) (.c (.int .i64 30)), none, 16400, [1, 0]⟩])
 (.cond (.t 15)
 (.seq
 (.region 3 false [
 ⟨(some 16), .copy (.t 7), none, 24576, []⟩,
 ⟨(some 6), .copy (.t 16), none, 24584, [0]⟩])
 .ret)
 .skip))
 (.seq
 (.region 4 false [
 ⟨(some 17), .copy (.t 1), none, 32768, []⟩,
 ⟨(some 18), .call (.c (.fn 11 [])) [(.t 17)], none, 32776, [0]⟩,
 ⟨(some 8), .copy (.t 18), none, 32784, [1, 0]⟩])
 (.seq
 (.region 5 false [
 ⟨(some 19), .bslice 3 [(.str []), (.str []), (.int .i64 0)] 0 [], none, 40960, []⟩,
 ⟨(some 20), .copy (.t 8), none, 40968, []⟩,
 ⟨(some 21), .append 3 40 [(.str []), (.str []), (.int .i64 0)] (.t 19) (.t 20), none, 40976, [0, 1]⟩,
 ⟨(some 9), .copy (.t 21), none, 40984, [2, 0, 1]⟩])
 (.seq
 (.seq
 (.region 6 false [
 ⟨(some 22), .copy (.t 8), none, 49152, []⟩,
 ⟨(some 23), .len (.t 22), none, 49160, [0]⟩,
 ⟨(some 24), .bin .gtr (.t 23) (.c (.int .i64 0)), none, 49168, [1, 0]⟩])
 (.cond (.t 24)
 (.seq
 (.region 7 true [
 ⟨(some 25), .iaddrA 3 1 (.t 5) (.c (.int .i64 0)), none, 57344, []⟩,
 ⟨(some 26), .load false 1 (.t 25), none, 57352, [0]⟩,
 ⟨(some 27), .conv .i64 (.t 26), none, 57360, [1, 0]⟩,
 ⟨(some 28), .copy (.t 8), none, 57368, []⟩,
 ⟨(some 29), .len (.t 28), none, 57376, [3]⟩,
 ⟨(some 30), .bin .rem (.t 27) (.t 29), none, 57384, [2, 1, 0, 4, 3]⟩,
 ⟨(some 31), .iaddrA 3 1 (.t 5) (.c (.int .i64 1)), none, 57392, []⟩,
 ⟨(some 32), .load false 1 (.t 31), none, 57400, [6]⟩,
 ⟨(some 33), .conv .i64 (.t 32), none, 57408, [7, 6]⟩,
 ⟨(some 34), .copy (.t 8), none, 57416, []⟩,
 ⟨(some 35), .len (.t 34), none, 57424, [9]⟩,
 ⟨(some 36), .bin .rem (.t 33) (.t 35), none, 57432, [8, 7, 6, 10, 9]⟩,
 ⟨(some 10), .copy (.t 30), none, 57440, [5, 2, 1, 0, 4, 3]⟩,
 ⟨(some 11), .copy (.t 36), none, 57448, [11, 8, 7, 6, 10, 9, 12, 5, 2, 1, 0, 4, 3]⟩])
 (.seq
 (.region 8 false [
 ⟨(some 37), .copy (.t 9), none, 65536, []⟩,
 ⟨(some 38), .copy (.t 10), none, 65544, []⟩,
 ⟨(some 39), .copy (.t 8), none, 65552, []⟩,
 ⟨(some 40), .copy (.t 11), none, 65560, []⟩,
 ⟨(some 41), .iaddr 3 (.t 39) (.t 40), none, 65568, [2, 3]⟩,
 ⟨(some 42), .load true 3 (.t 41), none, 65576, [4, 2, 3]⟩,
 ⟨(some 43), .iaddr 3 (.t 37) (.t 38), none, 65584, [0, 1, 2, 3, 4, 5]⟩,
 ⟨none, .store 3 (.t 43) (.t 42), none, 65592, [6, 0, 1, 2, 3, 4, 5]⟩])
 (.seq
 (.region 9 false [
 ⟨(some 44), .iaddrA 3 1 (.t 5) (.c (.int .i64 2)), none, 73728, []⟩,
 ⟨(some 45), .load false 1 (.t 44), none, 73736, [0]⟩,
 ⟨(some 46), .bin .rem (.t 45) (.c (.int .u8 2)), none, 73744, [1, 0]⟩,
 ⟨(some 47), .bin .eql (.t 46) (.c (.int .u8 0)), none, 73752, [2, 1, 0]⟩])
 (.cond (.t 47)
 (.region 10 false [
 ⟨(some 48), .copy (.t 9), none, 81920, []⟩,
 ⟨(some 49), .copy (.t 11), none, 81928, []⟩,
 ⟨(some 50), .copy (.t 8), none, 81936, []⟩,
 ⟨(some 51), .copy (.t 10), none, 81944, []⟩,
 ⟨(some 52), .iaddr 3 (.t 50) (.t 51), none, 81952, [2, 3]⟩,
 ⟨(some 53), .load true 3 (.t 52), none, 81960, [4, 2, 3]⟩,
 ⟨(some 54), .iaddr 3 (.t 48) (.t 49), none, 81968, [0, 1, 2, 3, 4, 5]⟩,
 ⟨none, .store 3 (.t 54) (.t 53), none, 81976, [6, 0, 1, 2, 3, 4, 5]⟩])
 .skip))))
 .skip))
 (.seq
 (.region 11 false [
 ⟨(some 55), .copy (.t 8), none, 90112, []⟩,
 ⟨(some 56), .call (.c (.fn 30 [])) [(.t 55)], none, 90120, [0]⟩,
 ⟨(some 57), .copy (.t 56), none, 90128, [1, 0]⟩,
 ⟨(some 58), .copy (.t 9), (some (2, 57, true)), 90136, [2, 1, 0]⟩,
 ⟨(some 59), .call (.c (.fn 30 [])) [(.t 58)], (some (2, 57, true)), 90144, [3, 2, 1, 0]⟩,
 ⟨(some 60), .copy (.t 9), (some (2, 57, true)), 90152, [2, 1, 0]⟩,
 ⟨(some 61), .call (.c (.fn 31 [])) [(.t 60)], (some (2, 57, true)), 90160, [5, 2, 1, 0, 4, 3]⟩,
 ⟨(some 62), .eqb false (.t 59) (.t 61), (some (2, 57, true)), 90168, [4, 3, 2, 1, 0, 6, 5]⟩,
 ⟨(some 63), .pick (.t 57) (.t 62) (.c (.bool false)), none, 90176, [2, 1, 0, 7, 4, 3, 6, 5]⟩,
 ⟨(some 64), .copy (.t 63), none, 90184, [8, 2, 1, 0, 7, 4, 3, 6, 5]⟩,
 ⟨(some 65), .copy (.t 0), (some (9, 64, true)), 90192, [9, 8, 2, 1, 0, 7, 4, 3, 6, 5]⟩,
 ⟨(some 66), .call (.c (.fn 30 [])) [(.t 65)], (some (9, 64, true)), 90200, [10, 9, 8, 2, 1, 0, 7, 4, 3, 6, 5]⟩,
 ⟨(some 67), .copy (.t 0), (some (9, 64, true)), 90208, [9, 8, 2, 1, 0, 7, 4, 3, 6, 5]⟩,
 ⟨(some 68), .call (.c (.fn 31 [])) [(.t 67)], (some (9, 64, true)), 90216, [12, 9, 8, 2, 1, 0, 7, 4, 3, 6, 5, 11, 10]⟩,
 ⟨(some 69), .eqb false (.t 66) (.t 68), (some (9, 64, true)), 90224, [11, 10, 9, 8, 2, 1, 0, 7, 4, 3, 6, 5, 13, 12]⟩,
 ⟨(some 70), .pick (.t 64) (.t 69) (.c (.bool false)), none, 90232, [9, 8, 2, 1, 0, 7, 4, 3, 6, 5, 14, 11, 10, 13, 12]⟩,
 ⟨(some 71), .copy (.t 70), none, 90240, [15, 9, 8, 2, 1, 0, 7, 4, 3, 6, 5, 14, 11, 10, 13, 12]⟩,
 ⟨(some 72), .copy (.t 7), (some (16, 71, true)), 90248, [16, 15, 9, 8, 2, 1, 0, 7, 4, 3, 6, 5, 14, 11, 10, 13, 12]⟩,
 ⟨(some 73), .pick (.t 71) (.t 72) (.c (.bool false)), none, 90256, [16, 15, 9, 8, 2, 1, 0, 7, 4, 3, 6, 5, 14, 11, 10, 13, 12, 17]⟩,
 ⟨(some 6), .copy (.t 73), none, 90264, [18, 16, 15, 9, 8, 2, 1, 0, 7, 4, 3, 6, 5, 14, 11, 10, 13, 12, 17]⟩])
 .ret)))))))
theorem vf4 : VF Try.prog 4 = some (74, vc4, [.tmp 6]) := by kernel_rfl
/-! Valid -/
theorem valid_vc {q : PV} {xs : List PairL} (hq : Sl q (xs.map encP)) (hl : xs.length ≤ 1000000000) : VC Try.prog 30 [q] [] (.bool (sortedL xs)) [] := by
  refine vc_of vf30 ?_ (Nat.le_of_ble_eq_true rfl) (by intro vs h; cases h)
  repeat first | refine o_copy ?_ | refine nl ?_ | refine ct_seq ?_ | refine rg ?_ | refine ct_block ?_ | refine bq ?_ | refine o_loads ?_ | refine o_loadp ?_ | refine o_faddr ?_ | refine o_iaddr ?_ | refine o_iaddrO ?_ | refine o_iaddrR ?_ | refine o_add ?_ | refine o_sub ?_ | refine o_cat ?_ | refine o_bin ?_ | refine o_lenq ?_ | refine o_len ?_
  refine ct_loopG (fun (g : Nat) => [(0, q), (3, .int .i64 ((g + 1 : Nat) : Int))]) (fun g => []) (fun g => xs.length - g)
    (fun g => sortedL (xs.drop g) = sortedL xs ∧ g ≤ xs.length) 0 goes ⟨rfl, by omega⟩ ?_
  rintro i ⟨hv, hil⟩
  (try dsimp only)
  repeat first | refine o_copy ?_ | refine nl ?_ | refine ct_seq ?_ | refine rg ?_ | refine ct_block ?_ | refine bq ?_ | refine o_loads ?_ | refine o_loadp ?_ | refine o_faddr ?_ | refine o_iaddr ?_ | refine o_iaddrO ?_ | refine o_iaddrR ?_ | refine o_add ?_ | refine o_sub ?_ | refine o_cat ?_ | refine o_bin ?_ | refine o_lenq ?_ | refine o_len ?_
  refine cnd (fun h => ct_skip ?_) (fun h => ct_exit ?_)
  · have hlt : i + 1 < xs.length := by simp at h; omega
    obtain ⟨a, ha⟩ : ∃ x, xs[i]? = some x := ⟨_, List.getElem?_eq_getElem (by omega)⟩
    obtain ⟨b, hb⟩ : ∃ x, xs[i + 1]? = some x := ⟨_, List.getElem?_eq_getElem hlt⟩
    have hae := gm (enc := encP) (n := ((i + 1 : Nat) : Int) - 1) ha (by omega)
    have hbe := gm (enc := encP) (n := ((i + 1 : Nat) : Int)) hb (by omega)
    rw [sortedL_drop ha hb] at hv
    repeat first | refine o_copy ?_ | refine nl ?_ | refine ct_seq ?_ | refine rg ?_ | refine ct_block ?_ | refine bq ?_ | refine o_loads ?_ | refine o_loadp ?_ | refine o_faddr ?_ | refine o_iaddr ?_ | refine o_iaddrO ?_ | refine o_iaddrR ?_ | refine o_add ?_ | refine o_sub ?_ | refine o_cat ?_ | refine o_bin ?_ | refine o_lenq ?_ | refine o_len ?_
    refine cnd (fun hc => ?_) (fun hc => ct_skip ?_)
    · repeat first | refine o_copy ?_ | refine nl ?_ | refine ct_seq ?_ | refine rg ?_ | refine ct_block ?_ | refine bq ?_ | refine o_loads ?_ | refine o_loadp ?_ | refine o_faddr ?_ | refine o_iaddr ?_ | refine o_iaddrO ?_ | refine o_iaddrR ?_ | refine o_add ?_ | refine o_sub ?_ | refine o_cat ?_ | refine o_bin ?_ | refine o_lenq ?_ | refine o_len ?_
      refine ct_ret ⟨.inr rfl, oAny ?_⟩
      rw [← hv, (by simpa using hc : Op.bytesLess a.key b.key = false)]
      rfl
    · repeat first | refine o_copy ?_ | refine nl ?_ | refine ct_seq ?_ | refine rg ?_ | refine ct_block ?_ | refine bq ?_ | refine o_loads ?_ | refine o_loadp ?_ | refine o_faddr ?_ | refine o_iaddr ?_ | refine o_iaddrO ?_ | refine o_iaddrR ?_ | refine o_add ?_ | refine o_sub ?_ | refine o_cat ?_ | refine o_bin ?_ | refine o_lenq ?_ | refine o_len ?_
      refine agn (i + 1) ⟨?_, by omega⟩ goes
      rw [← hv, (by simpa using hc : Op.bytesLess a.key b.key = true)]
      rfl
  · repeat first | refine o_copy ?_ | refine nl ?_ | refine ct_seq ?_ | refine rg ?_ | refine ct_block ?_ | refine bq ?_ | refine o_loads ?_ | refine o_loadp ?_ | refine o_faddr ?_ | refine o_iaddr ?_ | refine o_iaddrO ?_ | refine o_iaddrR ?_ | refine o_add ?_ | refine o_sub ?_ | refine o_cat ?_ | refine o_bin ?_ | refine o_lenq ?_ | refine o_len ?_
    refine ct_ret ⟨.inr rfl, oAny ?_⟩
    have hge : xs.length ≤ i + 1 := by have h' := of_decide_eq_false h; simp only [List.length_map] at h'; omega
    rw [← hv]
    rcases Nat.lt_or_ge i xs.length with h1 | h1
    · obtain ⟨a, ha⟩ : ∃ x, xs[i]? = some x := ⟨_, List.getElem?_eq_getElem h1⟩
      rw [drop_get ha, List.drop_of_length_le hge]; rfl
    · rw [List.drop_of_length_le h1]; rfl
theorem rvalid_vc {q : PV} {xs : List PairL} (hq : Sl q (xs.map encP)) (hl : xs.length ≤ 1000000000) : VC Try.prog 31 [q] [] (.bool (sortedL xs)) [] := by
  refine vc_of vf31 ?_ (Nat.le_of_ble_eq_true rfl) (by intro vs h; cases h)
  repeat first | refine o_copy ?_ | refine nl ?_ | refine ct_seq ?_ | refine rg ?_ | refine ct_block ?_ | refine bq ?_ | refine o_loads ?_ | refine o_loadp ?_ | refine o_faddr ?_ | refine o_iaddr ?_ | refine o_iaddrO ?_ | refine o_iaddrR ?_ | refine o_add ?_ | refine o_sub ?_ | refine o_cat ?_ | refine o_bin ?_ | refine o_lenq ?_ | refine o_len ?_
  refine ct_loopG (fun (g : Nat) => [(0, q), (3, .int .i64 ((g + 1 : Nat) : Int))]) (fun g => []) (fun g => xs.length - g)
    (fun g => sortedL (xs.drop g) = sortedL xs ∧ g ≤ xs.length) 0 goes ⟨rfl, by omega⟩ ?_
  rintro i ⟨hv, hil⟩
  (try dsimp only)
  repeat first | refine o_copy ?_ | refine nl ?_ | refine ct_seq ?_ | refine rg ?_ | refine ct_block ?_ | refine bq ?_ | refine o_loads ?_ | refine o_loadp ?_ | refine o_faddr ?_ | refine o_iaddr ?_ | refine o_iaddrO ?_ | refine o_iaddrR ?_ | refine o_add ?_ | refine o_sub ?_ | refine o_cat ?_ | refine o_bin ?_ | refine o_lenq ?_ | refine o_len ?_
  refine cnd (fun h => ct_skip ?_) (fun h => ct_exit ?_)
  · have hlt : i + 1 < xs.length := by simp at h; omega
    obtain ⟨a, ha⟩ : ∃ x, xs[i]? = some x := ⟨_, List.getElem?_eq_getElem (by omega)⟩
    obtain ⟨b, hb⟩ : ∃ x, xs[i + 1]? = some x := ⟨_, List.getElem?_eq_getElem hlt⟩
    have hae := gm (enc := encP) (n := ((i + 1 : Nat) : Int) - 1) ha (by omega)
    have hbe := gm (enc := encP) (n := ((i + 1 : Nat) : Int)) hb (by omega)
    rw [sortedL_drop ha hb] at hv
    repeat first | refine o_copy ?_ | refine nl ?_ | refine ct_seq ?_ | refine rg ?_ | refine ct_block ?_ | refine bq ?_ | refine o_loads ?_ | refine o_loadp ?_ | refine o_faddr ?_ | refine o_iaddr ?_ | refine o_iaddrO ?_ | refine o_iaddrR ?_ | refine o_add ?_ | refine o_sub ?_ | refine o_cat ?_ | refine o_bin ?_ | refine o_lenq ?_ | refine o_len ?_
    refine cnd (fun hc => ?_) (fun hc => ct_skip ?_)
    · repeat first | refine o_copy ?_ | refine nl ?_ | refine ct_seq ?_ | refine rg ?_ | refine ct_block ?_ | refine bq ?_ | refine o_loads ?_ | refine o_loadp ?_ | refine o_faddr ?_ | refine o_iaddr ?_ | refine o_iaddrO ?_ | refine o_iaddrR ?_ | refine o_add ?_ | refine o_sub ?_ | refine o_cat ?_ | refine o_bin ?_ | refine o_lenq ?_ | refine o_len ?_
      refine ct_ret ⟨.inr rfl, oAny ?_⟩
      rw [← hv, (by simpa using hc : Op.bytesLess a.key b.key = false)]
      rfl
    · repeat first | refine o_copy ?_ | refine nl ?_ | refine ct_seq ?_ | refine rg ?_ | refine ct_block ?_ | refine bq ?_ | refine o_loads ?_ | refine o_loadp ?_ | refine o_faddr ?_ | refine o_iaddr ?_ | refine o_iaddrO ?_ | refine o_iaddrR ?_ | refine o_add ?_ | refine o_sub ?_ | refine o_cat ?_ | refine o_bin ?_ | refine o_lenq ?_ | refine o_len ?_
      refine agn (i + 1) ⟨?_, by omega⟩ goes
      rw [← hv, (by simpa using hc : Op.bytesLess a.key b.key = true)]
      rfl
  · repeat first | refine o_copy ?_ | refine nl ?_ | refine ct_seq ?_ | refine rg ?_ | refine ct_block ?_ | refine bq ?_ | refine o_loads ?_ | refine o_loadp ?_ | refine o_faddr ?_ | refine o_iaddr ?_ | refine o_iaddrO ?_ | refine o_iaddrR ?_ | refine o_add ?_ | refine o_sub ?_ | refine o_cat ?_ | refine o_bin ?_ | refine o_lenq ?_ | refine o_len ?_
    refine ct_ret ⟨.inr rfl, oAny ?_⟩
    have hge : xs.length ≤ i + 1 := by have h' := of_decide_eq_false h; simp only [List.length_map] at h'; omega
    rw [← hv]
    rcases Nat.lt_or_ge i xs.length with h1 | h1
    · obtain ⟨a, ha⟩ : ∃ x, xs[i]? = some x := ⟨_, List.getElem?_eq_getElem h1⟩
      rw [drop_get ha, List.drop_of_length_le hge]; rfl
    · rw [List.drop_of_length_le h1]; rfl

theorem madeL_srt (l : List RawL) : Srt (madeL l) := by
  have key : ∀ (l : List RawL) (t : List PairL), Srt t → Srt (l.foldl (fun t x => putL t (pairL x)) t) := by
    intro l
    induction l with
    | nil => intro t h; exact h
    | cons x l ih => intro t h; exact ih _ (putL_srt h)
  exact key _ _ List.Pairwise.nil
theorem madeL_len (l : List RawL) : (madeL l).length ≤ 40 := by
  have key : ∀ (l : List RawL) (t : List PairL), (l.foldl (fun t x => putL t (pairL x)) t).length ≤ t.length + l.length := by
    intro l
    induction l with
    | nil => intro t; simp
    | cons x l ih =>
      intro t
      refine Nat.le_trans (ih _) ?_
      have := putL_len t (pairL x)
      simp only [List.length_cons]; omega
  have := key (l.take 40) []
  have h2 : (l.take 40).length ≤ 40 := by simp; omega
  unfold madeL
  simp only [List.length_nil] at this
  omega

theorem law_vc {q1 q2 : PV} {raw : List PairL} {l : List RawL} {a b c : Nat} (h1 : Sl q1 (raw.map encP)) (h2 : Sl q2 (l.map encR)) (ha : a < 256) (hb : b < 256) (hc : c < 256) : VC Try.prog 4 [q1, q2, .agg [.int .u8 a, .int .u8 b, .int .u8 c]] [] (.bool true) [] := by
  refine vc_of vf4 ?_ (Nat.le_of_ble_eq_true rfl) (by intro vs h; cases h)
  repeat first | refine o_copy ?_ | refine nl ?_ | refine ct_seq ?_ | refine rg ?_ | refine ct_block ?_ | refine bq ?_ | refine cv0 sanity_vc ?_ | refine o_loads ?_ | refine o_loadp ?_ | refine o_iaddr ?_ | refine o_iaddrO ?_ | refine o_iaddrR ?_ | refine o_bin ?_ | refine o_lenq ?_ | refine o_len ?_ | refine o_loadsA ?_ | refine o_loadpA ?_ | refine o_box ?_ | refine o_bslice ?_ | refine o_store ?_ | refine o_pickt ?_ | refine o_pickf ?_ | refine o_iaddrA ?_ | refine o_eqb ?_ | refine skF ?_ | refine skU ?_
  refine cnd (fun h => ?_) (fun h => ct_skip ?_)
  · repeat first | refine o_copy ?_ | refine nl ?_ | refine ct_seq ?_ | refine rg ?_ | refine ct_block ?_ | refine bq ?_ | refine o_loads ?_ | refine o_loadp ?_ | refine o_iaddr ?_ | refine o_iaddrO ?_ | refine o_iaddrR ?_ | refine o_bin ?_ | refine o_lenq ?_ | refine o_len ?_ | refine o_loadsA ?_ | refine o_loadpA ?_ | refine o_box ?_ | refine o_bslice ?_ | refine o_store ?_ | refine o_pickt ?_ | refine o_pickf ?_ | refine o_iaddrA ?_ | refine o_eqb ?_ | refine skF ?_ | refine skU ?_
    exact ct_ret ⟨.inr rfl, oAny rfl⟩
  · have hraw : raw.length ≤ 30 := by have h' := of_decide_eq_false h; simp only [List.length_map] at h'; omega
    have hlen := madeL_len l
    have hs := sortedL_iff.2 (madeL_srt l)
    generalize ht : madeL l = t at hlen hs
    have hm := made_vc h2
    rw [ht] at hm
    repeat first | refine o_copy ?_ | refine nl ?_ | refine ct_seq ?_ | refine rg ?_ | refine ct_block ?_ | refine bq ?_ | refine cv hm ?_ | refine o_v (vaps encP [] t) ?_ | refine o_loads ?_ | refine o_loadp ?_ | refine o_iaddr ?_ | refine o_iaddrO ?_ | refine o_iaddrR ?_ | refine o_bin ?_ | refine o_lenq ?_ | refine o_len ?_ | refine o_loadsA ?_ | refine o_loadpA ?_ | refine o_box ?_ | refine o_bslice ?_ | refine o_store ?_ | refine o_pickt ?_ | refine o_pickf ?_ | refine o_iaddrA ?_ | refine o_eqb ?_ | refine skF ?_ | refine skU ?_
    refine cnd (fun hn => ?_) (fun hn => ct_skip ?_)
    · have hpos : 0 < t.length := by have h' := of_decide_eq_true hn; simp only [List.length_map] at h'; omega
      have hla : a % t.length < t.length := Nat.mod_lt _ hpos
      have hlb : b % t.length < t.length := Nat.mod_lt _ hpos
      have hlen0 : ((t.map encP).length : Int) ≠ 0 := by simp only [List.length_map]; omega
      have hlens : (t.map encP).length = t.length := List.length_map ..
      have ca : IntKind.i64.wrap (a : Int) = a := wrap64 (by omega) (by omega)
      have cb : IntKind.i64.wrap (b : Int) = b := wrap64 (by omega) (by omega)
      have ra : (a : Int).tmod ((t.map encP).length : Int) = ((a % t.length : Nat) : Int) := by rw [hlens]; rfl
      have rb : (b : Int).tmod ((t.map encP).length : Int) = ((b % t.length : Nat) : Int) := by rw [hlens]; rfl
      obtain ⟨x, hx⟩ : ∃ x, t[b % t.length]? = some x := ⟨_, List.getElem?_eq_getElem hlb⟩
      obtain ⟨y, hy⟩ : ∃ x, t[a % t.length]? = some x := ⟨_, List.getElem?_eq_getElem hla⟩
      have hxe := gm (enc := encP) (n := ((b % t.length : Nat) : Int)) hx (by omega)
      have hye := gm (enc := encP) (n := ((a % t.length : Nat) : Int)) hy (by omega)
      repeat first | refine o_copy ?_ | refine nl ?_ | refine ct_seq ?_ | refine rg ?_ | refine ct_block ?_ | refine bq ?_ | refine o_convE ?_ | refine o_rem ?_ | refine o_v (vst encP x) ?_ | refine o_loads ?_ | refine o_loadp ?_ | refine o_iaddr ?_ | refine o_iaddrO ?_ | refine o_iaddrR ?_ | refine o_bin ?_ | refine o_lenq ?_ | refine o_len ?_ | refine o_loadsA ?_ | refine o_loadpA ?_ | refine o_box ?_ | refine o_bslice ?_ | refine o_store ?_ | refine o_pickt ?_ | refine o_pickf ?_ | refine o_iaddrA ?_ | refine o_eqb ?_ | refine skF ?_ | refine skU ?_
      refine cnd (fun h2c => ?_) (fun h2c => ct_skip ?_)
      · repeat first | refine o_copy ?_ | refine nl ?_ | refine ct_seq ?_ | refine rg ?_ | refine ct_block ?_ | refine bq ?_ | refine o_v (vst encP y) ?_ | refine o_loads ?_ | refine o_loadp ?_ | refine o_iaddr ?_ | refine o_iaddrO ?_ | refine o_iaddrR ?_ | refine o_bin ?_ | refine o_lenq ?_ | refine o_len ?_ | refine o_loadsA ?_ | refine o_loadpA ?_ | refine o_box ?_ | refine o_bslice ?_ | refine o_store ?_ | refine o_pickt ?_ | refine o_pickf ?_ | refine o_iaddrA ?_ | refine o_eqb ?_ | refine skF ?_ | refine skU ?_
        have hod : ((([] ++ t).set (((a % t.length : Nat) : Int).toNat) x).set (((b % t.length : Nat) : Int).toNat) y).length ≤ 1000000000 := by simp; omega
        have ho : sortedL ((([] ++ t).set (((a % t.length : Nat) : Int).toNat) x).set (((b % t.length : Nat) : Int).toNat) y) = sortedL ((([] ++ t).set (((a % t.length : Nat) : Int).toNat) x).set (((b % t.length : Nat) : Int).toNat) y) := rfl
        have he : (sortedL ((([] ++ t).set (((a % t.length : Nat) : Int).toNat) x).set (((b % t.length : Nat) : Int).toNat) y) == sortedL ((([] ++ t).set (((a % t.length : Nat) : Int).toNat) x).set (((b % t.length : Nat) : Int).toNat) y)) = true := by simp
        have he2 : (sortedL raw == sortedL raw) = true := by simp
        have ht30 := valid_vc (q := .sh false (t.map encP)) (xs := t) Sl.sh (by omega)
        have ho30 := valid_vc (q := .sh false (((([] ++ t).set (((a % t.length : Nat) : Int).toNat) x).set (((b % t.length : Nat) : Int).toNat) y).map encP)) (xs := (([] ++ t).set (((a % t.length : Nat) : Int).toNat) x).set (((b % t.length : Nat) : Int).toNat) y) Sl.sh hod
        have ho31 := rvalid_vc (q := .sh false (((([] ++ t).set (((a % t.length : Nat) : Int).toNat) x).set (((b % t.length : Nat) : Int).toNat) y).map encP)) (xs := (([] ++ t).set (((a % t.length : Nat) : Int).toNat) x).set (((b % t.length : Nat) : Int).toNat) y) Sl.sh hod
        have hr30 := valid_vc h1 (by omega)
        have hr31 := rvalid_vc h1 (by omega)
        repeat first | refine o_copy ?_ | refine nl ?_ | refine ct_seq ?_ | refine rg ?_ | refine ct_block ?_ | refine bq ?_ | refine cv0 ht30 ?_ | refine cv0 ho30 ?_ | refine cv0 ho31 ?_ | refine cv0 hr30 ?_ | refine cv0 hr31 ?_ | refine o_loads ?_ | refine o_loadp ?_ | refine o_iaddr ?_ | refine o_iaddrO ?_ | refine o_iaddrR ?_ | refine o_bin ?_ | refine o_lenq ?_ | refine o_len ?_ | refine o_loadsA ?_ | refine o_loadpA ?_ | refine o_box ?_ | refine o_bslice ?_ | refine o_store ?_ | refine o_pickt ?_ | refine o_pickf ?_ | refine o_iaddrA ?_ | refine o_eqb ?_ | refine skF ?_ | refine skU ?_
        exact ct_ret ⟨.inr rfl, oAny rfl⟩
      · skip
        have hod : (([] ++ t).set (((a % t.length : Nat) : Int).toNat) x).length ≤ 1000000000 := by simp; omega
        have ho : sortedL (([] ++ t).set (((a % t.length : Nat) : Int).toNat) x) = sortedL (([] ++ t).set (((a % t.length : Nat) : Int).toNat) x) := rfl
        have he : (sortedL (([] ++ t).set (((a % t.length : Nat) : Int).toNat) x) == sortedL (([] ++ t).set (((a % t.length : Nat) : Int).toNat) x)) = true := by simp
        have he2 : (sortedL raw == sortedL raw) = true := by simp
        have ht30 := valid_vc (q := .sh false (t.map encP)) (xs := t) Sl.sh (by omega)
        have ho30 := valid_vc (q := .sh false ((([] ++ t).set (((a % t.length : Nat) : Int).toNat) x).map encP)) (xs := ([] ++ t).set (((a % t.length : Nat) : Int).toNat) x) Sl.sh hod
        have ho31 := rvalid_vc (q := .sh false ((([] ++ t).set (((a % t.length : Nat) : Int).toNat) x).map encP)) (xs := ([] ++ t).set (((a % t.length : Nat) : Int).toNat) x) Sl.sh hod
        have hr30 := valid_vc h1 (by omega)
        have hr31 := rvalid_vc h1 (by omega)
        repeat first | refine o_copy ?_ | refine nl ?_ | refine ct_seq ?_ | refine rg ?_ | refine ct_block ?_ | refine bq ?_ | refine cv0 ht30 ?_ | refine cv0 ho30 ?_ | refine cv0 ho31 ?_ | refine cv0 hr30 ?_ | refine cv0 hr31 ?_ | refine o_loads ?_ | refine o_loadp ?_ | refine o_iaddr ?_ | refine o_iaddrO ?_ | refine o_iaddrR ?_ | refine o_bin ?_ | refine o_lenq ?_ | refine o_len ?_ | refine o_loadsA ?_ | refine o_loadpA ?_ | refine o_box ?_ | refine o_bslice ?_ | refine o_store ?_ | refine o_pickt ?_ | refine o_pickf ?_ | refine o_iaddrA ?_ | refine o_eqb ?_ | refine skF ?_ | refine skU ?_
        exact ct_ret ⟨.inr rfl, oAny rfl⟩
    · skip
      have hod : ([] ++ t).length ≤ 1000000000 := by simp; omega
      have ho : sortedL ([] ++ t) = sortedL ([] ++ t) := rfl
      have he : (sortedL ([] ++ t) == sortedL ([] ++ t)) = true := by simp
      have he2 : (sortedL raw == sortedL raw) = true := by simp
      have ht30 := valid_vc (q := .sh false (t.map encP)) (xs := t) Sl.sh (by omega)
      have ho30 := valid_vc (q := .sh false (([] ++ t).map encP)) (xs := [] ++ t) Sl.sh hod
      have ho31 := rvalid_vc (q := .sh false (([] ++ t).map encP)) (xs := [] ++ t) Sl.sh hod
      have hr30 := valid_vc h1 (by omega)
      have hr31 := rvalid_vc h1 (by omega)
      repeat first | refine o_copy ?_ | refine nl ?_ | refine ct_seq ?_ | refine rg ?_ | refine ct_block ?_ | refine bq ?_ | refine cv0 ht30 ?_ | refine cv0 ho30 ?_ | refine cv0 ho31 ?_ | refine cv0 hr30 ?_ | refine cv0 hr31 ?_ | refine o_loads ?_ | refine o_loadp ?_ | refine o_iaddr ?_ | refine o_iaddrO ?_ | refine o_iaddrR ?_ | refine o_bin ?_ | refine o_lenq ?_ | refine o_len ?_ | refine o_loadsA ?_ | refine o_loadpA ?_ | refine o_box ?_ | refine o_bslice ?_ | refine o_store ?_ | refine o_pickt ?_ | refine o_pickf ?_ | refine o_iaddrA ?_ | refine o_eqb ?_ | refine skF ?_ | refine skU ?_
      exact ct_ret ⟨.inr rfl, oAny rfl⟩
end Go.Proofs
open Go.V Go.Pu
set_option linter.unusedVariables false
namespace Go.Proofs
theorem decP {l : List (List PV)} (h : InTy (.sl [.str, .str, .int .i64]) (.sh false l)) : ∃ xs : List PairL, l = xs.map encP ∧ xs.length ≤ maxLen := decodeL h fun e hl hc => by
  obtain ⟨a, b, c, rfl⟩ := list3 hl
  obtain ⟨s, rfl, _⟩ := in_str (hc 0 _ _ rfl rfl)
  obtain ⟨t, rfl, _⟩ := in_str (hc 1 _ _ rfl rfl)
  obtain ⟨n, rfl, _⟩ := in_int (hc 2 _ _ rfl rfl)
  exact ⟨⟨s, t, n⟩, rfl⟩
theorem decR {l : List (List PV)} (h : InTy (.sl [.int .u8, .int .u8, .int .u8]) (.sh false l)) : ∃ xs : List RawL, l = xs.map encR ∧ xs.length ≤ maxLen := decodeL h fun e hl hc => by
  obtain ⟨a, b, c, rfl⟩ := list3 hl
  obtain ⟨x, rfl, hx⟩ := in_u8 (hc 0 _ _ rfl rfl)
  obtain ⟨y, rfl, hy⟩ := in_u8 (hc 1 _ _ rfl rfl)
  obtain ⟨z, rfl, hz⟩ := in_u8 (hc 2 _ _ rfl rfl)
  exact ⟨⟨x, y, z, hx, hy, hz⟩, rfl⟩
theorem tableValid_in (l0 : List (List PV)) (i0 : InTy (.sl [.str, .str, .int .i64]) (.sh false l0)) (l1 : List (List PV)) (i1 : InTy (.sl [.int .u8, .int .u8, .int .u8]) (.sh false l1)) (qs : List PV) (hl : qs.length = [CTy.int .u8, .int .u8, .int .u8].length) (hq : ∀ (j : Nat) (c : CTy) (q : PV), [CTy.int .u8, .int .u8, .int .u8][j]? = some c → qs[j]? = some q → InTy c q) :
    VC Try.prog 4 [.sh false l0, .sh false l1, .agg qs] [] (.bool true) [] := by
  obtain ⟨raw, rfl, _⟩ := decP i0
  obtain ⟨l, rfl, _⟩ := decR i1
  obtain ⟨a, b, c, rfl⟩ := list3 hl
  obtain ⟨x, rfl, hx⟩ := in_u8 (hq 0 _ _ rfl rfl)
  obtain ⟨y, rfl, hy⟩ := in_u8 (hq 1 _ _ rfl rfl)
  obtain ⟨z, rfl, hz⟩ := in_u8 (hq 2 _ _ rfl rfl)
  exact law_vc Sl.sh Sl.sh hx hy hz
end Go.Proofs
open Go.V Go.Pu
set_option linter.unusedVariables false
set_option linter.unusedSimpArgs false
set_option maxRecDepth 20000
namespace Go.Proofs
/-- downspout/table.Union -/
def vc25 : VCode :=
 (.seq
 (.region 0 false [
 ⟨(some 4), .copy (.c .nils), none, 0, []⟩])
 (.scope
 (.seq
 (.region 1 false [
 ⟨(some 6), .copy (.t 0), none, 8192, []⟩,
 ⟨(some 7), .len (.t 6), none, 8200, [0]⟩,
 ⟨(some 8), .copy (.t 1), none, 8208, []⟩,
 ⟨(some 9), .len (.t 8), none, 8216, [2]⟩,
 ⟨(some 10), .bin .add (.t 7) (.t 9), none, 8224, [1, 0, 3, 2]⟩,
 ⟨(some 11), .mkslice 40 [(.str []), (.str []), (.int .i64 0)] (.c (.int .i64 0)) (.t 10), none, 8232, [4, 1, 0, 3, 2]⟩,
 ⟨(some 5), .copy (.t 11), none, 8240, [5, 4, 1, 0, 3, 2]⟩])
 (.seq
 (.label 0)
 (.seq
 (.block 0
 (.loop
 (.block 1
 (.seq
 (.block 2
 (.seq
 (.region 2 false [
 ⟨(some 13), .copy (.t 0), none, 16384, []⟩,
 ⟨(some 14), .len (.t 13), none, 16392, [0]⟩,
 ⟨(some 15), .bin .eql (.t 14) (.c (.int .i64 0)), none, 16400, [1, 0]⟩,
 ⟨(some 16), .copy (.t 15), none, 16408, [2, 1, 0]⟩,
 ⟨(some 17), .copy (.t 1), (some (3, 16, false)), 16416, [3, 2, 1, 0]⟩,
 ⟨(some 18), .len (.t 17), (some (3, 16, false)), 16424, [4, 3, 2, 1, 0]⟩,
 ⟨(some 19), .bin .eql (.t 18) (.c (.int .i64 0)), (some (3, 16, false)), 16432, [5, 4, 3, 2, 1, 0]⟩,
 ⟨(some 20), .pick (.t 16) (.c (.bool true)) (.t 19), none, 16440, [3, 2, 1, 0, 6, 5, 4]⟩,
 ⟨(some 12), .copy (.t 20), none, 16448, [7, 3, 2, 1, 0, 6, 5, 4]⟩])
 (.cond (.t 12)
 (.exit 0)
 (.seq
 (.region 3 true [
 ⟨(some 22), .copy (.t 0), none, 24576, []⟩,
 ⟨(some 23), .iaddr 3 (.t 22) (.c (.int .i64 0)), none, 24584, [0]⟩,
 ⟨(some 24), .faddr 0 (.t 23), none, 24592, [1, 0]⟩,
 ⟨(some 25), .load false 1 (.t 24), none, 24600, [2, 1, 0]⟩,
 ⟨(some 26), .copy (.t 1), none, 24608, []⟩,
 ⟨(some 27), .iaddr 3 (.t 26) (.c (.int .i64 0)), none, 24616, [4]⟩,
 ⟨(some 28), .faddr 0 (.t 27), none, 24624, [5, 4]⟩,
 ⟨(some 29), .load false 1 (.t 28), none, 24632, [6, 5, 4]⟩,
 ⟨(some 30), .bin .lss (.t 25) (.t 29), none, 24640, [3, 2, 1, 0, 7, 6, 5, 4]⟩,
 ⟨(some 21), .copy (.t 30), none, 24648, [8, 3, 2, 1, 0, 7, 6, 5, 4]⟩])
 (.cond (.t 21)
 (.seq
 (.region 4 true [
 ⟨(some 31), .copy (.t 5), none, 32768, []⟩,
 ⟨(some 32), .copy (.t 0), none, 32776, []⟩,
 ⟨(some 33), .iaddr 3 (.t 32) (.c (.int .i64 0)), none, 32784, [1]⟩,
 ⟨(some 34), .load true 3 (.t 33), none, 32792, [2, 1]⟩,
 ⟨(some 35), .bslice 3 [(.str []), (.str []), (.int .i64 0)] 1 [(0, (.t 34))], none, 32800, [3, 2, 1]⟩,
 ⟨(some 36), .append 3 40 [(.str []), (.str []), (.int .i64 0)] (.t 31) (.t 35), none, 32808, [0, 4, 3, 2, 1]⟩,
 ⟨(some 37), .copy (.t 0), none, 32816, []⟩,
 ⟨(some 38), .slsl 3 (.t 37) (some (.c (.int .i64 1))) none none, none, 32824, [6]⟩,
 ⟨(some 5), .copy (.t 36), none, 32832, [5, 0, 4, 3, 2, 1]⟩,
 ⟨(some 0), .copy (.t 38), none, 32840, [7, 6, 8, 5, 0, 4, 3, 2, 1]⟩])
 (.exit 1))
 (.seq
 (.region 5 true [
 ⟨(some 40), .copy (.t 0), none, 40960, []⟩,
 ⟨(some 41), .iaddr 3 (.t 40) (.c (.int .i64 0)), none, 40968, [0]⟩,
 ⟨(some 42), .faddr 0 (.t 41), none, 40976, [1, 0]⟩,
 ⟨(some 43), .load false 1 (.t 42), none, 40984, [2, 1, 0]⟩,
 ⟨(some 44), .copy (.t 1), none, 40992, []⟩,
 ⟨(some 45), .iaddr 3 (.t 44) (.c (.int .i64 0)), none, 41000, [4]⟩,
 ⟨(some 46), .faddr 0 (.t 45), none, 41008, [5, 4]⟩,
 ⟨(some 47), .load false 1 (.t 46), none, 41016, [6, 5, 4]⟩,
 ⟨(some 48), .bin .eql (.t 43) (.t 47), none, 41024, [3, 2, 1, 0, 7, 6, 5, 4]⟩,
 ⟨(some 39), .copy (.t 48), none, 41032, [8, 3, 2, 1, 0, 7, 6, 5, 4]⟩])
 (.cond (.t 39)
 (.region 6 false [
 ⟨(some 49), .copy (.t 0), none, 49152, []⟩,
 ⟨(some 50), .slsl 3 (.t 49) (some (.c (.int .i64 1))) none none, none, 49160, [0]⟩,
 ⟨(some 0), .copy (.t 50), none, 49168, [1, 0]⟩])
 .skip)))))))
 (.region 7 true [
 ⟨(some 51), .copy (.t 5), none, 57344, []⟩,
 ⟨(some 52), .copy (.t 1), none, 57352, []⟩,
 ⟨(some 53), .iaddr 3 (.t 52) (.c (.int .i64 0)), none, 57360, [1]⟩,
 ⟨(some 54), .load true 3 (.t 53), none, 57368, [2, 1]⟩,
 ⟨(some 55), .bslice 3 [(.str []), (.str []), (.int .i64 0)] 1 [(0, (.t 54))], none, 57376, [3, 2, 1]⟩,
 ⟨(some 56), .append 3 40 [(.str []), (.str []), (.int .i64 0)] (.t 51) (.t 55), none, 57384, [0, 4, 3, 2, 1]⟩,
 ⟨(some 57), .copy (.t 1), none, 57392, []⟩,
 ⟨(some 58), .slsl 3 (.t 57) (some (.c (.int .i64 1))) none none, none, 57400, [6]⟩,
 ⟨(some 5), .copy (.t 56), none, 57408, [5, 0, 4, 3, 2, 1]⟩,
 ⟨(some 1), .copy (.t 58), none, 57416, [7, 6, 8, 5, 0, 4, 3, 2, 1]⟩])))))
 (.seq
 (.region 8 false [
 ⟨(some 59), .copy (.t 5), none, 65536, []⟩,
 ⟨(some 60), .copy (.t 0), none, 65544, []⟩,
 ⟨(some 61), .append 3 40 [(.str []), (.str []), (.int .i64 0)] (.t 59) (.t 60), none, 65552, [0, 1]⟩,
 ⟨(some 62), .copy (.t 1), none, 65560, []⟩,
 ⟨(some 63), .append 3 40 [(.str []), (.str []), (.int .i64 0)] (.t 61) (.t 62), none, 65568, [2, 0, 1, 3]⟩,
 ⟨(some 4), .copy (.t 63), none, 65576, [4, 2, 0, 1, 3]⟩])
 .ret))))))
theorem vf25 : VF Try.prog 25 = some (64, vc25, [.tmp 4]) := by kernel_rfl
/-- downspout/downspoutref04.Same -/
def vc17 : VCode :=
 (.seq
 (.region 0 false [
 ⟨(some 4), .copy (.c (.bool false)), none, 0, []⟩])
 (.seq
 (.seq
 (.region 1 false [
 ⟨(some 6), .copy (.t 0), none, 8192, []⟩,
 ⟨(some 7), .len (.t 6), none, 8200, [0]⟩,
 ⟨(some 8), .copy (.t 1), none, 8208, []⟩,
 ⟨(some 9), .len (.t 8), none, 8216, [2]⟩,
 ⟨(some 10), .bin .neq (.t 7) (.t 9), none, 8224, [1, 0, 3, 2]⟩])
 (.cond (.t 10)
 (.seq
 (.region 2 false [
 ⟨(some 4), .copy (.c (.bool false)), none, 16384, []⟩])
 .ret)
 .skip))
 (.seq
 (.seq
 (.region 3 false [
 ⟨(some 5), .copy (.c (.int .i64 0)), none, 24576, []⟩])
 (.block 0
 (.loop
 (.seq
 (.seq
 (.region 4 false [
 ⟨(some 11), .copy (.t 5), none, 32768, []⟩,
 ⟨(some 12), .copy (.t 0), none, 32776, []⟩,
 ⟨(some 13), .len (.t 12), none, 32784, [1]⟩,
 ⟨(some 14), .bin .lss (.t 11) (.t 13), none, 32792, [0, 2, 1]⟩])
 (.cond (.t 14)
 .skip
 (.exit 0)))
 (.seq
 (.block 1
 (.seq
 (.region 6 true [
 ⟨(some 17), .copy (.t 0), none, 49152, []⟩,
 ⟨(some 18), .copy (.t 5), none, 49160, []⟩,
 ⟨(some 19), .iaddr 3 (.t 17) (.t 18), none, 49168, [0, 1]⟩,
 ⟨(some 20), .load true 3 (.t 19), none, 49176, [2, 0, 1]⟩,
 ⟨(some 21), .copy (.t 1), none, 49184, []⟩,
 ⟨(some 22), .copy (.t 5), none, 49192, []⟩,
 ⟨(some 23), .iaddr 3 (.t 21) (.t 22), none, 49200, [4, 5]⟩,
 ⟨(some 24), .load true 3 (.t 23), none, 49208, [6, 4, 5]⟩,
 ⟨(some 25), .eqc true [2, 2, 1] (.t 20) (.t 24), none, 49216, [3, 2, 0, 1, 7, 6, 4, 5]⟩])
 (.cond (.t 25)
 (.seq
 (.region 7 false [
 ⟨(some 4), .copy (.c (.bool false)), none, 57344, []⟩])
 .ret)
 .skip)))
 (.region 5 false [
 ⟨(some 15), .copy (.t 5), none, 40960, []⟩,
 ⟨(some 16), .bin .add (.t 15) (.c (.int .i64 1)), none, 40968, [0]⟩,
 ⟨(some 5), .copy (.t 16), none, 40976, [1, 0]⟩]))))))
 (.seq
 (.region 8 false [
 ⟨(some 4), .copy (.c (.bool true)), none, 65536, []⟩])
 .ret))))
theorem vf17 : VF Try.prog 17 = some (26, vc17, [.tmp 4]) := by kernel_rfl
/-- downspout/downspoutref04.Find -/
def vc16 : VCode :=
 (.seq
 (.region 0 false [
 ⟨(some 4), .alloc [(.str []), (.str []), (.int .i64 0)], none, 0, []⟩,
 ⟨(some 5), .copy (.c (.bool false)), none, 8, []⟩])
 (.seq
 (.seq
 (.region 1 false [
 ⟨(some 6), .copy (.c (.int .i64 0)), none, 8192, []⟩])
 (.block 0
 (.loop
 (.seq
 (.seq
 (.region 2 false [
 ⟨(some 7), .copy (.t 6), none, 16384, []⟩,
 ⟨(some 8), .copy (.t 0), none, 16392, []⟩,
 ⟨(some 9), .len (.t 8), none, 16400, [1]⟩,
 ⟨(some 10), .bin .lss (.t 7) (.t 9), none, 16408, [0, 2, 1]⟩])
 (.cond (.t 10)
 .skip
 (.exit 0)))
 (.seq
 (.block 1
 (.seq
 (.region 4 false [
 ⟨(some 13), .copy (.t 0), none, 32768, []⟩,
 ⟨(some 14), .copy (.t 6), none, 32776, []⟩,
 ⟨(some 15), .iaddr 3 (.t 13) (.t 14), none, 32784, [0, 1]⟩,
 ⟨(some 16), .faddr 0 (.t 15), none, 32792, [2, 0, 1]⟩,
 ⟨(some 17), .load false 1 (.t 16), none, 32800, [3, 2, 0, 1]⟩,
 ⟨(some 18), .copy (.t 1), none, 32808, []⟩,
 ⟨(some 19), .bin .eql (.t 17) (.t 18), none, 32816, [4, 3, 2, 0, 1, 5]⟩])
 (.cond (.t 19)
 (.seq
 (.region 5 false [
 ⟨(some 20), .copy (.t 0), none, 40960, []⟩,
 ⟨(some 21), .copy (.t 6), none, 40968, []⟩,
 ⟨(some 22), .iaddr 3 (.t 20) (.t 21), none, 40976, [0, 1]⟩,
 ⟨(some 23), .load true 3 (.t 22), none, 40984, [2, 0, 1]⟩,
 ⟨none, .store 3 (.t 4) (.t 23), none, 40992, [3, 2, 0, 1]⟩,
 ⟨(some 5), .copy (.c (.bool true)), none, 41000, [4, 3, 2, 0, 1]⟩])
 .ret)
 .skip)))
 (.region 3 false [
 ⟨(some 11), .copy (.t 6), none, 24576, []⟩,
 ⟨(some 12), .bin .add (.t 11) (.c (.int .i64 1)), none, 24584, [0]⟩,
 ⟨(some 6), .copy (.t 12), none, 24592, [1, 0]⟩]))))))
 (.seq
 (.region 6 false [
 ⟨(some 24), .build [(.str []), (.str []), (.int .i64 0)] [], none, 49152, []⟩,
 ⟨none, .store 3 (.t 4) (.t 24), none, 49160, [0]⟩,
 ⟨(some 5), .copy (.c (.bool false)), none, 49168, [1, 0]⟩])
 .ret)))
theorem vf16 : VF Try.prog 16 = some (25, vc16, [.cell true 3 4, .tmp 5]) := by kernel_rfl
/-! Union -/
set_option maxHeartbeats 1000000 in
theorem union_vc0 {a b : List PairL} (ha : a.length ≤ 1000000) (hb : b.length ≤ 1000000) : VC Try.prog 25 [.sh false (a.map encP), .sh false (b.map encP)] [] (ownV ⟨0, 0⟩ ((unionL a b).map encP)) [blkV 3 ((unionL a b).map encP)] := by
  refine vc_of vf25 ?_ (Nat.le_of_ble_eq_true rfl) (by intro vs h; cases h)
  have hma : (a.map encP).length = a.length := List.length_map ..
  have hmb : (b.map encP).length = b.length := List.length_map ..
  have hul := union_len a b
  repeat first | refine o_copy ?_ | refine nl ?_ | refine ct_seq ?_ | refine rg ?_ | refine ct_block ?_ | refine bq ?_ | refine o_loads ?_ | refine o_loadp ?_ | refine o_faddr ?_ | refine o_iaddr ?_ | refine o_iaddrO ?_ | refine o_iaddrR ?_ | refine o_add ?_ | refine o_cat ?_ | refine o_bin ?_ | refine o_lenq ?_ | refine o_len ?_ | refine o_loadsA ?_ | refine o_loadpA ?_ | refine o_bslice ?_ | refine o_pickt ?_ | refine o_pickf ?_ | refine skF ?_ | refine skU ?_
  refine ct_scope ?_
  repeat first | refine o_copy ?_ | refine nl ?_ | refine ct_seq ?_ | refine rg ?_ | refine ct_block ?_ | refine bq ?_ | refine o_v vmk0 ?_ | refine o_loads ?_ | refine o_loadp ?_ | refine o_faddr ?_ | refine o_iaddr ?_ | refine o_iaddrO ?_ | refine o_iaddrR ?_ | refine o_add ?_ | refine o_cat ?_ | refine o_bin ?_ | refine o_lenq ?_ | refine o_len ?_ | refine o_loadsA ?_ | refine o_loadpA ?_ | refine o_bslice ?_ | refine o_pickt ?_ | refine o_pickf ?_ | refine skF ?_ | refine skU ?_
  refine ct_label ?_
  refine ct_mid (lvl := 1) (fun (g : List PairL × List PairL × List PairL) => [(0, .sh false (g.1.map encP)), (1, .sh false (g.2.1.map encP)), (5, ownV ⟨1, 8232⟩ (g.2.2.map encP))])
    (fun g => [(⟨1, 8232⟩, blkV 3 (g.2.2.map encP))]) (fun g => (g.2.2 ++ g.1) ++ g.2.1 = unionL a b) (ct_block ?_) ?_
  · refine ct_loopG (fun (g : List PairL × List PairL × List PairL) => [(0, .sh false (g.1.map encP)), (1, .sh false (g.2.1.map encP)), (5, ownV ⟨1, 8232⟩ (g.2.2.map encP))])
      (fun g => [(⟨1, 8232⟩, blkV 3 (g.2.2.map encP))]) (fun g => g.1.length + g.2.1.length)
      (fun g => g.1.length ≤ a.length ∧ g.2.1.length ≤ b.length ∧ g.2.2 ++ unionL g.1 g.2.1 = unionL a b) (a, b, []) goes ⟨Nat.le_refl _, Nat.le_refl _, rfl⟩ ?_
    rintro ⟨xs, ys, o⟩ ⟨h1, h2, hv⟩
    dsimp only at h1 h2 hv ⊢
    have hol : o.length ≤ 2000000 := by
      have := congrArg List.length hv
      simp only [List.length_append] at this
      omega
    cases xs with
    | nil =>
      rw [nil_union] at hv
      repeat first | refine o_copy ?_ | refine nl ?_ | refine ct_seq ?_ | refine rg ?_ | refine ct_block ?_ | refine bq ?_ | refine o_loads ?_ | refine o_loadp ?_ | refine o_faddr ?_ | refine o_iaddr ?_ | refine o_iaddrO ?_ | refine o_iaddrR ?_ | refine o_add ?_ | refine o_cat ?_ | refine o_bin ?_ | refine o_lenq ?_ | refine o_len ?_ | refine o_loadsA ?_ | refine o_loadpA ?_ | refine o_bslice ?_ | refine o_pickt ?_ | refine o_pickf ?_ | refine skF ?_ | refine skU ?_
      refine cndt (ct_exit ?_)
      exact ⟨([], ys, o), by simpa using hv, goes⟩
    | cons x xs =>
      have hn1 : decide ((((x :: xs).map encP).length : Int) = 0) = false := decide_eq_false (by simp only [List.length_map, List.length_cons]; omega)
      cases ys with
      | nil =>
        rw [union_nil] at hv
        repeat first | refine o_copy ?_ | refine nl ?_ | refine ct_seq ?_ | refine rg ?_ | refine ct_block ?_ | refine bq ?_ | refine o_loads ?_ | refine o_loadp ?_ | refine o_faddr ?_ | refine o_iaddr ?_ | refine o_iaddrO ?_ | refine o_iaddrR ?_ | refine o_add ?_ | refine o_cat ?_ | refine o_bin ?_ | refine o_lenq ?_ | refine o_len ?_ | refine o_loadsA ?_ | refine o_loadpA ?_ | refine o_bslice ?_ | refine o_pickt ?_ | refine o_pickf ?_ | refine skF ?_ | refine skU ?_
        refine cndt (ct_exit ?_)
        exact ⟨(x :: xs, [], o), by simpa using hv, goes⟩
      | cons y ys =>
        have hn2 : decide ((((y :: ys).map encP).length : Int) = 0) = false := decide_eq_false (by simp only [List.length_map, List.length_cons]; omega)
        rw [union_cons] at hv
        simp only [List.length_cons] at h1 h2
        repeat first | refine o_copy ?_ | refine nl ?_ | refine ct_seq ?_ | refine rg ?_ | refine ct_block ?_ | refine bq ?_ | refine o_loads ?_ | refine o_loadp ?_ | refine o_faddr ?_ | refine o_iaddr ?_ | refine o_iaddrO ?_ | refine o_iaddrR ?_ | refine o_add ?_ | refine o_cat ?_ | refine o_bin ?_ | refine o_lenq ?_ | refine o_len ?_ | refine o_loadsA ?_ | refine o_loadpA ?_ | refine o_bslice ?_ | refine o_pickt ?_ | refine o_pickf ?_ | refine skF ?_ | refine skU ?_
        refine cndf ?_
        repeat first | refine o_copy ?_ | refine nl ?_ | refine ct_seq ?_ | refine rg ?_ | refine ct_block ?_ | refine bq ?_ | refine o_loads ?_ | refine o_loadp ?_ | refine o_faddr ?_ | refine o_iaddr ?_ | refine o_iaddrO ?_ | refine o_iaddrR ?_ | refine o_add ?_ | refine o_cat ?_ | refine o_bin ?_ | refine o_lenq ?_ | refine o_len ?_ | refine o_loadsA ?_ | refine o_loadpA ?_ | refine o_bslice ?_ | refine o_pickt ?_ | refine o_pickf ?_ | refine skF ?_ | refine skU ?_
        refine cnd (fun h3 => ?_) (fun h3 => ?_)
        · rw [if_pos h3] at hv
          repeat first | refine o_copy ?_ | refine nl ?_ | refine ct_seq ?_ | refine rg ?_ | refine ct_block ?_ | refine bq ?_ | refine o_v (vap encP x) ?_ | refine o_v0 vsl1 ?_ | refine o_loads ?_ | refine o_loadp ?_ | refine o_faddr ?_ | refine o_iaddr ?_ | refine o_iaddrO ?_ | refine o_iaddrR ?_ | refine o_add ?_ | refine o_cat ?_ | refine o_bin ?_ | refine o_lenq ?_ | refine o_len ?_ | refine o_loadsA ?_ | refine o_loadpA ?_ | refine o_bslice ?_ | refine o_pickt ?_ | refine o_pickf ?_ | refine skF ?_ | refine skU ?_
          refine ct_exit ?_
          refine ⟨(xs, y :: ys, o ++ [x]), by simp only [List.length_cons]; omega, ⟨by simp only; omega, by simp only [List.length_cons]; omega, ?_⟩, goes⟩
          rw [← hv]; simp
        · rw [if_neg (by simp [h3])] at hv
          repeat first | refine o_copy ?_ | refine nl ?_ | refine ct_seq ?_ | refine rg ?_ | refine ct_block ?_ | refine bq ?_ | refine o_loads ?_ | refine o_loadp ?_ | refine o_faddr ?_ | refine o_iaddr ?_ | refine o_iaddrO ?_ | refine o_iaddrR ?_ | refine o_add ?_ | refine o_cat ?_ | refine o_bin ?_ | refine o_lenq ?_ | refine o_len ?_ | refine o_loadsA ?_ | refine o_loadpA ?_ | refine o_bslice ?_ | refine o_pickt ?_ | refine o_pickf ?_ | refine skF ?_ | refine skU ?_
          refine cnd (fun h4 => ?_) (fun h4 => ct_skip ?_)
          · have h4' : x.key = y.key := by simpa using h4
            rw [if_pos h4'] at hv
            repeat first | refine o_copy ?_ | refine nl ?_ | refine ct_seq ?_ | refine rg ?_ | refine ct_block ?_ | refine bq ?_ | refine o_v (vap encP y) ?_ | refine o_v0 vsl1 ?_ | refine o_loads ?_ | refine o_loadp ?_ | refine o_faddr ?_ | refine o_iaddr ?_ | refine o_iaddrO ?_ | refine o_iaddrR ?_ | refine o_add ?_ | refine o_cat ?_ | refine o_bin ?_ | refine o_lenq ?_ | refine o_len ?_ | refine o_loadsA ?_ | refine o_loadpA ?_ | refine o_bslice ?_ | refine o_pickt ?_ | refine o_pickf ?_ | refine skF ?_ | refine skU ?_
            refine agn (xs, ys, o ++ [y]) ⟨by simp only; omega, by simp only; omega, ?_⟩ goes (by simp only [List.length_cons]; omega)
            rw [← hv]; simp
          · have h4' : x.key ≠ y.key := by simpa using h4
            rw [if_neg h4'] at hv
            repeat first | refine o_copy ?_ | refine nl ?_ | refine ct_seq ?_ | refine rg ?_ | refine ct_block ?_ | refine bq ?_ | refine o_v (vap encP y) ?_ | refine o_v0 vsl1 ?_ | refine o_loads ?_ | refine o_loadp ?_ | refine o_faddr ?_ | refine o_iaddr ?_ | refine o_iaddrO ?_ | refine o_iaddrR ?_ | refine o_add ?_ | refine o_cat ?_ | refine o_bin ?_ | refine o_lenq ?_ | refine o_len ?_ | refine o_loadsA ?_ | refine o_loadpA ?_ | refine o_bslice ?_ | refine o_pickt ?_ | refine o_pickf ?_ | refine skF ?_ | refine skU ?_
            refine agn (x :: xs, ys, o ++ [y]) ⟨by simp only [List.length_cons]; omega, by simp only; omega, ?_⟩ goes (by simp only [List.length_cons]; omega)
            rw [← hv]; simp
  rintro ⟨xs, ys, o⟩ hv
  dsimp only at hv ⊢
  have hol := congrArg List.length hv
  simp only [List.length_append] at hol
  repeat first | refine o_copy ?_ | refine nl ?_ | refine ct_seq ?_ | refine rg ?_ | refine ct_block ?_ | refine bq ?_ | refine o_v (vaps encP o xs) ?_ | refine o_v (vaps encP (o ++ xs) ys) ?_ | refine o_loads ?_ | refine o_loadp ?_ | refine o_faddr ?_ | refine o_iaddr ?_ | refine o_iaddrO ?_ | refine o_iaddrR ?_ | refine o_add ?_ | refine o_cat ?_ | refine o_bin ?_ | refine o_lenq ?_ | refine o_len ?_ | refine o_loadsA ?_ | refine o_loadpA ?_ | refine o_bslice ?_ | refine o_pickt ?_ | refine o_pickf ?_ | refine skF ?_ | refine skU ?_
  exact ct_ret ⟨.inr rfl, oOwn (congrArg (List.map encP) hv)⟩
theorem union_vc {q p : PV} {a b : List PairL} (hq : Sl q (a.map encP)) (hp : Sl p (b.map encP)) (ha : a.length ≤ 1000000) (hb : b.length ≤ 1000000) : VC Try.prog 25 [q, p] [] (ownV ⟨0, 0⟩ ((unionL a b).map encP)) [blkV 3 ((unionL a b).map encP)] :=
  vc_weak (union_vc0 ha hb) (.cons (PLe.sl hq) (.cons (PLe.sl hp) .nil)) (PLe.refl _)
/-! Same -/
theorem same_vc {q p : PV} {l m : List PairL} (hq : Sl q (l.map encP)) (hp : Sl p (m.map encP)) (hl : l.length ≤ maxLen) (hm : m.length ≤ maxLen) : VC Try.prog 17 [q, p] [] (.bool (decide (l = m))) [] := by
  refine vc_of vf17 ?_ (Nat.le_of_ble_eq_true rfl) (by intro vs h; cases h)
  unfold maxLen at hl hm
  repeat first | refine o_copy ?_ | refine nl ?_ | refine ct_seq ?_ | refine rg ?_ | refine ct_block ?_ | refine bq ?_ | refine o_iaddr ?_ | refine o_iaddrO ?_ | refine o_iaddrR ?_ | refine o_add ?_ | refine o_cat ?_ | refine o_bin ?_ | refine o_lenq ?_ | refine o_len ?_ | refine o_loadsA ?_ | refine o_loadpA ?_ | refine o_eqc ?_
  refine cnd (fun h => ?_) (fun h => ct_skip ?_)
  · repeat first | refine o_copy ?_ | refine nl ?_ | refine ct_seq ?_ | refine rg ?_ | refine ct_block ?_ | refine bq ?_ | refine o_iaddr ?_ | refine o_iaddrO ?_ | refine o_iaddrR ?_ | refine o_add ?_ | refine o_cat ?_ | refine o_bin ?_ | refine o_lenq ?_ | refine o_len ?_ | refine o_loadsA ?_ | refine o_loadpA ?_ | refine o_eqc ?_
    refine ct_ret ⟨.inr rfl, oB ?_⟩
    have : l ≠ m := by
      intro e; subst e
      simp at h
    simp [this]
  · have hlm : l.length = m.length := by have h' : (l.length : Int) = m.length := by simpa using h
                                         omega
    repeat first | refine o_copy ?_ | refine nl ?_ | refine ct_seq ?_ | refine rg ?_ | refine ct_block ?_ | refine bq ?_ | refine o_iaddr ?_ | refine o_iaddrO ?_ | refine o_iaddrR ?_ | refine o_add ?_ | refine o_cat ?_ | refine o_bin ?_ | refine o_lenq ?_ | refine o_len ?_ | refine o_loadsA ?_ | refine o_loadpA ?_ | refine o_eqc ?_
    refine ct_loopG (fun (g : Nat) => [(0, q), (1, p), (5, .int .i64 g)]) (fun g => []) (fun g => l.length - g)
      (fun g => g ≤ l.length ∧ l.take g = m.take g) 0 goes ⟨Nat.zero_le _, rfl⟩ ?_
    rintro i ⟨hi, hv⟩
    (try dsimp only)
    repeat first | refine o_copy ?_ | refine nl ?_ | refine ct_seq ?_ | refine rg ?_ | refine ct_block ?_ | refine bq ?_ | refine o_iaddr ?_ | refine o_iaddrO ?_ | refine o_iaddrR ?_ | refine o_add ?_ | refine o_cat ?_ | refine o_bin ?_ | refine o_lenq ?_ | refine o_len ?_ | refine o_loadsA ?_ | refine o_loadpA ?_ | refine o_eqc ?_
    refine cnd (fun h => ct_skip ?_) (fun h => ct_exit ?_)
    · have hlt : i < l.length := by have h' := of_decide_eq_true h; simp only [List.length_map] at h'; omega
      obtain ⟨x, hx⟩ : ∃ x, l[i]? = some x := ⟨_, List.getElem?_eq_getElem hlt⟩
      obtain ⟨y, hy⟩ : ∃ x, m[i]? = some x := ⟨_, List.getElem?_eq_getElem (by omega)⟩
      have hxe := gm (enc := encP) (n := (i : Int)) hx (by omega)
      have hye := gm (enc := encP) (n := (i : Int)) hy (by omega)
      repeat first | refine o_copy ?_ | refine nl ?_ | refine ct_seq ?_ | refine rg ?_ | refine ct_block ?_ | refine bq ?_ | refine o_iaddr ?_ | refine o_iaddrO ?_ | refine o_iaddrR ?_ | refine o_add ?_ | refine o_cat ?_ | refine o_bin ?_ | refine o_lenq ?_ | refine o_len ?_ | refine o_loadsA ?_ | refine o_loadpA ?_ | refine o_eqc ?_
      refine cnd (fun h2 => ?_) (fun h2 => ct_skip ?_)
      · repeat first | refine o_copy ?_ | refine nl ?_ | refine ct_seq ?_ | refine rg ?_ | refine ct_block ?_ | refine bq ?_ | refine o_iaddr ?_ | refine o_iaddrO ?_ | refine o_iaddrR ?_ | refine o_add ?_ | refine o_cat ?_ | refine o_bin ?_ | refine o_lenq ?_ | refine o_len ?_ | refine o_loadsA ?_ | refine o_loadpA ?_ | refine o_eqc ?_
        refine ct_ret ⟨.inr rfl, oB ?_⟩
        have hne : l ≠ m := by
          intro e; subst e
          rw [hx] at hy; cases hy
          simp at h2
        simp [hne]
      · have hxy : x = y := by
          have h3 : x.key = y.key ∧ x.val = y.val ∧ x.stamp = y.stamp := by simpa using h2
          cases x; cases y; simp at h3; obtain ⟨rfl, rfl, rfl⟩ := h3; rfl
        subst hxy
        repeat first | refine o_copy ?_ | refine nl ?_ | refine ct_seq ?_ | refine rg ?_ | refine ct_block ?_ | refine bq ?_ | refine o_iaddr ?_ | refine o_iaddrO ?_ | refine o_iaddrR ?_ | refine o_add ?_ | refine o_cat ?_ | refine o_bin ?_ | refine o_lenq ?_ | refine o_len ?_ | refine o_loadsA ?_ | refine o_loadpA ?_ | refine o_eqc ?_
        refine agn (i + 1) ⟨by omega, ?_⟩ goes
        rw [List.take_add_one, List.take_add_one, hv, hx, hy]
    · have hge : i = l.length := by have h' := of_decide_eq_false h; simp only [List.length_map] at h'; omega
      subst hge
      repeat first | refine o_copy ?_ | refine nl ?_ | refine ct_seq ?_ | refine rg ?_ | refine ct_block ?_ | refine bq ?_ | refine o_iaddr ?_ | refine o_iaddrO ?_ | refine o_iaddrR ?_ | refine o_add ?_ | refine o_cat ?_ | refine o_bin ?_ | refine o_lenq ?_ | refine o_len ?_ | refine o_loadsA ?_ | refine o_loadpA ?_ | refine o_eqc ?_
      refine ct_ret ⟨.inr rfl, oB ?_⟩
      rw [List.take_length, hlm, List.take_length] at hv
      simp [hv]
/-! Find of the reference -/
def zP : PairL := ⟨[], [], 0⟩
theorem rfind_vc {q : PV} {l : List PairL} (k : Str) (hq : Sl q (l.map encP)) (hl : l.length ≤ maxLen) : VC Try.prog 16 [q, .str k] [] (.tup [.agg (encP ((findP l k).getD zP)), .bool (findP l k).isSome]) [] := by
  refine vc_of vf16 ?_ (Nat.le_of_ble_eq_true rfl) (by intro vs h; cases h; intro p hp q; simp at hp; rcases hp with rfl | rfl <;> (intro h; cases h))
  unfold maxLen at hl
  repeat first | refine o_copy ?_ | refine nl ?_ | refine ct_seq ?_ | refine rg ?_ | refine ct_block ?_ | refine bq ?_ | refine o_loads ?_ | refine o_loadp ?_ | refine o_faddr ?_ | refine o_iaddr ?_ | refine o_iaddrO ?_ | refine o_iaddrR ?_ | refine o_add ?_ | refine o_cat ?_ | refine o_bin ?_ | refine o_lenq ?_ | refine o_len ?_ | refine o_loadsA ?_ | refine o_loadpA ?_ | refine o_alloc ?_ | refine o_store ?_ | refine o_build ?_
  refine ct_loopG (fun (g : Nat) => [(0, q), (1, .str k), (4, .ptr ⟨1, 0⟩ 1 0 0), (6, .int .i64 g)]) (fun g => [(⟨1, 0⟩, ⟨true, false, 3, [encP zP]⟩)]) (fun g => l.length - g)
    (fun g => g ≤ l.length ∧ findP (l.drop g) k = findP l k) 0 goes ⟨Nat.zero_le _, rfl⟩ ?_
  rintro i ⟨hi, hv⟩
  (try dsimp only)
  repeat first | refine o_copy ?_ | refine nl ?_ | refine ct_seq ?_ | refine rg ?_ | refine ct_block ?_ | refine bq ?_ | refine o_loads ?_ | refine o_loadp ?_ | refine o_faddr ?_ | refine o_iaddr ?_ | refine o_iaddrO ?_ | refine o_iaddrR ?_ | refine o_add ?_ | refine o_cat ?_ | refine o_bin ?_ | refine o_lenq ?_ | refine o_len ?_ | refine o_loadsA ?_ | refine o_loadpA ?_ | refine o_alloc ?_ | refine o_store ?_ | refine o_build ?_
  refine cnd (fun h => ct_skip ?_) (fun h => ct_exit ?_)
  · have hlt : i < l.length := by have h' := of_decide_eq_true h; simp only [List.length_map] at h'; omega
    obtain ⟨x, hx⟩ : ∃ x, l[i]? = some x := ⟨_, List.getElem?_eq_getElem hlt⟩
    have hxe := gm (enc := encP) (n := (i : Int)) hx (by omega)
    rw [drop_get hx, findP_cons] at hv
    repeat first | refine o_copy ?_ | refine nl ?_ | refine ct_seq ?_ | refine rg ?_ | refine ct_block ?_ | refine bq ?_ | refine o_loads ?_ | refine o_loadp ?_ | refine o_faddr ?_ | refine o_iaddr ?_ | refine o_iaddrO ?_ | refine o_iaddrR ?_ | refine o_add ?_ | refine o_cat ?_ | refine o_bin ?_ | refine o_lenq ?_ | refine o_len ?_ | refine o_loadsA ?_ | refine o_loadpA ?_ | refine o_alloc ?_ | refine o_store ?_ | refine o_build ?_
    refine cnd (fun h2 => ?_) (fun h2 => ct_skip ?_)
    · have h2' : x.key = k := by simpa using h2
      rw [if_pos h2'] at hv
      repeat first | refine o_copy ?_ | refine nl ?_ | refine ct_seq ?_ | refine rg ?_ | refine ct_block ?_ | refine bq ?_ | refine o_loads ?_ | refine o_loadp ?_ | refine o_faddr ?_ | refine o_iaddr ?_ | refine o_iaddrO ?_ | refine o_iaddrR ?_ | refine o_add ?_ | refine o_cat ?_ | refine o_bin ?_ | refine o_lenq ?_ | refine o_len ?_ | refine o_loadsA ?_ | refine o_loadpA ?_ | refine o_alloc ?_ | refine o_store ?_ | refine o_build ?_
      refine ct_ret ⟨.inr rfl, oAny ?_⟩
      rw [← hv]; rfl
    · have h2' : x.key ≠ k := by simpa using h2
      rw [if_neg h2'] at hv
      repeat first | refine o_copy ?_ | refine nl ?_ | refine ct_seq ?_ | refine rg ?_ | refine ct_block ?_ | refine bq ?_ | refine o_loads ?_ | refine o_loadp ?_ | refine o_faddr ?_ | refine o_iaddr ?_ | refine o_iaddrO ?_ | refine o_iaddrR ?_ | refine o_add ?_ | refine o_cat ?_ | refine o_bin ?_ | refine o_lenq ?_ | refine o_len ?_ | refine o_loadsA ?_ | refine o_loadpA ?_ | refine o_alloc ?_ | refine o_store ?_ | refine o_build ?_
      exact agn (i + 1) ⟨by omega, hv⟩ goes
  · have hge : i = l.length := by have h' := of_decide_eq_false h; simp only [List.length_map] at h'; omega
    subst hge
    rw [List.drop_length] at hv
    repeat first | refine o_copy ?_ | refine nl ?_ | refine ct_seq ?_ | refine rg ?_ | refine ct_block ?_ | refine bq ?_ | refine o_loads ?_ | refine o_loadp ?_ | refine o_faddr ?_ | refine o_iaddr ?_ | refine o_iaddrO ?_ | refine o_iaddrR ?_ | refine o_add ?_ | refine o_cat ?_ | refine o_bin ?_ | refine o_lenq ?_ | refine o_len ?_ | refine o_loadsA ?_ | refine o_loadpA ?_ | refine o_alloc ?_ | refine o_store ?_ | refine o_build ?_
    refine ct_ret ⟨.inr rfl, oAny ?_⟩
    rw [← hv]; rfl
end Go.Proofs
