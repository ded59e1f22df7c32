/- Tf -/
import Derived.Test.YtjjkeakejclknaaTe
open Go.V Go.Pu
set_option linter.unusedVariables false
set_option linter.unusedSimpArgs false
set_option maxRecDepth 20000
namespace Go.Proofs
/-- downspout/downspoutref04.Span -/
def vc13 : VCode :=
 (.seq
 (.region 0 false [
 ⟨(some 1), .box (.t 0), none, 0, []⟩,
 ⟨(some 2), .alloc [(.str []), (.str [])], none, 8, []⟩])
 (.seq
 (.region 1 true [
 ⟨(some 4), .iaddrA 2 1 (.t 1) (.c (.int .i64 0)), none, 8192, []⟩,
 ⟨(some 5), .load false 1 (.t 4), none, 8200, [0]⟩,
 ⟨(some 6), .call (.c (.fn 15 [])) [(.t 5)], none, 8208, [1, 0]⟩,
 ⟨(some 7), .iaddrA 2 1 (.t 1) (.c (.int .i64 1)), none, 8216, []⟩,
 ⟨(some 8), .load false 1 (.t 7), none, 8224, [3]⟩,
 ⟨(some 9), .call (.c (.fn 15 [])) [(.t 8)], none, 8232, [4, 3, 2, 1, 0]⟩,
 ⟨(some 10), .build [(.str []), (.str [])] [(0, 1, (.t 6)), (1, 1, (.t 9))], none, 8240, [2, 1, 0, 5, 4, 3]⟩,
 ⟨(some 3), .alloc [(.str []), (.str [])], none, 8248, []⟩,
 ⟨none, .store 2 (.t 3) (.t 10), none, 8256, [7, 6, 2, 1, 0, 5, 4, 3]⟩])
 (.seq
 (.seq
 (.region 2 false [
 ⟨(some 11), .iaddrA 2 1 (.t 1) (.c (.int .i64 0)), none, 16384, []⟩,
 ⟨(some 12), .load false 1 (.t 11), none, 16392, [0]⟩,
 ⟨(some 13), .bin .geq (.t 12) (.c (.int .u8 200)), none, 16400, [1, 0]⟩])
 (.cond (.t 13)
 (.region 3 false [
 ⟨(some 14), .iaddrA 2 1 (.t 1) (.c (.int .i64 0)), none, 24576, []⟩,
 ⟨(some 15), .load false 1 (.t 14), none, 24584, [0]⟩,
 ⟨(some 16), .call (.c (.fn 28 [])) [(.t 15)], none, 24592, [1, 0]⟩,
 ⟨(some 17), .faddr 0 (.t 3), none, 24600, [0, 1, 2]⟩,
 ⟨none, .store 1 (.t 17) (.t 16), none, 24608, [3, 0, 1, 2]⟩])
 .skip))
 (.seq
 (.seq
 (.region 4 false [
 ⟨(some 18), .iaddrA 2 1 (.t 1) (.c (.int .i64 1)), none, 32768, []⟩,
 ⟨(some 19), .load false 1 (.t 18), none, 32776, [0]⟩,
 ⟨(some 20), .bin .geq (.t 19) (.c (.int .u8 200)), none, 32784, [1, 0]⟩])
 (.cond (.t 20)
 (.region 5 false [
 ⟨(some 21), .faddr 0 (.t 3), none, 40960, []⟩,
 ⟨(some 22), .load false 1 (.t 21), none, 40968, [0]⟩,
 ⟨(some 23), .bin .add (.t 22) (.c (.str [0])), none, 40976, [1, 0]⟩,
 ⟨(some 24), .faddr 1 (.t 3), none, 40984, [0, 1, 2]⟩,
 ⟨none, .store 1 (.t 24) (.t 23), none, 40992, [3, 0, 1, 2]⟩])
 .skip))
 (.seq
 (.seq
 (.region 6 false [
 ⟨(some 25), .iaddrA 2 1 (.t 1) (.c (.int .i64 1)), none, 49152, []⟩,
 ⟨(some 26), .load false 1 (.t 25), none, 49160, [0]⟩,
 ⟨(some 27), .bin .geq (.t 26) (.c (.int .u8 240)), none, 49168, [1, 0]⟩])
 (.cond (.t 27)
 (.region 7 false [
 ⟨(some 28), .faddr 1 (.t 3), none, 57344, []⟩,
 ⟨none, .store 1 (.t 28) (.c (.str [])), none, 57352, [0]⟩])
 .skip))
 (.seq
 (.region 8 false [
 ⟨(some 29), .load true 2 (.t 3), none, 65536, []⟩,
 ⟨none, .store 2 (.t 2) (.t 29), none, 65544, [0]⟩])
 .ret))))))
theorem vf13 : VF Try.prog 13 = some (30, vc13, [.cell true 2 2]) := by kernel_rfl
/-- slices.Grow[[]downspout/api.Pair,downspout/api.Pair] -/
def vc46 : VCode :=
 (.seq
 (.region 0 false [
 ⟨(some 4), .copy (.c .nils), none, 0, []⟩])
 (.seq
 (.seq
 (.region 1 false [
 ⟨(some 5), .copy (.t 1), none, 8192, []⟩,
 ⟨(some 6), .bin .lss (.t 5) (.c (.int .i64 0)), none, 8200, [0]⟩])
 (.cond (.t 6)
 (.region 2 false [
 ⟨(some 7), .bad, none, 16384, []⟩,
 ⟨none, .bad, none, 16392, [0]⟩])
 .skip))
 (.seq
 (.seq
 (.region 3 false [
 ⟨(some 8), .copy (.t 1), none, 24576, []⟩,
 ⟨(some 9), .copy (.t 0), none, 24584, []⟩,
 ⟨(some 10), .cap (.t 9), none, 24592, [1]⟩,
 ⟨(some 11), .copy (.t 0), none, 24600, []⟩,
 ⟨(some 12), .len (.t 11), none, 24608, [3]⟩,
 ⟨(some 13), .bin .sub (.t 10) (.t 12), none, 24616, [2, 1, 4, 3]⟩,
 ⟨(some 14), .bin .sub (.t 8) (.t 13), none, 24624, [0, 5, 2, 1, 4, 3]⟩,
 ⟨(some 1), .copy (.t 14), none, 24632, [6, 0, 5, 2, 1, 4, 3]⟩])
 (.seq
 (.region 4 false [
 ⟨(some 15), .copy (.t 1), none, 32768, []⟩,
 ⟨(some 16), .bin .gtr (.t 15) (.c (.int .i64 0)), none, 32776, [0]⟩])
 (.cond (.t 16)
 (.region 5 false [
 ⟨(some 17), .copy (.t 0), none, 40960, []⟩,
 ⟨(some 18), .copy (.t 0), none, 40968, []⟩,
 ⟨(some 19), .cap (.t 18), none, 40976, [1]⟩,
 ⟨(some 20), .slsl 3 (.t 17) none (some (.t 19)) none, none, 40984, [0, 2, 1]⟩,
 ⟨(some 21), .copy (.t 1), none, 40992, []⟩,
 ⟨(some 22), .appZ 3 40 [(.str []), (.str []), (.int .i64 0)] (.t 20) (.t 21), none, 41000, [3, 0, 2, 1, 4]⟩,
 ⟨(some 23), .copy (.t 0), none, 41008, []⟩,
 ⟨(some 24), .len (.t 23), none, 41016, [6]⟩,
 ⟨(some 25), .slsl 3 (.t 22) none (some (.t 24)) none, none, 41024, [5, 3, 0, 2, 1, 4, 7, 6]⟩,
 ⟨(some 0), .copy (.t 25), none, 41032, [8, 5, 3, 0, 2, 1, 4, 7, 6]⟩])
 .skip)))
 (.seq
 (.region 6 false [
 ⟨(some 26), .copy (.t 0), none, 49152, []⟩,
 ⟨(some 4), .copy (.t 26), none, 49160, [0]⟩])
 .ret))))
theorem vf46 : VF Try.prog 46 = some (27, vc46, [.tmp 4]) := by kernel_rfl
/-- slices.Concat[[]downspout/api.Pair,downspout/api.Pair] -/
def vc37 : VCode :=
 (.seq
 (.region 0 false [
 ⟨(some 2), .copy (.c .nils), none, 0, []⟩])
 (.seq
 (.region 1 false [
 ⟨(some 3), .copy (.c (.int .i64 0)), none, 8192, []⟩])
 (.seq
 (.seq
 (.region 2 false [
 ⟨(some 9), .copy (.t 0), none, 16384, []⟩,
 ⟨(some 10), .len (.t 9), none, 16392, [0]⟩,
 ⟨(some 11), .copy (.c (.int .i64 0)), none, 16400, []⟩])
 (.block 0
 (.loop
 (.seq
 (.region 3 false [
 ⟨(some 12), .bin .lss (.t 11) (.t 10), none, 24576, []⟩])
 (.seq
 (.cond (.t 12)
 .skip
 (.exit 0))
 (.seq
 (.block 1
 (.seq
 (.region 4 false [
 ⟨(some 13), .iaddr 1 (.t 9) (.t 11), none, 32768, []⟩,
 ⟨(some 14), .load false 1 (.t 13), none, 32776, [0]⟩,
 ⟨(some 5), .copy (.t 14), none, 32784, [1, 0]⟩])
 (.seq
 (.region 5 false [
 ⟨(some 15), .copy (.t 3), none, 40960, []⟩,
 ⟨(some 16), .copy (.t 5), none, 40968, []⟩,
 ⟨(some 17), .len (.t 16), none, 40976, [1]⟩,
 ⟨(some 18), .bin .add (.t 15) (.t 17), none, 40984, [0, 2, 1]⟩,
 ⟨(some 3), .copy (.t 18), none, 40992, [3, 0, 2, 1]⟩])
 (.seq
 (.region 6 false [
 ⟨(some 19), .copy (.t 3), none, 49152, []⟩,
 ⟨(some 20), .bin .lss (.t 19) (.c (.int .i64 0)), none, 49160, [0]⟩])
 (.cond (.t 20)
 (.region 7 false [
 ⟨(some 21), .bad, none, 57344, []⟩,
 ⟨none, .bad, none, 57352, [0]⟩])
 .skip)))))
 (.region 8 false [
 ⟨(some 22), .bin .add (.t 11) (.c (.int .i64 1)), none, 65536, []⟩,
 ⟨(some 11), .copy (.t 22), none, 65544, [0]⟩])))))))
 (.seq
 (.region 9 false [
 ⟨(some 23), .copy (.t 3), none, 73728, []⟩,
 ⟨(some 24), .call (.c (.fn 46 [])) [(.c .nils), (.t 23)], none, 73736, [0]⟩,
 ⟨(some 6), .copy (.t 24), none, 73744, [1, 0]⟩])
 (.seq
 (.seq
 (.region 10 false [
 ⟨(some 25), .copy (.t 0), none, 81920, []⟩,
 ⟨(some 26), .len (.t 25), none, 81928, [0]⟩,
 ⟨(some 27), .copy (.c (.int .i64 0)), none, 81936, []⟩])
 (.block 2
 (.loop
 (.seq
 (.region 11 false [
 ⟨(some 28), .bin .lss (.t 27) (.t 26), none, 90112, []⟩])
 (.seq
 (.cond (.t 28)
 .skip
 (.exit 2))
 (.seq
 (.block 3
 (.seq
 (.region 12 false [
 ⟨(some 29), .iaddr 1 (.t 25) (.t 27), none, 98304, []⟩,
 ⟨(some 30), .load false 1 (.t 29), none, 98312, [0]⟩,
 ⟨(some 8), .copy (.t 30), none, 98320, [1, 0]⟩])
 (.region 13 false [
 ⟨(some 31), .copy (.t 6), none, 106496, []⟩,
 ⟨(some 32), .copy (.t 8), none, 106504, []⟩,
 ⟨(some 33), .append 3 40 [(.str []), (.str []), (.int .i64 0)] (.t 31) (.t 32), none, 106512, [0, 1]⟩,
 ⟨(some 6), .copy (.t 33), none, 106520, [2, 0, 1]⟩])))
 (.region 14 false [
 ⟨(some 34), .bin .add (.t 27) (.c (.int .i64 1)), none, 114688, []⟩,
 ⟨(some 27), .copy (.t 34), none, 114696, [0]⟩])))))))
 (.seq
 (.region 15 false [
 ⟨(some 35), .copy (.t 6), none, 122880, []⟩,
 ⟨(some 2), .copy (.t 35), none, 122888, [0]⟩])
 .ret))))))
theorem vf37 : VF Try.prog 37 = some (36, vc37, [.tmp 2]) := by kernel_rfl
/-- downspout/table.Drop -/
def vc20 : VCode :=
 (.seq
 (.region 0 false [
 ⟨(some 3), .box (.t 1), none, 0, []⟩,
 ⟨(some 4), .copy (.c .nils), none, 8, []⟩])
 (.seq
 (.region 1 false [
 ⟨(some 8), .copy (.t 0), none, 8192, []⟩,
 ⟨(some 9), .load true 2 (.t 3), none, 8200, []⟩,
 ⟨(some 10), .call (.c (.fn 36 [])) [(.t 8), (.t 9)], none, 8208, [0, 1]⟩,
 ⟨(some 7), .copy (.t 10), none, 8216, [2, 0, 1]⟩,
 ⟨(some 11), .extract (.t 7) 0, none, 8224, [3, 2, 0, 1]⟩,
 ⟨(some 12), .extract (.t 7) 1, none, 8232, [3, 2, 0, 1]⟩,
 ⟨(some 5), .copy (.t 11), none, 8240, [4, 3, 2, 0, 1]⟩,
 ⟨(some 6), .copy (.t 12), none, 8248, [5, 3, 2, 0, 1, 6, 4]⟩])
 (.seq
 (.region 2 true [
 ⟨(some 13), .copy (.t 0), none, 16384, []⟩,
 ⟨(some 14), .copy (.t 5), none, 16392, []⟩,
 ⟨(some 15), .slsl 3 (.t 13) none (some (.t 14)) none, none, 16400, [0, 1]⟩,
 ⟨(some 16), .copy (.t 0), none, 16408, []⟩,
 ⟨(some 17), .copy (.t 6), none, 16416, []⟩,
 ⟨(some 18), .slsl 3 (.t 16) (some (.t 17)) none none, none, 16424, [3, 4]⟩,
 ⟨(some 19), .bslice 1 [.nils] 2 [(0, (.t 15)), (1, (.t 18))], none, 16432, [2, 0, 1, 5, 3, 4]⟩,
 ⟨(some 20), .call (.c (.fn 37 [])) [(.t 19)], none, 16440, [6, 2, 0, 1, 5, 3, 4]⟩,
 ⟨(some 4), .copy (.t 20), none, 16448, [7, 6, 2, 0, 1, 5, 3, 4]⟩])
 .ret)))
theorem vf20 : VF Try.prog 20 = some (21, vc20, [.tmp 4]) := by kernel_rfl
/-! Drop -/
def rspanL (x y : Nat) : SpanL := ⟨if 200 ≤ x then preL x else keyL x, if 240 ≤ y then [] else if 200 ≤ y then (if 200 ≤ x then preL x else keyL x) ++ [0] else keyL y⟩
theorem rspan_vc {x y : Nat} (hx : x < 256) (hy : y < 256) : VC Try.prog 13 [.agg [.int .u8 x, .int .u8 y]] [] (.agg (encS (rspanL x y))) [] := by
  refine vc_of vf13 ?_ (Nat.le_of_ble_eq_true rfl) (by intro vs h; cases h)
  have k1 := key_vc hx
  have k2 := key_vc hy
  have p1 := pre_vc hx
  have l1 := keyL_len x
  have l2 := pre_len x
  have hr : rspanL x y = ⟨if 200 ≤ x then preL x else keyL x, if 240 ≤ y then [] else if 200 ≤ y then (if 200 ≤ x then preL x else keyL x) ++ [0] else keyL y⟩ := rfl
  rw [hr]
  generalize keyL x = a at *
  generalize keyL y = b at *
  generalize preL x = c at *
  repeat first | refine o_copy ?_ | refine nl ?_ | refine ct_seq ?_ | refine rg ?_ | refine ct_block ?_ | refine bq ?_ | refine cv0 k1 ?_ | refine cv0 k2 ?_ | refine o_loads ?_ | refine o_loadp ?_ | refine o_faddr ?_ | refine o_add ?_ | refine o_cat ?_ | refine o_bin ?_ | refine o_loadsA ?_ | refine o_loadpA ?_ | refine o_box ?_ | refine o_alloc ?_ | refine o_store ?_ | refine o_build ?_ | refine o_iaddrA ?_
  refine cnd (fun h1 => ?_) (fun h1 => ct_skip ?_)
  · have h1' : 200 ≤ x := by have h' := of_decide_eq_true h1; omega
    simp only [if_pos h1']
    repeat first | refine o_copy ?_ | refine nl ?_ | refine ct_seq ?_ | refine rg ?_ | refine ct_block ?_ | refine bq ?_ | refine cv0 p1 ?_ | refine o_loads ?_ | refine o_loadp ?_ | refine o_faddr ?_ | refine o_add ?_ | refine o_cat ?_ | refine o_bin ?_ | refine o_loadsA ?_ | refine o_loadpA ?_ | refine o_box ?_ | refine o_alloc ?_ | refine o_store ?_ | refine o_build ?_ | refine o_iaddrA ?_
    refine cnd (fun h2 => ?_) (fun h2 => ct_skip ?_)
    · have h2' : 200 ≤ y := by have h' := of_decide_eq_true h2; omega
      simp only [if_pos h2']
      repeat first | refine o_copy ?_ | refine nl ?_ | refine ct_seq ?_ | refine rg ?_ | refine ct_block ?_ | refine bq ?_ | refine o_loads ?_ | refine o_loadp ?_ | refine o_faddr ?_ | refine o_add ?_ | refine o_cat ?_ | refine o_bin ?_ | refine o_loadsA ?_ | refine o_loadpA ?_ | refine o_box ?_ | refine o_alloc ?_ | refine o_store ?_ | refine o_build ?_ | refine o_iaddrA ?_
      refine cnd (fun h3 => ?_) (fun h3 => ct_skip ?_)
      · have h3' : 240 ≤ y := by have h' := of_decide_eq_true h3; omega
        simp only [if_pos h3']
        repeat first | refine o_copy ?_ | refine nl ?_ | refine ct_seq ?_ | refine rg ?_ | refine ct_block ?_ | refine bq ?_ | refine o_loads ?_ | refine o_loadp ?_ | refine o_faddr ?_ | refine o_add ?_ | refine o_cat ?_ | refine o_bin ?_ | refine o_loadsA ?_ | refine o_loadpA ?_ | refine o_box ?_ | refine o_alloc ?_ | refine o_store ?_ | refine o_build ?_ | refine o_iaddrA ?_
        exact ct_ret ⟨.inr rfl, oC rfl⟩
      · have h3' : ¬ 240 ≤ y := by have h' := of_decide_eq_false h3; omega
        simp only [if_neg h3']
        repeat first | refine o_copy ?_ | refine nl ?_ | refine ct_seq ?_ | refine rg ?_ | refine ct_block ?_ | refine bq ?_ | refine o_loads ?_ | refine o_loadp ?_ | refine o_faddr ?_ | refine o_add ?_ | refine o_cat ?_ | refine o_bin ?_ | refine o_loadsA ?_ | refine o_loadpA ?_ | refine o_box ?_ | refine o_alloc ?_ | refine o_store ?_ | refine o_build ?_ | refine o_iaddrA ?_
        exact ct_ret ⟨.inr rfl, oC rfl⟩
    · have h2' : ¬ 200 ≤ y := by have h' := of_decide_eq_false h2; omega
      have h3' : ¬ 240 ≤ y := by omega
      simp only [if_neg h2', if_neg h3']
      repeat first | refine o_copy ?_ | refine nl ?_ | refine ct_seq ?_ | refine rg ?_ | refine ct_block ?_ | refine bq ?_ | refine o_loads ?_ | refine o_loadp ?_ | refine o_faddr ?_ | refine o_add ?_ | refine o_cat ?_ | refine o_bin ?_ | refine o_loadsA ?_ | refine o_loadpA ?_ | refine o_box ?_ | refine o_alloc ?_ | refine o_store ?_ | refine o_build ?_ | refine o_iaddrA ?_
      refine cndf (ct_skip ?_) rfl (decide_eq_false (by omega))
      repeat first | refine o_copy ?_ | refine nl ?_ | refine ct_seq ?_ | refine rg ?_ | refine ct_block ?_ | refine bq ?_ | refine o_loads ?_ | refine o_loadp ?_ | refine o_faddr ?_ | refine o_add ?_ | refine o_cat ?_ | refine o_bin ?_ | refine o_loadsA ?_ | refine o_loadpA ?_ | refine o_box ?_ | refine o_alloc ?_ | refine o_store ?_ | refine o_build ?_ | refine o_iaddrA ?_
      exact ct_ret ⟨.inr rfl, oC rfl⟩
  · have h1' : ¬ 200 ≤ x := by have h' := of_decide_eq_false h1; omega
    simp only [if_neg h1']
    repeat first | refine o_copy ?_ | refine nl ?_ | refine ct_seq ?_ | refine rg ?_ | refine ct_block ?_ | refine bq ?_ | refine cv0 p1 ?_ | refine o_loads ?_ | refine o_loadp ?_ | refine o_faddr ?_ | refine o_add ?_ | refine o_cat ?_ | refine o_bin ?_ | refine o_loadsA ?_ | refine o_loadpA ?_ | refine o_box ?_ | refine o_alloc ?_ | refine o_store ?_ | refine o_build ?_ | refine o_iaddrA ?_
    refine cnd (fun h2 => ?_) (fun h2 => ct_skip ?_)
    · have h2' : 200 ≤ y := by have h' := of_decide_eq_true h2; omega
      simp only [if_pos h2']
      repeat first | refine o_copy ?_ | refine nl ?_ | refine ct_seq ?_ | refine rg ?_ | refine ct_block ?_ | refine bq ?_ | refine o_loads ?_ | refine o_loadp ?_ | refine o_faddr ?_ | refine o_add ?_ | refine o_cat ?_ | refine o_bin ?_ | refine o_loadsA ?_ | refine o_loadpA ?_ | refine o_box ?_ | refine o_alloc ?_ | refine o_store ?_ | refine o_build ?_ | refine o_iaddrA ?_
      refine cnd (fun h3 => ?_) (fun h3 => ct_skip ?_)
      · have h3' : 240 ≤ y := by have h' := of_decide_eq_true h3; omega
        simp only [if_pos h3']
        repeat first | refine o_copy ?_ | refine nl ?_ | refine ct_seq ?_ | refine rg ?_ | refine ct_block ?_ | refine bq ?_ | refine o_loads ?_ | refine o_loadp ?_ | refine o_faddr ?_ | refine o_add ?_ | refine o_cat ?_ | refine o_bin ?_ | refine o_loadsA ?_ | refine o_loadpA ?_ | refine o_box ?_ | refine o_alloc ?_ | refine o_store ?_ | refine o_build ?_ | refine o_iaddrA ?_
        exact ct_ret ⟨.inr rfl, oC rfl⟩
      · have h3' : ¬ 240 ≤ y := by have h' := of_decide_eq_false h3; omega
        simp only [if_neg h3']
        repeat first | refine o_copy ?_ | refine nl ?_ | refine ct_seq ?_ | refine rg ?_ | refine ct_block ?_ | refine bq ?_ | refine o_loads ?_ | refine o_loadp ?_ | refine o_faddr ?_ | refine o_add ?_ | refine o_cat ?_ | refine o_bin ?_ | refine o_loadsA ?_ | refine o_loadpA ?_ | refine o_box ?_ | refine o_alloc ?_ | refine o_store ?_ | refine o_build ?_ | refine o_iaddrA ?_
        exact ct_ret ⟨.inr rfl, oC rfl⟩
    · have h2' : ¬ 200 ≤ y := by have h' := of_decide_eq_false h2; omega
      have h3' : ¬ 240 ≤ y := by omega
      simp only [if_neg h2', if_neg h3']
      repeat first | refine o_copy ?_ | refine nl ?_ | refine ct_seq ?_ | refine rg ?_ | refine ct_block ?_ | refine bq ?_ | refine o_loads ?_ | refine o_loadp ?_ | refine o_faddr ?_ | refine o_add ?_ | refine o_cat ?_ | refine o_bin ?_ | refine o_loadsA ?_ | refine o_loadpA ?_ | refine o_box ?_ | refine o_alloc ?_ | refine o_store ?_ | refine o_build ?_ | refine o_iaddrA ?_
      refine cndf (ct_skip ?_) rfl (decide_eq_false (by omega))
      repeat first | refine o_copy ?_ | refine nl ?_ | refine ct_seq ?_ | refine rg ?_ | refine ct_block ?_ | refine bq ?_ | refine o_loads ?_ | refine o_loadp ?_ | refine o_faddr ?_ | refine o_add ?_ | refine o_cat ?_ | refine o_bin ?_ | refine o_loadsA ?_ | refine o_loadpA ?_ | refine o_box ?_ | refine o_alloc ?_ | refine o_store ?_ | refine o_build ?_ | refine o_iaddrA ?_
      exact ct_ret ⟨.inr rfl, oC rfl⟩
theorem grow0_vc : VC Try.prog 46 [.nils, .int .i64 0] [] .nils [] := by
  refine vc_of vf46 ?_ (Nat.le_of_ble_eq_true rfl) (by intro vs h; cases h)
  repeat first | refine o_copy ?_ | refine nl ?_ | refine ct_seq ?_ | refine rg ?_ | refine ct_block ?_ | refine bq ?_ | refine o_sub ?_ | refine o_bin ?_ | refine o_lenq ?_ | refine o_len ?_
  refine cndf (ct_skip ?_)
  repeat first | refine o_copy ?_ | refine nl ?_ | refine ct_seq ?_ | refine rg ?_ | refine ct_block ?_ | refine bq ?_ | refine o_v0 vcap0 ?_ | refine o_sub ?_ | refine o_bin ?_ | refine o_lenq ?_ | refine o_len ?_
  refine cndf (ct_skip ?_)
  repeat first | refine o_copy ?_ | refine nl ?_ | refine ct_seq ?_ | refine rg ?_ | refine ct_block ?_ | refine bq ?_ | refine o_sub ?_ | refine o_bin ?_ | refine o_lenq ?_ | refine o_len ?_
  exact ct_ret ⟨.inr rfl, oAny rfl⟩
theorem grow_vc {n : Nat} (h0 : 0 < n) (h1 : n ≤ 1000000) : VC Try.prog 46 [.nils, .int .i64 n] [] (.own ⟨0, 0⟩ n 0 0) [blkV 3 (List.replicate n (encP zP))] := by
  refine vc_of vf46 ?_ (Nat.le_of_ble_eq_true rfl) (by intro vs h; cases h)
  have s1 : bin .sub (.int .i64 0) (.int .i64 (([] : List (List PV)).length : Int)) = some (.int .i64 0) := rfl
  have s2 : bin .sub (.int .i64 (n : Int)) (.int .i64 0) = some (.int .i64 (n : Int)) := by
    show some (PV.int .i64 (IntKind.i64.wrap ((n : Int) - 0))) = _
    rw [Int.sub_zero, wrap64 (by omega) (by omega)]
  repeat first | refine o_copy ?_ | refine nl ?_ | refine ct_seq ?_ | refine rg ?_ | refine ct_block ?_ | refine bq ?_ | refine o_sub ?_ | refine o_bin ?_ | refine o_lenq ?_ | refine o_len ?_
  refine cndf (ct_skip ?_) rfl (decide_eq_false (by omega))
  repeat first | refine o_copy ?_ | refine nl ?_ | refine ct_seq ?_ | refine rg ?_ | refine ct_block ?_ | refine bq ?_ | refine o_v0 vcap0 ?_ | refine o_binE s1 ?_ | refine o_binE s2 ?_ | refine o_sub ?_ | refine o_bin ?_ | refine o_lenq ?_ | refine o_len ?_
  refine cndt ?_ rfl (decide_eq_true (by omega))
  repeat first | refine o_copy ?_ | refine nl ?_ | refine ct_seq ?_ | refine rg ?_ | refine ct_block ?_ | refine bq ?_ | refine o_v0 vcap0 ?_ | refine o_v0 vsln ?_ | refine o_v (vappz (n := n)) ?_ | refine o_slslO (a := 0) (z := 0) ?_ | refine o_sub ?_ | refine o_bin ?_ | refine o_lenq ?_ | refine o_len ?_
  exact ct_ret ⟨.inr rfl, out_own rfl rfl rfl (by decide)⟩
abbrev encL (l : List PairL) : List PV := [.sh false (l.map encP)]
def totL (ls : List (List PairL)) : Nat := (ls.map List.length).sum
theorem tot_cons (l : List PairL) (ls : List (List PairL)) : totL (l :: ls) = l.length + totL ls := by simp [totL]
theorem tot_flat (ls : List (List PairL)) : ls.flatten.length = totL ls := by simp [totL, List.length_flatten]
set_option maxHeartbeats 1000000 in
theorem concat_vc {q : PV} {ls : List (List PairL)} (hq : Sl q (ls.map encL)) (hl : ls.length ≤ 1000000) (ht : totL ls ≤ 1000000) : VC Try.prog 37 [q] [] (ownV ⟨0, 0⟩ (ls.flatten.map encP)) [blkV 3 (ls.flatten.map encP)] := by
  refine vc_of vf37 ?_ (Nat.le_of_ble_eq_true rfl) (by intro vs h; cases h)
  have hml : (ls.map encL).length = ls.length := List.length_map ..
  have htf := tot_flat ls
  repeat first | refine o_copy ?_ | refine nl ?_ | refine ct_seq ?_ | refine rg ?_ | refine ct_block ?_ | refine bq ?_ | refine o_loads ?_ | refine o_loadp ?_ | refine o_iaddr ?_ | refine o_iaddrO ?_ | refine o_iaddrR ?_ | refine o_add ?_ | refine o_cat ?_ | refine o_bin ?_ | refine o_lenq ?_ | refine o_len ?_
  refine ct_loopG (fun (g : Nat × Nat) => [(0, q), (3, .int .i64 g.2), (9, q), (10, .int .i64 (ls.map encL).length), (11, .int .i64 g.1)])
    (fun g => []) (fun g => ls.length - g.1)
    (fun g => g.1 ≤ ls.length ∧ g.2 + totL (ls.drop g.1) = totL ls) (0, 0) goes ⟨Nat.zero_le _, by simp⟩ ?_
  rintro ⟨i, n⟩ ⟨hi, hn⟩
  dsimp only at hi hn ⊢
  repeat first | refine o_copy ?_ | refine nl ?_ | refine ct_seq ?_ | refine rg ?_ | refine ct_block ?_ | refine bq ?_ | refine o_loads ?_ | refine o_loadp ?_ | refine o_iaddr ?_ | refine o_iaddrO ?_ | refine o_iaddrR ?_ | refine o_add ?_ | refine o_cat ?_ | refine o_bin ?_ | refine o_lenq ?_ | refine o_len ?_
  refine cnd (fun h => ct_skip ?_) (fun h => ct_exit ?_)
  · have hlt : i < ls.length := by have h' := of_decide_eq_true h; omega
    obtain ⟨l, hl⟩ : ∃ x, ls[i]? = some x := ⟨_, List.getElem?_eq_getElem hlt⟩
    have hle := gm (enc := encL) (n := (i : Int)) hl (by omega)
    rw [drop_get hl, tot_cons] at hn
    have hll : (l.map encP).length = l.length := List.length_map ..
    repeat first | refine o_copy ?_ | refine nl ?_ | refine ct_seq ?_ | refine rg ?_ | refine ct_block ?_ | refine bq ?_ | refine o_loads ?_ | refine o_loadp ?_ | refine o_iaddr ?_ | refine o_iaddrO ?_ | refine o_iaddrR ?_ | refine o_add ?_ | refine o_cat ?_ | refine o_bin ?_ | refine o_lenq ?_ | refine o_len ?_
    refine cndf (ct_skip ?_) rfl (decide_eq_false (by omega))
    repeat first | refine o_copy ?_ | refine nl ?_ | refine ct_seq ?_ | refine rg ?_ | refine ct_block ?_ | refine bq ?_ | refine o_loads ?_ | refine o_loadp ?_ | refine o_iaddr ?_ | refine o_iaddrO ?_ | refine o_iaddrR ?_ | refine o_add ?_ | refine o_cat ?_ | refine o_bin ?_ | refine o_lenq ?_ | refine o_len ?_
    exact agn (i + 1, n + l.length) ⟨by simp only; omega, by simp only; omega⟩ (goes (h1 := by
      refine ⟨rfl, ?_, rfl, rfl, rfl, trivial⟩
      exact congrArg (fun z => some (PV.int .i64 z)) (by simp only [hll]; omega)))
  have hge : i = ls.length := by have h' := of_decide_eq_false h; omega
  subst hge
  have hn2 : n = totL ls := by rw [List.drop_length] at hn; simpa [totL] using hn
  subst hn2
  clear hn h
  rcases Nat.eq_zero_or_pos (totL ls) with h0 | hpos
  · have hall : ∀ (m : List (List PairL)), totL m = 0 → ∀ l ∈ m, l = [] := by
      intro m
      induction m with
      | nil => intro _ l hl; cases hl
      | cons x m ih =>
        intro h l hl
        rw [tot_cons] at h
        rcases List.mem_cons.1 hl with rfl | hl
        · exact List.length_eq_zero_iff.1 (by omega)
        · exact ih (by omega) l hl
    have hfl : ls.flatten = [] := List.length_eq_zero_iff.1 (by omega)
    rw [hfl, h0]
    repeat first | refine o_copy ?_ | refine nl ?_ | refine ct_seq ?_ | refine rg ?_ | refine ct_block ?_ | refine bq ?_ | refine cv0 grow0_vc ?_ | refine o_loads ?_ | refine o_loadp ?_ | refine o_iaddr ?_ | refine o_iaddrO ?_ | refine o_iaddrR ?_ | refine o_add ?_ | refine o_cat ?_ | refine o_bin ?_ | refine o_lenq ?_ | refine o_len ?_
    refine ct_loopG (fun (g : Nat) => [(6, ownV ⟨1, 106512⟩ (([] : List PairL).map encP)), (25, q), (26, .int .i64 (ls.map encL).length), (27, .int .i64 g)])
      (fun g => [(⟨1, 106512⟩, blkV 3 (([] : List PairL).map encP))]) (fun g => ls.length - g)
      (fun g => g ≤ ls.length) 0 ((Imp.nil (t := 6) (b := ⟨1, 106512⟩) (esz := 3) rfl rfl (by decide)).trans goes) (Nat.zero_le _) ?_
    intro i hi
    (try dsimp only)
    repeat first | refine o_copy ?_ | refine nl ?_ | refine ct_seq ?_ | refine rg ?_ | refine ct_block ?_ | refine bq ?_ | refine o_loads ?_ | refine o_loadp ?_ | refine o_iaddr ?_ | refine o_iaddrO ?_ | refine o_iaddrR ?_ | refine o_add ?_ | refine o_cat ?_ | refine o_bin ?_ | refine o_lenq ?_ | refine o_len ?_
    refine cnd (fun h => ct_skip ?_) (fun h => ct_exit ?_)
    · have hlt : i < ls.length := by have h' := of_decide_eq_true h; omega
      obtain ⟨l, hl⟩ : ∃ x, ls[i]? = some x := ⟨_, List.getElem?_eq_getElem hlt⟩
      have hle := gm (enc := encL) (n := (i : Int)) hl (by omega)
      have hl0 := hall ls h0 l (List.mem_of_getElem? hl)
      subst hl0
      repeat first | refine o_copy ?_ | refine nl ?_ | refine ct_seq ?_ | refine rg ?_ | refine ct_block ?_ | refine bq ?_ | refine o_v (vaps encP [] []) ?_ | refine o_loads ?_ | refine o_loadp ?_ | refine o_iaddr ?_ | refine o_iaddrO ?_ | refine o_iaddrR ?_ | refine o_add ?_ | refine o_cat ?_ | refine o_bin ?_ | refine o_lenq ?_ | refine o_len ?_
      exact agn (i + 1) (by omega) goes
    · repeat first | refine o_copy ?_ | refine nl ?_ | refine ct_seq ?_ | refine rg ?_ | refine ct_block ?_ | refine bq ?_ | refine o_loads ?_ | refine o_loadp ?_ | refine o_iaddr ?_ | refine o_iaddrO ?_ | refine o_iaddrR ?_ | refine o_add ?_ | refine o_cat ?_ | refine o_bin ?_ | refine o_lenq ?_ | refine o_len ?_
      exact ct_ret ⟨.inr rfl, oOwn rfl⟩
  · have hrep : List.replicate (totL ls) (encP zP) = (List.replicate (totL ls) zP).map encP := by rw [List.map_replicate]
    have hg := grow_vc hpos ht
    rw [hrep] at hg
    generalize totL ls = N at *
    have hcl : (blkV 3 ((List.replicate N zP).map encP)).frz = false ∧ ∀ e ∈ (blkV 3 ((List.replicate N zP).map encP)).els, ∀ c ∈ e, cS c = true := ⟨rfl, by intro e he; obtain ⟨a, _, rfl⟩ := List.mem_map.1 he; simp [cS, cN, clean]⟩
    repeat first | refine o_copy ?_ | refine nl ?_ | refine ct_seq ?_ | refine rg ?_ | refine ct_block ?_ | refine bq ?_ | refine cv hg ?_ | refine o_loads ?_ | refine o_loadp ?_ | refine o_iaddr ?_ | refine o_iaddrO ?_ | refine o_iaddrR ?_ | refine o_add ?_ | refine o_cat ?_ | refine o_bin ?_ | refine o_lenq ?_ | refine o_len ?_
    refine ct_loopG (fun (g : Nat × List PairL) => [(6, .own ⟨1, 73736⟩ N 0 g.2.length), (25, q), (26, .int .i64 (ls.map encL).length), (27, .int .i64 g.1)])
      (fun g => [(⟨1, 73736⟩, blkV 3 ((g.2 ++ List.replicate (N - g.2.length) zP).map encP))]) (fun g => ls.length - g.1)
      (fun g => g.1 ≤ ls.length ∧ g.2 ++ (ls.drop g.1).flatten = ls.flatten) (0, []) goes ⟨Nat.zero_le _, rfl⟩ ?_
    rintro ⟨i, o⟩ ⟨hi, hv⟩
    dsimp only at hi hv ⊢
    have hol := congrArg List.length hv
    rw [List.length_append, htf] at hol
    repeat first | refine o_copy ?_ | refine nl ?_ | refine ct_seq ?_ | refine rg ?_ | refine ct_block ?_ | refine bq ?_ | refine o_loads ?_ | refine o_loadp ?_ | refine o_iaddr ?_ | refine o_iaddrO ?_ | refine o_iaddrR ?_ | refine o_add ?_ | refine o_cat ?_ | refine o_bin ?_ | refine o_lenq ?_ | refine o_len ?_
    refine cnd (fun h => ct_skip ?_) (fun h => ct_exit ?_)
    · have hlt : i < ls.length := by have h' := of_decide_eq_true h; omega
      obtain ⟨l, hl⟩ : ∃ x, ls[i]? = some x := ⟨_, List.getElem?_eq_getElem hlt⟩
      have hle := gm (enc := encL) (n := (i : Int)) hl (by omega)
      rw [drop_get hl, List.flatten_cons] at hv hol
      rw [List.length_append] at hol
      have e1 : o ++ l ++ (List.replicate (N - o.length) zP).drop l.length = (o ++ l) ++ List.replicate (N - (o ++ l).length) zP := by
        rw [List.drop_replicate, List.length_append]; congr 2; omega
      have hrl : (List.replicate (N - o.length) zP).length = N - o.length := List.length_replicate ..
      have e2 : o.length + l.length = (o ++ l).length := List.length_append.symm
      repeat first | refine o_copy ?_ | refine nl ?_ | refine ct_seq ?_ | refine rg ?_ | refine ct_block ?_ | refine bq ?_ | refine o_v (vapfE encP o l (List.replicate (N - o.length) zP) e1 e2) ?_ | refine o_loads ?_ | refine o_loadp ?_ | refine o_iaddr ?_ | refine o_iaddrO ?_ | refine o_iaddrR ?_ | refine o_add ?_ | refine o_cat ?_ | refine o_bin ?_ | refine o_lenq ?_ | refine o_len ?_
      refine agn (i + 1, o ++ l) ⟨by simp only; omega, by rw [← hv]; simp⟩ goes
    · have hge : i = ls.length := by have h' := of_decide_eq_false h; omega
      subst hge
      rw [List.drop_length] at hv hol
      rw [List.flatten_nil, List.append_nil] at hv
      rw [List.flatten_nil, List.length_nil] at hol
      subst hv
      simp only [htf, Nat.sub_self, List.replicate_zero, List.append_nil]
      repeat first | refine o_copy ?_ | refine nl ?_ | refine ct_seq ?_ | refine rg ?_ | refine ct_block ?_ | refine bq ?_ | refine o_loads ?_ | refine o_loadp ?_ | refine o_iaddr ?_ | refine o_iaddrO ?_ | refine o_iaddrR ?_ | refine o_add ?_ | refine o_cat ?_ | refine o_bin ?_ | refine o_lenq ?_ | refine o_len ?_
      exact ct_ret ⟨.inr rfl, oOwn rfl⟩
theorem drop_vc0 {t : List PairL} (s : SpanL) (hs : Srt t) (hl : t.length ≤ 1000000) : VC Try.prog 20 [.sh false (t.map encP), .agg (encS s)] [] (ownV ⟨0, 0⟩ ((dropL t s).map encP)) [blkV 3 ((dropL t s).map encP)] := by
  refine vc_of vf20 ?_ (Nat.le_of_ble_eq_true rfl) (by intro vs h; cases h)
  obtain ⟨h1, h2⟩ := bounds_le hs s
  have h3 := drop_eq hs s
  have hb := bounds_vc (q := .sh false (t.map encP)) s hs Sl.sh hl
  have hml : (t.map encP).length = t.length := List.length_map ..
  rw [← h3]
  generalize (boundsL t s).1 = a at *
  generalize (boundsL t s).2 = z at *
  have hc := concat_vc (q := .sh false ([t.take a, t.drop z].map encL)) (ls := [t.take a, t.drop z]) Sl.sh (by simp) (by simp [totL]; omega)
  rw [show [t.take a, t.drop z].flatten = t.take a ++ t.drop z by simp] at hc
  repeat first | refine o_copy ?_ | refine nl ?_ | refine ct_seq ?_ | refine rg ?_ | refine ct_block ?_ | refine bq ?_ | refine cv0 hb ?_ | refine o_v0 (vslh t (t.take a) 0 a (by simp)) ?_ | refine o_v0 (vslh t (t.drop z) z t.length (by rw [List.take_of_length_le (by simp)]) (h2 := congrArg (fun n : Nat => some (n : Int)) hml)) ?_ | refine cv hc ?_ | refine o_loadsA ?_ | refine o_loadpA ?_ | refine o_box ?_ | refine o_bslice ?_ | refine o_extract ?_
  exact ct_ret ⟨.inr rfl, oOwn rfl⟩
theorem drop_vc {q : PV} {t : List PairL} (s : SpanL) (hs : Srt t) (hq : Sl q (t.map encP)) (hl : t.length ≤ 1000000) : VC Try.prog 20 [q, .agg (encS s)] [] (ownV ⟨0, 0⟩ ((dropL t s).map encP)) [blkV 3 ((dropL t s).map encP)] :=
  vc_weak (drop_vc0 s hs hl) (.cons (PLe.sl hq) (.cons (PLe.refl _) .nil)) (PLe.refl _)
end Go.Proofs
