/- Sk -/
import Derived.Test.YtloajdobgadplaaSg
import Derived.Test.YtloajdobgadplaaSh
open Go.V Go.Pu
set_option linter.unusedVariables false
set_option linter.unusedSimpArgs false
set_option maxRecDepth 20000
namespace Go.Proofs
/-- downspout/span.gaps -/
def vc50 : VCode :=
 (.seq
 (.region 0 false [
 ⟨(some 2), .copy (.c .nils), none, 0, []⟩])
 (.seq
 (.region 1 false [
 ⟨(some 3), .copy (.c .nils), none, 8192, []⟩])
 (.seq
 (.region 2 false [
 ⟨(some 4), .copy (.c (.str [])), none, 16384, []⟩])
 (.seq
 (.seq
 (.region 3 false [
 ⟨(some 7), .copy (.t 0), none, 24576, []⟩,
 ⟨(some 8), .len (.t 7), none, 24584, [0]⟩,
 ⟨(some 9), .copy (.c (.int .i64 0)), none, 24592, []⟩])
 (.block 0
 (.loop
 (.seq
 (.region 4 false [
 ⟨(some 10), .bin .lss (.t 9) (.t 8), none, 32768, []⟩])
 (.seq
 (.cond (.t 10)
 .skip
 (.exit 0))
 (.seq
 (.block 1
 (.seq
 (.region 5 false [
 ⟨(some 11), .iaddr 2 (.t 7) (.t 9), none, 40960, []⟩,
 ⟨(some 12), .load true 2 (.t 11), none, 40968, [0]⟩,
 ⟨(some 6), .alloc [(.str []), (.str [])], none, 40976, []⟩,
 ⟨none, .store 2 (.t 6) (.t 12), none, 40984, [2, 1, 0]⟩])
 (.seq
 (.seq
 (.region 6 false [
 ⟨(some 13), .faddr 0 (.t 6), none, 49152, []⟩,
 ⟨(some 14), .load false 1 (.t 13), none, 49160, [0]⟩,
 ⟨(some 15), .bin .neq (.t 14) (.c (.str [])), none, 49168, [1, 0]⟩])
 (.cond (.t 15)
 (.region 7 false [
 ⟨(some 16), .copy (.t 3), none, 57344, []⟩,
 ⟨(some 17), .copy (.t 4), none, 57352, []⟩,
 ⟨(some 18), .faddr 0 (.t 6), none, 57360, []⟩,
 ⟨(some 19), .load false 1 (.t 18), none, 57368, [2]⟩,
 ⟨(some 20), .build [(.str []), (.str [])] [(0, 1, (.t 17)), (1, 1, (.t 19))], none, 57376, [1, 3, 2]⟩,
 ⟨(some 21), .bslice 2 [(.str []), (.str [])] 1 [(0, (.t 20))], none, 57384, [4, 1, 3, 2]⟩,
 ⟨(some 22), .append 2 32 [(.str []), (.str [])] (.t 16) (.t 21), none, 57392, [0, 5, 4, 1, 3, 2]⟩,
 ⟨(some 3), .copy (.t 22), none, 57400, [6, 0, 5, 4, 1, 3, 2]⟩])
 .skip))
 (.seq
 (.region 8 false [
 ⟨(some 23), .faddr 1 (.t 6), none, 65536, []⟩,
 ⟨(some 24), .load false 1 (.t 23), none, 65544, [0]⟩,
 ⟨(some 4), .copy (.t 24), none, 65552, [1, 0]⟩])
 (.seq
 (.region 9 false [
 ⟨(some 25), .copy (.t 4), none, 73728, []⟩,
 ⟨(some 26), .bin .eql (.t 25) (.c (.str [])), none, 73736, [0]⟩])
 (.cond (.t 26)
 (.seq
 (.region 10 false [
 ⟨(some 27), .copy (.t 3), none, 81920, []⟩,
 ⟨(some 2), .copy (.t 27), none, 81928, [0]⟩])
 .ret)
 .skip))))))
 (.region 11 false [
 ⟨(some 28), .bin .add (.t 9) (.c (.int .i64 1)), none, 90112, []⟩,
 ⟨(some 9), .copy (.t 28), none, 90120, [0]⟩])))))))
 (.seq
 (.region 12 false [
 ⟨(some 29), .copy (.t 3), none, 98304, []⟩,
 ⟨(some 30), .copy (.t 4), none, 98312, []⟩,
 ⟨(some 31), .build [(.str []), (.str [])] [(0, 1, (.t 30))], none, 98320, [1]⟩,
 ⟨(some 32), .bslice 2 [(.str []), (.str [])] 1 [(0, (.t 31))], none, 98328, [2, 1]⟩,
 ⟨(some 33), .append 2 32 [(.str []), (.str [])] (.t 29) (.t 32), none, 98336, [0, 3, 2, 1]⟩,
 ⟨(some 2), .copy (.t 33), none, 98344, [4, 0, 3, 2, 1]⟩])
 .ret)))))
theorem vf50 : VF Try.prog 50 = some (34, vc50, [.tmp 2]) := by kernel_rfl
/-- downspout/span.Minus -/
def vc34 : VCode :=
 (.seq
 (.region 0 false [
 ⟨(some 4), .copy (.c .nils), none, 0, []⟩])
 (.seq
 (.region 1 false [
 ⟨(some 5), .copy (.c .nils), none, 8192, []⟩])
 (.seq
 (.seq
 (.region 2 false [
 ⟨(some 10), .copy (.t 1), none, 16384, []⟩,
 ⟨(some 11), .call (.c (.fn 32 [])) [(.t 10)], none, 16392, [0]⟩,
 ⟨(some 12), .call (.c (.fn 50 [])) [(.t 11)], none, 16400, [1, 0]⟩,
 ⟨(some 13), .len (.t 12), none, 16408, [2, 1, 0]⟩,
 ⟨(some 14), .copy (.c (.int .i64 0)), none, 16416, []⟩])
 (.block 0
 (.loop
 (.seq
 (.region 3 false [
 ⟨(some 15), .bin .lss (.t 14) (.t 13), none, 24576, []⟩])
 (.seq
 (.cond (.t 15)
 .skip
 (.exit 0))
 (.seq
 (.block 1
 (.seq
 (.region 4 false [
 ⟨(some 16), .iaddr 2 (.t 12) (.t 14), none, 32768, []⟩,
 ⟨(some 17), .load true 2 (.t 16), none, 32776, [0]⟩,
 ⟨(some 7), .alloc [(.str []), (.str [])], none, 32784, []⟩,
 ⟨none, .store 2 (.t 7) (.t 17), none, 32792, [2, 1, 0]⟩])
 (.seq
 (.region 5 false [
 ⟨(some 18), .copy (.t 0), none, 40960, []⟩,
 ⟨(some 19), .len (.t 18), none, 40968, [0]⟩,
 ⟨(some 20), .copy (.c (.int .i64 0)), none, 40976, []⟩])
 (.block 2
 (.loop
 (.seq
 (.region 6 false [
 ⟨(some 21), .bin .lss (.t 20) (.t 19), none, 49152, []⟩])
 (.seq
 (.cond (.t 21)
 .skip
 (.exit 2))
 (.seq
 (.block 3
 (.seq
 (.region 7 false [
 ⟨(some 22), .iaddr 2 (.t 18) (.t 20), none, 57344, []⟩,
 ⟨(some 23), .load true 2 (.t 22), none, 57352, [0]⟩,
 ⟨(some 9), .alloc [(.str []), (.str [])], none, 57360, []⟩,
 ⟨none, .store 2 (.t 9) (.t 23), none, 57368, [2, 1, 0]⟩])
 (.region 8 false [
 ⟨(some 24), .copy (.t 5), none, 65536, []⟩,
 ⟨(some 25), .load true 2 (.t 7), none, 65544, []⟩,
 ⟨(some 26), .load true 2 (.t 9), none, 65552, []⟩,
 ⟨(some 27), .call (.c (.fn 25 [])) [(.t 25), (.t 26)], none, 65560, [1, 2]⟩,
 ⟨(some 28), .bslice 2 [(.str []), (.str [])] 1 [(0, (.t 27))], none, 65568, [3, 1, 2]⟩,
 ⟨(some 29), .append 2 32 [(.str []), (.str [])] (.t 24) (.t 28), none, 65576, [0, 4, 3, 1, 2]⟩,
 ⟨(some 5), .copy (.t 29), none, 65584, [5, 0, 4, 3, 1, 2]⟩])))
 (.region 9 false [
 ⟨(some 30), .bin .add (.t 20) (.c (.int .i64 1)), none, 73728, []⟩,
 ⟨(some 20), .copy (.t 30), none, 73736, [0]⟩])))))))))
 (.region 10 false [
 ⟨(some 31), .bin .add (.t 14) (.c (.int .i64 1)), none, 81920, []⟩,
 ⟨(some 14), .copy (.t 31), none, 81928, [0]⟩])))))))
 (.seq
 (.region 11 false [
 ⟨(some 32), .copy (.t 5), none, 90112, []⟩,
 ⟨(some 33), .call (.c (.fn 32 [])) [(.t 32)], none, 90120, [0]⟩,
 ⟨(some 4), .copy (.t 33), none, 90128, [1, 0]⟩])
 .ret))))
theorem vf34 : VF Try.prog 34 = some (34, vc34, [.tmp 4]) := by kernel_rfl
/-- downspout/downspoutref02.Minus -/
def vc35 : VCode :=
 (.seq
 (.region 0 false [
 ⟨(some 4), .copy (.c .nils), none, 0, []⟩])
 (.seq
 (.region 1 false [
 ⟨(some 9), .copy (.t 0), none, 8192, []⟩,
 ⟨(some 10), .call (.c (.fn 33 [])) [(.t 9)], none, 8200, [0]⟩,
 ⟨(some 5), .copy (.t 10), none, 8208, [1, 0]⟩])
 (.seq
 (.seq
 (.region 2 false [
 ⟨(some 6), .copy (.c (.int .i64 0)), none, 16384, []⟩])
 (.block 0
 (.loop
 (.seq
 (.seq
 (.region 3 false [
 ⟨(some 11), .copy (.t 6), none, 24576, []⟩,
 ⟨(some 12), .copy (.t 1), none, 24584, []⟩,
 ⟨(some 13), .len (.t 12), none, 24592, [1]⟩,
 ⟨(some 14), .bin .lss (.t 11) (.t 13), none, 24600, [0, 2, 1]⟩])
 (.cond (.t 14)
 .skip
 (.exit 0)))
 (.seq
 (.block 1
 (.seq
 (.seq
 (.region 5 false [
 ⟨(some 17), .copy (.t 1), none, 40960, []⟩,
 ⟨(some 18), .copy (.t 6), none, 40968, []⟩,
 ⟨(some 19), .iaddr 2 (.t 17) (.t 18), none, 40976, [0, 1]⟩,
 ⟨(some 20), .load true 2 (.t 19), none, 40984, [2, 0, 1]⟩,
 ⟨(some 21), .call (.c (.fn 24 [])) [(.t 20)], none, 40992, [3, 2, 0, 1]⟩])
 (.cond (.t 21)
 (.exit 1)
 .skip))
 (.seq
 (.region 6 false [
 ⟨(some 22), .bslice 2 [(.str []), (.str [])] 0 [], none, 49152, []⟩,
 ⟨(some 7), .copy (.t 22), none, 49160, [0]⟩])
 (.seq
 (.seq
 (.region 7 false [
 ⟨(some 8), .copy (.c (.int .i64 0)), none, 57344, []⟩])
 (.block 2
 (.loop
 (.seq
 (.seq
 (.region 8 false [
 ⟨(some 23), .copy (.t 8), none, 65536, []⟩,
 ⟨(some 24), .copy (.t 5), none, 65544, []⟩,
 ⟨(some 25), .len (.t 24), none, 65552, [1]⟩,
 ⟨(some 26), .bin .lss (.t 23) (.t 25), none, 65560, [0, 2, 1]⟩])
 (.cond (.t 26)
 .skip
 (.exit 2)))
 (.seq
 (.block 3
 (.seq
 (.seq
 (.region 10 false [
 ⟨(some 29), .copy (.t 1), none, 81920, []⟩,
 ⟨(some 30), .copy (.t 6), none, 81928, []⟩,
 ⟨(some 31), .iaddr 2 (.t 29) (.t 30), none, 81936, [0, 1]⟩,
 ⟨(some 32), .faddr 0 (.t 31), none, 81944, [2, 0, 1]⟩,
 ⟨(some 33), .load false 1 (.t 32), none, 81952, [3, 2, 0, 1]⟩,
 ⟨(some 34), .bin .neq (.t 33) (.c (.str [])), none, 81960, [4, 3, 2, 0, 1]⟩])
 (.cond (.t 34)
 (.region 11 true [
 ⟨(some 35), .copy (.t 7), none, 90112, []⟩,
 ⟨(some 36), .copy (.t 5), none, 90120, []⟩,
 ⟨(some 37), .copy (.t 8), none, 90128, []⟩,
 ⟨(some 38), .iaddr 2 (.t 36) (.t 37), none, 90136, [1, 2]⟩,
 ⟨(some 39), .load true 2 (.t 38), none, 90144, [3, 1, 2]⟩,
 ⟨(some 40), .copy (.t 1), none, 90152, []⟩,
 ⟨(some 41), .copy (.t 6), none, 90160, []⟩,
 ⟨(some 42), .iaddr 2 (.t 40) (.t 41), none, 90168, [5, 6]⟩,
 ⟨(some 43), .faddr 0 (.t 42), none, 90176, [7, 5, 6]⟩,
 ⟨(some 44), .load false 1 (.t 43), none, 90184, [8, 7, 5, 6]⟩,
 ⟨(some 45), .build [(.str []), (.str [])] [(1, 1, (.t 44))], none, 90192, [9, 8, 7, 5, 6]⟩,
 ⟨(some 46), .call (.c (.fn 26 [])) [(.t 39), (.t 45)], none, 90200, [4, 3, 1, 2, 10, 9, 8, 7, 5, 6]⟩,
 ⟨(some 47), .bslice 2 [(.str []), (.str [])] 1 [(0, (.t 46))], none, 90208, [11, 4, 3, 1, 2, 10, 9, 8, 7, 5, 6]⟩,
 ⟨(some 48), .append 2 32 [(.str []), (.str [])] (.t 35) (.t 47), none, 90216, [0, 12, 11, 4, 3, 1, 2, 10, 9, 8, 7, 5, 6]⟩,
 ⟨(some 7), .copy (.t 48), none, 90224, [13, 0, 12, 11, 4, 3, 1, 2, 10, 9, 8, 7, 5, 6]⟩])
 .skip))
 (.seq
 (.region 12 false [
 ⟨(some 49), .copy (.t 1), none, 98304, []⟩,
 ⟨(some 50), .copy (.t 6), none, 98312, []⟩,
 ⟨(some 51), .iaddr 2 (.t 49) (.t 50), none, 98320, [0, 1]⟩,
 ⟨(some 52), .faddr 1 (.t 51), none, 98328, [2, 0, 1]⟩,
 ⟨(some 53), .load false 1 (.t 52), none, 98336, [3, 2, 0, 1]⟩,
 ⟨(some 54), .bin .neq (.t 53) (.c (.str [])), none, 98344, [4, 3, 2, 0, 1]⟩])
 (.cond (.t 54)
 (.region 13 true [
 ⟨(some 55), .copy (.t 7), none, 106496, []⟩,
 ⟨(some 56), .copy (.t 5), none, 106504, []⟩,
 ⟨(some 57), .copy (.t 8), none, 106512, []⟩,
 ⟨(some 58), .iaddr 2 (.t 56) (.t 57), none, 106520, [1, 2]⟩,
 ⟨(some 59), .load true 2 (.t 58), none, 106528, [3, 1, 2]⟩,
 ⟨(some 60), .copy (.t 1), none, 106536, []⟩,
 ⟨(some 61), .copy (.t 6), none, 106544, []⟩,
 ⟨(some 62), .iaddr 2 (.t 60) (.t 61), none, 106552, [5, 6]⟩,
 ⟨(some 63), .faddr 1 (.t 62), none, 106560, [7, 5, 6]⟩,
 ⟨(some 64), .load false 1 (.t 63), none, 106568, [8, 7, 5, 6]⟩,
 ⟨(some 65), .build [(.str []), (.str [])] [(0, 1, (.t 64))], none, 106576, [9, 8, 7, 5, 6]⟩,
 ⟨(some 66), .call (.c (.fn 26 [])) [(.t 59), (.t 65)], none, 106584, [4, 3, 1, 2, 10, 9, 8, 7, 5, 6]⟩,
 ⟨(some 67), .bslice 2 [(.str []), (.str [])] 1 [(0, (.t 66))], none, 106592, [11, 4, 3, 1, 2, 10, 9, 8, 7, 5, 6]⟩,
 ⟨(some 68), .append 2 32 [(.str []), (.str [])] (.t 55) (.t 67), none, 106600, [0, 12, 11, 4, 3, 1, 2, 10, 9, 8, 7, 5, 6]⟩,
 ⟨(some 7), .copy (.t 68), none, 106608, [13, 0, 12, 11, 4, 3, 1, 2, 10, 9, 8, 7, 5, 6]⟩])
 .skip))))
 (.region 9 false [
 ⟨(some 27), .copy (.t 8), none, 73728, []⟩,
 ⟨(some 28), .bin .add (.t 27) (.c (.int .i64 1)), none, 73736, [0]⟩,
 ⟨(some 8), .copy (.t 28), none, 73744, [1, 0]⟩]))))))
 (.region 14 false [
 ⟨(some 69), .copy (.t 7), none, 114688, []⟩,
 ⟨(some 70), .call (.c (.fn 33 [])) [(.t 69)], none, 114696, [0]⟩,
 ⟨(some 5), .copy (.t 70), none, 114704, [1, 0]⟩])))))
 (.region 4 false [
 ⟨(some 15), .copy (.t 6), none, 32768, []⟩,
 ⟨(some 16), .bin .add (.t 15) (.c (.int .i64 1)), none, 32776, [0]⟩,
 ⟨(some 6), .copy (.t 16), none, 32784, [1, 0]⟩]))))))
 (.seq
 (.region 15 false [
 ⟨(some 71), .copy (.t 5), none, 122880, []⟩,
 ⟨(some 4), .copy (.t 71), none, 122888, [0]⟩])
 .ret))))
theorem vf35 : VF Try.prog 35 = some (72, vc35, [.tmp 4]) := by kernel_rfl
/-! Minus -/
theorem gaps_vc {q : PV} {l : List SpanL} (hq : Sl q (l.map encS)) (hl : l.length ≤ 1000000) : VC Try.prog 50 [q] [] (ownV ⟨0, 0⟩ ((gapsF [] l []).map encS)) [blkV 2 ((gapsF [] l []).map encS)] := by
  refine vc_of vf50 ?_ (Nat.le_of_ble_eq_true rfl) (by intro vs h; cases h)
  repeat first | refine o_copy ?_ | refine nl ?_ | refine ct_seq ?_ | refine rg ?_ | refine ct_block ?_ | refine bq ?_ | refine o_loads ?_ | refine o_loadp ?_ | refine o_faddr ?_ | refine o_iaddr ?_ | refine o_iaddrO ?_ | refine o_iaddrR ?_ | refine o_add ?_ | refine o_cat ?_ | refine o_bin ?_ | refine o_lenq ?_ | refine o_len ?_ | refine o_loadsA ?_ | refine o_loadpA ?_ | refine o_alloc ?_ | refine o_bslice ?_ | refine o_store ?_ | refine o_build ?_
  refine ct_loopG (fun (g : Nat × Str × List SpanL) => [(3, ownV ⟨1, 57392⟩ (g.2.2.map encS)), (4, .str g.2.1), (7, q), (8, .int .i64 (l.map encS).length), (9, .int .i64 g.1)])
    (fun g => [(⟨1, 57392⟩, blkV 2 (g.2.2.map encS))]) (fun g => l.length - g.1)
    (fun g => g.1 ≤ l.length ∧ g.2.2.length ≤ g.1 ∧ gapsF g.2.1 (l.drop g.1) g.2.2 = gapsF [] l []) (0, [], []) ((Imp.nil (t := 3) (b := ⟨1, 57392⟩) (esz := 2) rfl rfl (by decide)).trans goes) ⟨Nat.zero_le _, Nat.le_refl _, rfl⟩ ?_
  rintro ⟨i, lo, out⟩ ⟨hi, ho, hv⟩
  dsimp only at hi ho hv ⊢
  repeat first | refine o_copy ?_ | refine nl ?_ | refine ct_seq ?_ | refine rg ?_ | refine ct_block ?_ | refine bq ?_ | refine o_loads ?_ | refine o_loadp ?_ | refine o_faddr ?_ | refine o_iaddr ?_ | refine o_iaddrO ?_ | refine o_iaddrR ?_ | refine o_add ?_ | refine o_cat ?_ | refine o_bin ?_ | refine o_lenq ?_ | refine o_len ?_ | refine o_loadsA ?_ | refine o_loadpA ?_ | refine o_alloc ?_ | refine o_bslice ?_ | refine o_store ?_ | refine o_build ?_
  refine cnd (fun h => ct_skip ?_) (fun h => ct_exit ?_)
  · have hlt : i < l.length := by have h' := of_decide_eq_true h; simp only [List.length_map] at h'; omega
    obtain ⟨y, hy⟩ : ∃ x, l[i]? = some x := ⟨_, List.getElem?_eq_getElem hlt⟩
    have hye := gm (enc := encS) (n := (i : Int)) hy (by omega)
    rw [drop_get hy, gapsF] at hv
    repeat first | refine o_copy ?_ | refine nl ?_ | refine ct_seq ?_ | refine rg ?_ | refine ct_block ?_ | refine bq ?_ | refine o_loads ?_ | refine o_loadp ?_ | refine o_faddr ?_ | refine o_iaddr ?_ | refine o_iaddrO ?_ | refine o_iaddrR ?_ | refine o_add ?_ | refine o_cat ?_ | refine o_bin ?_ | refine o_lenq ?_ | refine o_len ?_ | refine o_loadsA ?_ | refine o_loadpA ?_ | refine o_alloc ?_ | refine o_bslice ?_ | refine o_store ?_ | refine o_build ?_
    refine cnd (fun h1 => ?_) (fun h1 => ct_skip ?_)
    · have h1' : y.lo ≠ [] := by simpa using h1
      rw [if_neg h1'] at hv
      repeat first | refine o_copy ?_ | refine nl ?_ | refine ct_seq ?_ | refine rg ?_ | refine ct_block ?_ | refine bq ?_ | refine o_v (vap encS (⟨lo, y.lo⟩ : SpanL)) ?_ | refine o_loads ?_ | refine o_loadp ?_ | refine o_faddr ?_ | refine o_iaddr ?_ | refine o_iaddrO ?_ | refine o_iaddrR ?_ | refine o_add ?_ | refine o_cat ?_ | refine o_bin ?_ | refine o_lenq ?_ | refine o_len ?_ | refine o_loadsA ?_ | refine o_loadpA ?_ | refine o_alloc ?_ | refine o_bslice ?_ | refine o_store ?_ | refine o_build ?_
      refine cnd (fun h2 => ?_) (fun h2 => ct_skip ?_)
      · have h2' : y.hi = [] := by simpa using h2
        rw [if_pos h2'] at hv
        repeat first | refine o_copy ?_ | refine nl ?_ | refine ct_seq ?_ | refine rg ?_ | refine ct_block ?_ | refine bq ?_ | refine o_loads ?_ | refine o_loadp ?_ | refine o_faddr ?_ | refine o_iaddr ?_ | refine o_iaddrO ?_ | refine o_iaddrR ?_ | refine o_add ?_ | refine o_cat ?_ | refine o_bin ?_ | refine o_lenq ?_ | refine o_len ?_ | refine o_loadsA ?_ | refine o_loadpA ?_ | refine o_alloc ?_ | refine o_bslice ?_ | refine o_store ?_ | refine o_build ?_
        exact ct_ret ⟨.inr rfl, oOwn (congrArg (List.map encS) hv)⟩
      · have h2' : y.hi ≠ [] := by simpa using h2
        rw [if_neg h2'] at hv
        repeat first | refine o_copy ?_ | refine nl ?_ | refine ct_seq ?_ | refine rg ?_ | refine ct_block ?_ | refine bq ?_ | refine o_loads ?_ | refine o_loadp ?_ | refine o_faddr ?_ | refine o_iaddr ?_ | refine o_iaddrO ?_ | refine o_iaddrR ?_ | refine o_add ?_ | refine o_cat ?_ | refine o_bin ?_ | refine o_lenq ?_ | refine o_len ?_ | refine o_loadsA ?_ | refine o_loadpA ?_ | refine o_alloc ?_ | refine o_bslice ?_ | refine o_store ?_ | refine o_build ?_
        exact agn (i + 1, y.hi, out ++ [⟨lo, y.lo⟩]) ⟨by simp only; omega, by simp only [List.length_append, List.length_cons, List.length_nil]; omega, hv⟩ goes
    · have h1' : y.lo = [] := by simpa using h1
      rw [if_pos h1'] at hv
      repeat first | refine o_copy ?_ | refine nl ?_ | refine ct_seq ?_ | refine rg ?_ | refine ct_block ?_ | refine bq ?_ | refine o_loads ?_ | refine o_loadp ?_ | refine o_faddr ?_ | refine o_iaddr ?_ | refine o_iaddrO ?_ | refine o_iaddrR ?_ | refine o_add ?_ | refine o_cat ?_ | refine o_bin ?_ | refine o_lenq ?_ | refine o_len ?_ | refine o_loadsA ?_ | refine o_loadpA ?_ | refine o_alloc ?_ | refine o_bslice ?_ | refine o_store ?_ | refine o_build ?_
      refine cnd (fun h2 => ?_) (fun h2 => ct_skip ?_)
      · have h2' : y.hi = [] := by simpa using h2
        rw [if_pos h2'] at hv
        repeat first | refine o_copy ?_ | refine nl ?_ | refine ct_seq ?_ | refine rg ?_ | refine ct_block ?_ | refine bq ?_ | refine o_loads ?_ | refine o_loadp ?_ | refine o_faddr ?_ | refine o_iaddr ?_ | refine o_iaddrO ?_ | refine o_iaddrR ?_ | refine o_add ?_ | refine o_cat ?_ | refine o_bin ?_ | refine o_lenq ?_ | refine o_len ?_ | refine o_loadsA ?_ | refine o_loadpA ?_ | refine o_alloc ?_ | refine o_bslice ?_ | refine o_store ?_ | refine o_build ?_
        exact ct_ret ⟨.inr rfl, oOwn (congrArg (List.map encS) hv)⟩
      · have h2' : y.hi ≠ [] := by simpa using h2
        rw [if_neg h2'] at hv
        repeat first | refine o_copy ?_ | refine nl ?_ | refine ct_seq ?_ | refine rg ?_ | refine ct_block ?_ | refine bq ?_ | refine o_loads ?_ | refine o_loadp ?_ | refine o_faddr ?_ | refine o_iaddr ?_ | refine o_iaddrO ?_ | refine o_iaddrR ?_ | refine o_add ?_ | refine o_cat ?_ | refine o_bin ?_ | refine o_lenq ?_ | refine o_len ?_ | refine o_loadsA ?_ | refine o_loadpA ?_ | refine o_alloc ?_ | refine o_bslice ?_ | refine o_store ?_ | refine o_build ?_
        exact agn (i + 1, y.hi, out) ⟨by simp only; omega, by simp only; omega, hv⟩ goes
  · have hge : i = l.length := by have h' := of_decide_eq_false h; simp only [List.length_map] at h'; omega
    subst hge
    rw [List.drop_length, gapsF] at hv
    repeat first | refine o_copy ?_ | refine nl ?_ | refine ct_seq ?_ | refine rg ?_ | refine ct_block ?_ | refine bq ?_ | refine o_v (vap encS (⟨lo, []⟩ : SpanL)) ?_ | refine o_loads ?_ | refine o_loadp ?_ | refine o_faddr ?_ | refine o_iaddr ?_ | refine o_iaddrO ?_ | refine o_iaddrR ?_ | refine o_add ?_ | refine o_cat ?_ | refine o_bin ?_ | refine o_lenq ?_ | refine o_len ?_ | refine o_loadsA ?_ | refine o_loadpA ?_ | refine o_alloc ?_ | refine o_bslice ?_ | refine o_store ?_ | refine o_build ?_
    exact ct_ret ⟨.inr rfl, oOwn (congrArg (List.map encS) hv)⟩
set_option maxHeartbeats 1000000 in
theorem minus_vc {q p : PV} {l m : List SpanL} (hq : Sl q (l.map encS)) (hp : Sl p (m.map encS)) (hl : l.length ≤ 200) (hm : m.length ≤ 200) : VC Try.prog 34 [q, p] [] (ownV ⟨0, 0⟩ ((minusL l m).map encS)) [blkV 2 ((minusL l m).map encS)] := by
  refine vc_of vf34 ?_ (Nat.le_of_ble_eq_true rfl) (by intro vs h; cases h)
  have hrl : (minusRaw l m).length ≤ 60000 := Nat.le_trans (minusRaw_len l m) (Nat.le_trans (Nat.mul_le_mul hl (Nat.succ_le_succ hm)) (by decide))
  have hgl := gapsF_len (rnormL m) [] []
  have hnl := rnorm_len m
  have h1 := norm_vc (q := p) (xs := m) hp (by omega)
  have h2 := gaps_vc (q := .sh false ((rnormL m).map encS)) (l := rnormL m) Sl.sh (by omega)
  have hraw : minusRaw l m = (gapsF [] (rnormL m) []).flatMap (fun g => l.map (meetL g)) := rfl
  have hfin : minusL l m = rnormL (minusRaw l m) := rfl
  rw [hfin]
  generalize minusRaw l m = raw at hrl hraw ⊢
  generalize gapsF [] (rnormL m) [] = gs at *
  generalize rnormL m = nm at *
  simp only [List.length_nil] at hgl
  repeat first | refine o_copy ?_ | refine nl ?_ | refine ct_seq ?_ | refine rg ?_ | refine ct_block ?_ | refine bq ?_ | refine cv h1 ?_ | refine cv h2 ?_ | refine o_iaddr ?_ | refine o_iaddrO ?_ | refine o_iaddrR ?_ | refine o_add ?_ | refine o_cat ?_ | refine o_bin ?_ | refine o_lenq ?_ | refine o_len ?_ | refine o_loadsA ?_ | refine o_loadpA ?_ | refine o_alloc ?_ | refine o_bslice ?_ | refine o_store ?_
  refine ct_loopG (fun (g : Nat × List SpanL) => [(0, q), (5, ownV ⟨1, 65576⟩ (g.2.map encS)), (12, ownV ⟨1, 16400⟩ (gs.map encS)), (13, .int .i64 (gs.map encS).length), (14, .int .i64 g.1)])
    (fun g => [(⟨1, 16400⟩, blkV 2 (gs.map encS)), (⟨1, 65576⟩, blkV 2 (g.2.map encS))]) (fun g => gs.length - g.1)
    (fun g => g.1 ≤ gs.length ∧ g.2 ++ (gs.drop g.1).flatMap (fun g => l.map (meetL g)) = raw) (0, []) ((Imp.nil (t := 5) (b := ⟨1, 65576⟩) (esz := 2) rfl rfl (by decide)).trans goes) ⟨Nat.zero_le _, hraw.symm⟩ ?_
  rintro ⟨i, out⟩ ⟨hi, hv⟩
  dsimp only at hi hv ⊢
  repeat first | refine o_copy ?_ | refine nl ?_ | refine ct_seq ?_ | refine rg ?_ | refine ct_block ?_ | refine bq ?_ | refine o_iaddr ?_ | refine o_iaddrO ?_ | refine o_iaddrR ?_ | refine o_add ?_ | refine o_cat ?_ | refine o_bin ?_ | refine o_lenq ?_ | refine o_len ?_ | refine o_loadsA ?_ | refine o_loadpA ?_ | refine o_alloc ?_ | refine o_bslice ?_ | refine o_store ?_
  refine cnd (fun h => ct_skip ?_) (fun h => ct_exit ?_)
  · have hlt : i < gs.length := by have h' := of_decide_eq_true h; simp only [List.length_map] at h'; omega
    obtain ⟨g, hg⟩ : ∃ x, gs[i]? = some x := ⟨_, List.getElem?_eq_getElem hlt⟩
    have hge := gm (enc := encS) (n := (i : Int)) hg (by omega)
    have hge2 : (blkV 2 (gs.map encS)).els[0 + (i : Int).toNat]? = some (encS g) := by rw [Nat.zero_add]; exact hge
    rw [drop_get hg, List.flatMap_cons, ← List.append_assoc] at hv
    repeat first | refine o_copy ?_ | refine nl ?_ | refine ct_seq ?_ | refine rg ?_ | refine ct_block ?_ | refine bq ?_ | refine o_iaddr ?_ | refine o_iaddrO ?_ | refine o_iaddrR ?_ | refine o_add ?_ | refine o_cat ?_ | refine o_bin ?_ | refine o_lenq ?_ | refine o_len ?_ | refine o_loadsA ?_ | refine o_loadpA ?_ | refine o_alloc ?_ | refine o_bslice ?_ | refine o_store ?_
    refine ct_loopG (fun (h : Nat × List SpanL) => [(0, q), (5, ownV ⟨1, 65576⟩ (h.2.map encS)), (7, .ptr ⟨1, 32784⟩ 1 0 0), (12, ownV ⟨1, 16400⟩ (gs.map encS)), (13, .int .i64 (gs.map encS).length), (14, .int .i64 i), (18, q), (19, .int .i64 (l.map encS).length), (20, .int .i64 h.1)])
      (fun h => [(⟨1, 16400⟩, blkV 2 (gs.map encS)), (⟨1, 65576⟩, blkV 2 (h.2.map encS)), (⟨1, 32784⟩, ⟨true, false, 2, [encS g]⟩)]) (fun h => l.length - h.1)
      (fun h => h.1 ≤ l.length ∧ h.2 ++ (l.drop h.1).map (meetL g) = out ++ l.map (meetL g)) (0, out) goes ⟨Nat.zero_le _, rfl⟩ ?_
    rintro ⟨j, o⟩ ⟨hj, hw⟩
    dsimp only at hj hw ⊢
    have hol : o.length ≤ 60000 := by
      have h3 := congrArg List.length hw
      have h4 := congrArg List.length hv
      simp only [List.length_append] at h3 h4
      omega
    repeat first | refine o_copy ?_ | refine nl ?_ | refine ct_seq ?_ | refine rg ?_ | refine ct_block ?_ | refine bq ?_ | refine o_iaddr ?_ | refine o_iaddrO ?_ | refine o_iaddrR ?_ | refine o_add ?_ | refine o_cat ?_ | refine o_bin ?_ | refine o_lenq ?_ | refine o_len ?_ | refine o_loadsA ?_ | refine o_loadpA ?_ | refine o_alloc ?_ | refine o_bslice ?_ | refine o_store ?_
    refine cnd (fun h => ct_skip ?_) (fun h => ct_exit ?_)
    · have hlt2 : j < l.length := by have h' := of_decide_eq_true h; simp only [List.length_map] at h'; omega
      obtain ⟨s, hs⟩ : ∃ x, l[j]? = some x := ⟨_, List.getElem?_eq_getElem hlt2⟩
      have hse := gm (enc := encS) (n := (j : Int)) hs (by omega)
      rw [drop_get hs, List.map_cons] at hw
      repeat first | refine o_copy ?_ | refine nl ?_ | refine ct_seq ?_ | refine rg ?_ | refine ct_block ?_ | refine bq ?_ | refine cv0 (meet_vc g s) ?_ | refine o_v (vap encS (meetL g s)) ?_ | refine o_iaddr ?_ | refine o_iaddrO ?_ | refine o_iaddrR ?_ | refine o_add ?_ | refine o_cat ?_ | refine o_bin ?_ | refine o_lenq ?_ | refine o_len ?_ | refine o_loadsA ?_ | refine o_loadpA ?_ | refine o_alloc ?_ | refine o_bslice ?_ | refine o_store ?_
      refine agn (j + 1, o ++ [meetL g s]) ⟨by simp only; omega, ?_⟩ goes
      rw [← hw]; simp
    · have hge3 : j = l.length := by have h' := of_decide_eq_false h; simp only [List.length_map] at h'; omega
      subst hge3
      rw [List.drop_length, List.map_nil, List.append_nil] at hw
      rw [← hw] at hv
      repeat first | refine o_copy ?_ | refine nl ?_ | refine ct_seq ?_ | refine rg ?_ | refine ct_block ?_ | refine bq ?_ | refine o_iaddr ?_ | refine o_iaddrO ?_ | refine o_iaddrR ?_ | refine o_add ?_ | refine o_cat ?_ | refine o_bin ?_ | refine o_lenq ?_ | refine o_len ?_ | refine o_loadsA ?_ | refine o_loadpA ?_ | refine o_alloc ?_ | refine o_bslice ?_ | refine o_store ?_
      exact agn (i + 1, o) ⟨by simp only; omega, hv⟩ goes
  · have hge : i = gs.length := by have h' := of_decide_eq_false h; simp only [List.length_map] at h'; omega
    subst hge
    rw [List.drop_length, List.flatMap_nil, List.append_nil] at hv
    subst hv
    repeat first | refine o_copy ?_ | refine nl ?_ | refine ct_seq ?_ | refine rg ?_ | refine ct_block ?_ | refine bq ?_ | refine cv (norm_vc (q := .sh false (out.map encS)) (xs := out) Sl.sh hrl) ?_ | refine o_iaddr ?_ | refine o_iaddrO ?_ | refine o_iaddrR ?_ | refine o_add ?_ | refine o_cat ?_ | refine o_bin ?_ | refine o_lenq ?_ | refine o_len ?_ | refine o_loadsA ?_ | refine o_loadpA ?_ | refine o_alloc ?_ | refine o_bslice ?_ | refine o_store ?_
    exact ct_ret ⟨.inr rfl, oOwn rfl⟩
set_option maxHeartbeats 1000000 in
theorem rminus_vc {q p : PV} {l m : List SpanL} (hq : Sl q (l.map encS)) (hp : Sl p (m.map encS)) (hl : l.length ≤ 16) (hm : m.length ≤ 8) : VC Try.prog 35 [q, p] [] (ownV ⟨0, 0⟩ ((rminusL l m).map encS)) [blkV 2 ((rminusL l m).map encS)] := by
  refine vc_of vf35 ?_ (Nat.le_of_ble_eq_true rfl) (by intro vs h; cases h)
  have hnl := rnorm_len l
  have h1 := rnorm_vc (q := q) (l := l) hq (by omega)
  have hmm : ∀ a b, VC Try.prog 26 [.agg (encS a), .agg (encS b)] [] (.agg (encS (meetL a b))) [] := fun a b => by rw [meet_ref]; exact rmeet_vc a b
  have hfin : rminusL l m = m.foldl cutsL (rnormL l) := rfl
  generalize rminusL l m = res at hfin ⊢
  generalize rnormL l = nm at *
  repeat first | refine o_copy ?_ | refine nl ?_ | refine ct_seq ?_ | refine rg ?_ | refine ct_block ?_ | refine bq ?_ | refine cv h1 ?_ | refine o_loads ?_ | refine o_loadp ?_ | refine o_faddr ?_ | refine o_iaddr ?_ | refine o_iaddrO ?_ | refine o_iaddrR ?_ | refine o_add ?_ | refine o_cat ?_ | refine o_bin ?_ | refine o_lenq ?_ | refine o_len ?_ | refine o_loadsA ?_ | refine o_loadpA ?_ | refine o_bslice ?_ | refine o_build ?_
  refine ct_loopG (fun (g : Nat × List SpanL) => [(1, p), (5, ownV ⟨1, 8200⟩ (g.2.map encS)), (6, .int .i64 g.1)])
    (fun g => [(⟨1, 8200⟩, blkV 2 (g.2.map encS))]) (fun g => m.length - g.1)
    (fun g => g.1 ≤ m.length ∧ g.2.length ≤ 16 * 2 ^ g.1 ∧ (m.drop g.1).foldl cutsL g.2 = res) (0, nm) goes ⟨Nat.zero_le _, by simp only [Nat.pow_zero]; omega, hfin.symm⟩ ?_
  rintro ⟨k, left⟩ ⟨hk, hll, hv⟩
  dsimp only at hk hll hv ⊢
  have hp2 : 2 ^ k ≤ 2 ^ 8 := Nat.pow_le_pow_right (by decide) (by omega)
  have hps : 2 ^ (k + 1) = 2 ^ k * 2 := Nat.pow_succ ..
  simp only [show 2 ^ 8 = 256 from rfl] at hp2
  have hleft : left.length ≤ 4096 := by omega
  repeat first | refine o_copy ?_ | refine nl ?_ | refine ct_seq ?_ | refine rg ?_ | refine ct_block ?_ | refine bq ?_ | refine o_loads ?_ | refine o_loadp ?_ | refine o_faddr ?_ | refine o_iaddr ?_ | refine o_iaddrO ?_ | refine o_iaddrR ?_ | refine o_add ?_ | refine o_cat ?_ | refine o_bin ?_ | refine o_lenq ?_ | refine o_len ?_ | refine o_loadsA ?_ | refine o_loadpA ?_ | refine o_bslice ?_ | refine o_build ?_
  refine cnd (fun h => ct_skip ?_) (fun h => ct_exit ?_)
  · have hlt : k < m.length := by have h' := of_decide_eq_true h; simp only [List.length_map] at h'; omega
    obtain ⟨c, hc⟩ : ∃ x, m[k]? = some x := ⟨_, List.getElem?_eq_getElem hlt⟩
    have hce := gm (enc := encS) (n := (k : Int)) hc (by omega)
    rw [drop_get hc, List.foldl_cons] at hv
    have hcl := cuts_len left c
    repeat first | refine o_copy ?_ | refine nl ?_ | refine ct_seq ?_ | refine rg ?_ | refine ct_block ?_ | refine bq ?_ | refine cv0 (rempty_vc c) ?_ | refine o_loads ?_ | refine o_loadp ?_ | refine o_faddr ?_ | refine o_iaddr ?_ | refine o_iaddrO ?_ | refine o_iaddrR ?_ | refine o_add ?_ | refine o_cat ?_ | refine o_bin ?_ | refine o_lenq ?_ | refine o_len ?_ | refine o_loadsA ?_ | refine o_loadpA ?_ | refine o_bslice ?_ | refine o_build ?_
    refine cnd (fun he => ?_) (fun he => ct_skip ?_)
    · have hcu : cutsL left c = left := by unfold cutsL; rw [if_pos he]
      rw [hcu] at hv
      refine ct_exit ?_
      repeat first | refine o_copy ?_ | refine nl ?_ | refine ct_seq ?_ | refine rg ?_ | refine ct_block ?_ | refine bq ?_ | refine o_loads ?_ | refine o_loadp ?_ | refine o_faddr ?_ | refine o_iaddr ?_ | refine o_iaddrO ?_ | refine o_iaddrR ?_ | refine o_add ?_ | refine o_cat ?_ | refine o_bin ?_ | refine o_lenq ?_ | refine o_len ?_ | refine o_loadsA ?_ | refine o_loadpA ?_ | refine o_bslice ?_ | refine o_build ?_
      exact agn (k + 1, left) ⟨by simp only; omega, by simp only; omega, hv⟩ goes
    · have hcu : cutsL left c = rnormL (left.flatMap (fun s => cutL s c)) := by unfold cutsL; rw [if_neg (by simp [he])]
      rw [hcu] at hv hcl
      have hfl := flat_len (fun s => cutL s c) 2 left (fun s _ => cutL_len s c)
      generalize hfr : left.flatMap (fun s => cutL s c) = fl at hv hcl hfl
      repeat first | refine o_copy ?_ | refine nl ?_ | refine ct_seq ?_ | refine rg ?_ | refine ct_block ?_ | refine bq ?_ | refine o_loads ?_ | refine o_loadp ?_ | refine o_faddr ?_ | refine o_iaddr ?_ | refine o_iaddrO ?_ | refine o_iaddrR ?_ | refine o_add ?_ | refine o_cat ?_ | refine o_bin ?_ | refine o_lenq ?_ | refine o_len ?_ | refine o_loadsA ?_ | refine o_loadpA ?_ | refine o_bslice ?_ | refine o_build ?_
      refine ct_loopG (fun (h : Nat × List SpanL) => [(1, p), (5, ownV ⟨1, 8200⟩ (left.map encS)), (6, .int .i64 k), (7, ownV ⟨1, 49152⟩ (h.2.map encS)), (8, .int .i64 h.1)])
        (fun h => [(⟨1, 8200⟩, blkV 2 (left.map encS)), (⟨1, 49152⟩, blkV 2 (h.2.map encS))]) (fun h => left.length - h.1)
        (fun h => h.1 ≤ left.length ∧ h.2 ++ (left.drop h.1).flatMap (fun s => cutL s c) = fl) (0, []) goes ⟨Nat.zero_le _, hfr⟩ ?_
      rintro ⟨j, o⟩ ⟨hj, hw⟩
      dsimp only at hj hw ⊢
      have hol : o.length ≤ 10000 := by
        have h3 := congrArg List.length hw
        simp only [List.length_append] at h3
        omega
      repeat first | refine o_copy ?_ | refine nl ?_ | refine ct_seq ?_ | refine rg ?_ | refine ct_block ?_ | refine bq ?_ | refine o_loads ?_ | refine o_loadp ?_ | refine o_faddr ?_ | refine o_iaddr ?_ | refine o_iaddrO ?_ | refine o_iaddrR ?_ | refine o_add ?_ | refine o_cat ?_ | refine o_bin ?_ | refine o_lenq ?_ | refine o_len ?_ | refine o_loadsA ?_ | refine o_loadpA ?_ | refine o_bslice ?_ | refine o_build ?_
      refine cnd (fun h => ct_skip ?_) (fun h => ct_exit ?_)
      · have hlt2 : j < left.length := by have h' := of_decide_eq_true h; simp only [List.length_map] at h'; omega
        obtain ⟨s, hs⟩ : ∃ x, left[j]? = some x := ⟨_, List.getElem?_eq_getElem hlt2⟩
        have hse := gm (enc := encS) (n := (j : Int)) hs (by omega)
        have hse2 : (blkV 2 (left.map encS)).els[0 + (j : Int).toNat]? = some (encS s) := by rw [Nat.zero_add]; exact hse
        rw [drop_get hs, List.flatMap_cons, cutL] at hw
        repeat first | refine o_copy ?_ | refine nl ?_ | refine ct_seq ?_ | refine rg ?_ | refine ct_block ?_ | refine bq ?_ | refine o_loads ?_ | refine o_loadp ?_ | refine o_faddr ?_ | refine o_iaddr ?_ | refine o_iaddrO ?_ | refine o_iaddrR ?_ | refine o_add ?_ | refine o_cat ?_ | refine o_bin ?_ | refine o_lenq ?_ | refine o_len ?_ | refine o_loadsA ?_ | refine o_loadpA ?_ | refine o_bslice ?_ | refine o_build ?_
        refine cnd (fun h1 => ?_) (fun h1 => ct_skip ?_)
        · have h1' : c.lo ≠ [] := by simpa using h1
          rw [if_neg h1'] at hw
          repeat first | refine o_copy ?_ | refine nl ?_ | refine ct_seq ?_ | refine rg ?_ | refine ct_block ?_ | refine bq ?_ | refine cv0 (hmm s ⟨[], c.lo⟩) ?_ | refine o_v (vap encS (meetL s ⟨[], c.lo⟩)) ?_ | refine o_loads ?_ | refine o_loadp ?_ | refine o_faddr ?_ | refine o_iaddr ?_ | refine o_iaddrO ?_ | refine o_iaddrR ?_ | refine o_add ?_ | refine o_cat ?_ | refine o_bin ?_ | refine o_lenq ?_ | refine o_len ?_ | refine o_loadsA ?_ | refine o_loadpA ?_ | refine o_bslice ?_ | refine o_build ?_
          refine cnd (fun h2 => ?_) (fun h2 => ct_skip ?_)
          · have h2' : c.hi ≠ [] := by simpa using h2
            rw [if_neg h2'] at hw
            repeat first | refine o_copy ?_ | refine nl ?_ | refine ct_seq ?_ | refine rg ?_ | refine ct_block ?_ | refine bq ?_ | refine cv0 (hmm s ⟨c.hi, []⟩) ?_ | refine o_v (vap encS (meetL s ⟨c.hi, []⟩)) ?_ | refine o_loads ?_ | refine o_loadp ?_ | refine o_faddr ?_ | refine o_iaddr ?_ | refine o_iaddrO ?_ | refine o_iaddrR ?_ | refine o_add ?_ | refine o_cat ?_ | refine o_bin ?_ | refine o_lenq ?_ | refine o_len ?_ | refine o_loadsA ?_ | refine o_loadpA ?_ | refine o_bslice ?_ | refine o_build ?_
            refine agn (j + 1, o ++ [meetL s ⟨[], c.lo⟩] ++ [meetL s ⟨c.hi, []⟩]) ⟨by simp only; omega, ?_⟩ goes
            rw [← hw]; simp
          · have h2' : c.hi = [] := by simpa using h2
            rw [if_pos h2'] at hw
            repeat first | refine o_copy ?_ | refine nl ?_ | refine ct_seq ?_ | refine rg ?_ | refine ct_block ?_ | refine bq ?_ | refine o_loads ?_ | refine o_loadp ?_ | refine o_faddr ?_ | refine o_iaddr ?_ | refine o_iaddrO ?_ | refine o_iaddrR ?_ | refine o_add ?_ | refine o_cat ?_ | refine o_bin ?_ | refine o_lenq ?_ | refine o_len ?_ | refine o_loadsA ?_ | refine o_loadpA ?_ | refine o_bslice ?_ | refine o_build ?_
            refine agn (j + 1, o ++ [meetL s ⟨[], c.lo⟩]) ⟨by simp only; omega, ?_⟩ goes
            rw [← hw]; simp
        · have h1' : c.lo = [] := by simpa using h1
          rw [if_pos h1'] at hw
          repeat first | refine o_copy ?_ | refine nl ?_ | refine ct_seq ?_ | refine rg ?_ | refine ct_block ?_ | refine bq ?_ | refine o_loads ?_ | refine o_loadp ?_ | refine o_faddr ?_ | refine o_iaddr ?_ | refine o_iaddrO ?_ | refine o_iaddrR ?_ | refine o_add ?_ | refine o_cat ?_ | refine o_bin ?_ | refine o_lenq ?_ | refine o_len ?_ | refine o_loadsA ?_ | refine o_loadpA ?_ | refine o_bslice ?_ | refine o_build ?_
          refine cnd (fun h2 => ?_) (fun h2 => ct_skip ?_)
          · have h2' : c.hi ≠ [] := by simpa using h2
            rw [if_neg h2'] at hw
            repeat first | refine o_copy ?_ | refine nl ?_ | refine ct_seq ?_ | refine rg ?_ | refine ct_block ?_ | refine bq ?_ | refine cv0 (hmm s ⟨c.hi, []⟩) ?_ | refine o_v (vap encS (meetL s ⟨c.hi, []⟩)) ?_ | refine o_loads ?_ | refine o_loadp ?_ | refine o_faddr ?_ | refine o_iaddr ?_ | refine o_iaddrO ?_ | refine o_iaddrR ?_ | refine o_add ?_ | refine o_cat ?_ | refine o_bin ?_ | refine o_lenq ?_ | refine o_len ?_ | refine o_loadsA ?_ | refine o_loadpA ?_ | refine o_bslice ?_ | refine o_build ?_
            refine agn (j + 1, o ++ [meetL s ⟨c.hi, []⟩]) ⟨by simp only; omega, ?_⟩ goes
            rw [← hw]; simp
          · have h2' : c.hi = [] := by simpa using h2
            rw [if_pos h2'] at hw
            repeat first | refine o_copy ?_ | refine nl ?_ | refine ct_seq ?_ | refine rg ?_ | refine ct_block ?_ | refine bq ?_ | refine o_loads ?_ | refine o_loadp ?_ | refine o_faddr ?_ | refine o_iaddr ?_ | refine o_iaddrO ?_ | refine o_iaddrR ?_ | refine o_add ?_ | refine o_cat ?_ | refine o_bin ?_ | refine o_lenq ?_ | refine o_len ?_ | refine o_loadsA ?_ | refine o_loadpA ?_ | refine o_bslice ?_ | refine o_build ?_
            refine agn (j + 1, o) ⟨by simp only; omega, ?_⟩ goes
            rw [← hw]; simp
      · have hge3 : j = left.length := by have h' := of_decide_eq_false h; simp only [List.length_map] at h'; omega
        subst hge3
        rw [List.drop_length, List.flatMap_nil, List.append_nil] at hw
        subst hw
        repeat first | refine o_copy ?_ | refine nl ?_ | refine ct_seq ?_ | refine rg ?_ | refine ct_block ?_ | refine bq ?_ | refine cv (rnorm_vc (q := .sh false (o.map encS)) (l := o) Sl.sh (by omega)) ?_ | refine o_loads ?_ | refine o_loadp ?_ | refine o_faddr ?_ | refine o_iaddr ?_ | refine o_iaddrO ?_ | refine o_iaddrR ?_ | refine o_add ?_ | refine o_cat ?_ | refine o_bin ?_ | refine o_lenq ?_ | refine o_len ?_ | refine o_loadsA ?_ | refine o_loadpA ?_ | refine o_bslice ?_ | refine o_build ?_
        exact agn (k + 1, rnormL o) ⟨by simp only; omega, by simp only; omega, hv⟩ (goesR ⟨1, 114696⟩ ⟨1, 8200⟩)
  · have hge : k = m.length := by have h' := of_decide_eq_false h; simp only [List.length_map] at h'; omega
    subst hge
    rw [List.drop_length, List.foldl_nil] at hv
    repeat first | refine o_copy ?_ | refine nl ?_ | refine ct_seq ?_ | refine rg ?_ | refine ct_block ?_ | refine bq ?_ | refine o_loads ?_ | refine o_loadp ?_ | refine o_faddr ?_ | refine o_iaddr ?_ | refine o_iaddrO ?_ | refine o_iaddrR ?_ | refine o_add ?_ | refine o_cat ?_ | refine o_bin ?_ | refine o_lenq ?_ | refine o_len ?_ | refine o_loadsA ?_ | refine o_loadpA ?_ | refine o_bslice ?_ | refine o_build ?_
    exact ct_ret ⟨.inr rfl, oOwn (congrArg (List.map encS) hv)⟩
end Go.Proofs
