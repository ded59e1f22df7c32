/- Se -/
import Derived.Test.YtloajdobgadplaaSd
import Derived.Test.YtloajdobgadplaaPu
open Go.V Go.Pu
set_option linter.unusedVariables false
set_option linter.unusedSimpArgs false
set_option maxRecDepth 20000
namespace Go.Proofs
/-- downspout/span.Norm$1 -/
def vc47 : VCode :=
 (.seq
 (.region 0 false [
 ⟨(some 2), .box (.t 0), none, 0, []⟩,
 ⟨(some 3), .box (.t 1), none, 8, []⟩,
 ⟨(some 4), .copy (.c (.int .i64 0)), none, 16, []⟩])
 (.seq
 (.region 1 false [
 ⟨(some 5), .faddr 0 (.t 2), none, 8192, []⟩,
 ⟨(some 6), .load false 1 (.t 5), none, 8200, [0]⟩,
 ⟨(some 7), .faddr 0 (.t 3), none, 8208, []⟩,
 ⟨(some 8), .load false 1 (.t 7), none, 8216, [2]⟩,
 ⟨(some 9), .call (.c (.fn 48 [])) [(.t 6), (.t 8)], none, 8224, [1, 0, 3, 2]⟩,
 ⟨(some 4), .copy (.t 9), none, 8232, [4, 1, 0, 3, 2]⟩])
 .ret))
theorem vf47 : VF Try.prog 47 = some (10, vc47, [.tmp 4]) := by kernel_rfl
/-- slices.insertionSortCmpFunc[downspout/api.Span] -/
def vc60 : VCode :=
 (.seq
 (.region 0 false [
 ⟨(some 10), .copy (.t 1), none, 0, []⟩,
 ⟨(some 11), .bin .add (.t 10) (.c (.int .i64 1)), none, 8, [0]⟩,
 ⟨(some 8), .copy (.t 11), none, 16, [1, 0]⟩])
 (.block 0
 (.loop
 (.seq
 (.seq
 (.region 1 false [
 ⟨(some 12), .copy (.t 8), none, 8192, []⟩,
 ⟨(some 13), .copy (.t 2), none, 8200, []⟩,
 ⟨(some 14), .bin .lss (.t 12) (.t 13), none, 8208, [0, 1]⟩])
 (.cond (.t 14)
 .skip
 (.exit 0)))
 (.seq
 (.block 1
 (.seq
 (.region 3 false [
 ⟨(some 17), .copy (.t 8), none, 24576, []⟩,
 ⟨(some 9), .copy (.t 17), none, 24584, [0]⟩])
 (.block 2
 (.loop
 (.seq
 (.seq
 (.region 4 true [
 ⟨(some 18), .copy (.t 9), none, 32768, []⟩,
 ⟨(some 19), .copy (.t 1), none, 32776, []⟩,
 ⟨(some 20), .bin .gtr (.t 18) (.t 19), none, 32784, [0, 1]⟩,
 ⟨(some 21), .copy (.t 20), none, 32792, [2, 0, 1]⟩,
 ⟨(some 22), .copy (.t 3), (some (3, 21, true)), 32800, [3, 2, 0, 1]⟩,
 ⟨(some 23), .copy (.t 0), (some (3, 21, true)), 32808, [3, 2, 0, 1]⟩,
 ⟨(some 24), .copy (.t 9), (some (3, 21, true)), 32816, [3, 2, 0, 1]⟩,
 ⟨(some 25), .iaddr 2 (.t 23) (.t 24), (some (3, 21, true)), 32824, [5, 3, 2, 0, 1, 6]⟩,
 ⟨(some 26), .load true 2 (.t 25), (some (3, 21, true)), 32832, [7, 5, 3, 2, 0, 1, 6]⟩,
 ⟨(some 27), .copy (.t 0), (some (3, 21, true)), 32840, [3, 2, 0, 1]⟩,
 ⟨(some 28), .copy (.t 9), (some (3, 21, true)), 32848, [3, 2, 0, 1]⟩,
 ⟨(some 29), .bin .sub (.t 28) (.c (.int .i64 1)), (some (3, 21, true)), 32856, [10, 3, 2, 0, 1]⟩,
 ⟨(some 30), .iaddr 2 (.t 27) (.t 29), (some (3, 21, true)), 32864, [9, 3, 2, 0, 1, 11, 10]⟩,
 ⟨(some 31), .load true 2 (.t 30), (some (3, 21, true)), 32872, [12, 9, 3, 2, 0, 1, 11, 10]⟩,
 ⟨(some 32), .call (.t 22) [(.t 26), (.t 31)], (some (3, 21, true)), 32880, [4, 3, 2, 0, 1, 8, 7, 5, 6, 13, 12, 9, 11, 10]⟩,
 ⟨(some 33), .bin .lss (.t 32) (.c (.int .i64 0)), (some (3, 21, true)), 32888, [14, 4, 3, 2, 0, 1, 8, 7, 5, 6, 13, 12, 9, 11, 10]⟩,
 ⟨(some 34), .pick (.t 21) (.t 33) (.c (.bool false)), none, 32896, [3, 2, 0, 1, 15, 14, 4, 8, 7, 5, 6, 13, 12, 9, 11, 10]⟩])
 (.cond (.t 34)
 .skip
 (.exit 2)))
 (.seq
 (.block 3
 (.region 6 true [
 ⟨(some 37), .copy (.t 0), none, 49152, []⟩,
 ⟨(some 38), .copy (.t 9), none, 49160, []⟩,
 ⟨(some 39), .copy (.t 0), none, 49168, []⟩,
 ⟨(some 40), .copy (.t 9), none, 49176, []⟩,
 ⟨(some 41), .bin .sub (.t 40) (.c (.int .i64 1)), none, 49184, [3]⟩,
 ⟨(some 42), .copy (.t 0), none, 49192, []⟩,
 ⟨(some 43), .copy (.t 9), none, 49200, []⟩,
 ⟨(some 44), .bin .sub (.t 43) (.c (.int .i64 1)), none, 49208, [6]⟩,
 ⟨(some 45), .iaddr 2 (.t 42) (.t 44), none, 49216, [5, 7, 6]⟩,
 ⟨(some 46), .load true 2 (.t 45), none, 49224, [8, 5, 7, 6]⟩,
 ⟨(some 47), .copy (.t 0), none, 49232, []⟩,
 ⟨(some 48), .copy (.t 9), none, 49240, []⟩,
 ⟨(some 49), .iaddr 2 (.t 47) (.t 48), none, 49248, [10, 11]⟩,
 ⟨(some 50), .load true 2 (.t 49), none, 49256, [12, 10, 11]⟩,
 ⟨(some 51), .iaddr 2 (.t 37) (.t 38), none, 49264, [0, 1, 5, 6, 7, 8, 9, 13, 12, 10, 11]⟩,
 ⟨none, .store 2 (.t 51) (.t 46), none, 49272, [14, 0, 1, 5, 6, 7, 8, 9, 13, 12, 10, 11]⟩,
 ⟨(some 52), .iaddr 2 (.t 39) (.t 41), none, 49280, [2, 4, 3, 0, 1, 5, 6, 7, 8, 9, 10, 11, 12, 13, 14, 15]⟩,
 ⟨none, .store 2 (.t 52) (.t 50), none, 49288, [16, 2, 4, 3, 0, 1, 5, 6, 7, 8, 9, 10, 11, 12, 13, 14, 15]⟩]))
 (.region 5 false [
 ⟨(some 35), .copy (.t 9), none, 40960, []⟩,
 ⟨(some 36), .bin .sub (.t 35) (.c (.int .i64 1)), none, 40968, [0]⟩,
 ⟨(some 9), .copy (.t 36), none, 40976, [1, 0]⟩])))))))
 (.region 2 false [
 ⟨(some 15), .copy (.t 8), none, 16384, []⟩,
 ⟨(some 16), .bin .add (.t 15) (.c (.int .i64 1)), none, 16392, [0]⟩,
 ⟨(some 8), .copy (.t 16), none, 16400, [1, 0]⟩]))))))
theorem vf60 : VF Try.prog 60 = some (53, vc60, []) := by kernel_rfl
/-- slices.siftDownCmpFunc[downspout/api.Span] -/
def vc70 : VCode :=
 (.seq
 (.region 0 false [
 ⟨(some 12), .copy (.t 1), none, 0, []⟩,
 ⟨(some 10), .copy (.t 12), none, 8, [0]⟩])
 (.block 0
 (.loop
 (.block 1
 (.seq
 (.region 1 false [
 ⟨(some 13), .copy (.t 10), none, 8192, []⟩,
 ⟨(some 14), .bin .mul (.c (.int .i64 2)) (.t 13), none, 8200, [0]⟩,
 ⟨(some 15), .bin .add (.t 14) (.c (.int .i64 1)), none, 8208, [1, 0]⟩,
 ⟨(some 11), .copy (.t 15), none, 8216, [2, 1, 0]⟩])
 (.seq
 (.seq
 (.region 2 false [
 ⟨(some 16), .copy (.t 11), none, 16384, []⟩,
 ⟨(some 17), .copy (.t 2), none, 16392, []⟩,
 ⟨(some 18), .bin .geq (.t 16) (.t 17), none, 16400, [0, 1]⟩])
 (.cond (.t 18)
 (.exit 0)
 .skip))
 (.seq
 (.seq
 (.region 3 true [
 ⟨(some 19), .copy (.t 11), none, 24576, []⟩,
 ⟨(some 20), .bin .add (.t 19) (.c (.int .i64 1)), none, 24584, [0]⟩,
 ⟨(some 21), .copy (.t 2), none, 24592, []⟩,
 ⟨(some 22), .bin .lss (.t 20) (.t 21), none, 24600, [1, 0, 2]⟩,
 ⟨(some 23), .copy (.t 22), none, 24608, [3, 1, 0, 2]⟩,
 ⟨(some 24), .copy (.t 4), (some (4, 23, true)), 24616, [4, 3, 1, 0, 2]⟩,
 ⟨(some 25), .copy (.t 0), (some (4, 23, true)), 24624, [4, 3, 1, 0, 2]⟩,
 ⟨(some 26), .copy (.t 3), (some (4, 23, true)), 24632, [4, 3, 1, 0, 2]⟩,
 ⟨(some 27), .copy (.t 11), (some (4, 23, true)), 24640, [4, 3, 1, 0, 2]⟩,
 ⟨(some 28), .bin .add (.t 26) (.t 27), (some (4, 23, true)), 24648, [7, 4, 3, 1, 0, 2, 8]⟩,
 ⟨(some 29), .iaddr 2 (.t 25) (.t 28), (some (4, 23, true)), 24656, [6, 4, 3, 1, 0, 2, 9, 7, 8]⟩,
 ⟨(some 30), .load true 2 (.t 29), (some (4, 23, true)), 24664, [10, 6, 4, 3, 1, 0, 2, 9, 7, 8]⟩,
 ⟨(some 31), .copy (.t 0), (some (4, 23, true)), 24672, [4, 3, 1, 0, 2]⟩,
 ⟨(some 32), .copy (.t 3), (some (4, 23, true)), 24680, [4, 3, 1, 0, 2]⟩,
 ⟨(some 33), .copy (.t 11), (some (4, 23, true)), 24688, [4, 3, 1, 0, 2]⟩,
 ⟨(some 34), .bin .add (.t 32) (.t 33), (some (4, 23, true)), 24696, [13, 4, 3, 1, 0, 2, 14]⟩,
 ⟨(some 35), .bin .add (.t 34) (.c (.int .i64 1)), (some (4, 23, true)), 24704, [15, 13, 4, 3, 1, 0, 2, 14]⟩,
 ⟨(some 36), .iaddr 2 (.t 31) (.t 35), (some (4, 23, true)), 24712, [12, 4, 3, 1, 0, 2, 16, 15, 13, 14]⟩,
 ⟨(some 37), .load true 2 (.t 36), (some (4, 23, true)), 24720, [17, 12, 4, 3, 1, 0, 2, 16, 15, 13, 14]⟩,
 ⟨(some 38), .call (.t 24) [(.t 30), (.t 37)], (some (4, 23, true)), 24728, [5, 4, 3, 1, 0, 2, 11, 10, 6, 9, 7, 8, 18, 17, 12, 16, 15, 13, 14]⟩,
 ⟨(some 39), .bin .lss (.t 38) (.c (.int .i64 0)), (some (4, 23, true)), 24736, [19, 5, 4, 3, 1, 0, 2, 11, 10, 6, 9, 7, 8, 18, 17, 12, 16, 15, 13, 14]⟩,
 ⟨(some 40), .pick (.t 23) (.t 39) (.c (.bool false)), none, 24744, [4, 3, 1, 0, 2, 20, 19, 5, 11, 10, 6, 9, 7, 8, 18, 17, 12, 16, 15, 13, 14]⟩])
 (.cond (.t 40)
 (.region 4 false [
 ⟨(some 41), .copy (.t 11), none, 32768, []⟩,
 ⟨(some 42), .bin .add (.t 41) (.c (.int .i64 1)), none, 32776, [0]⟩,
 ⟨(some 11), .copy (.t 42), none, 32784, [1, 0]⟩])
 .skip))
 (.seq
 (.seq
 (.region 5 true [
 ⟨(some 43), .copy (.t 4), none, 40960, []⟩,
 ⟨(some 44), .copy (.t 0), none, 40968, []⟩,
 ⟨(some 45), .copy (.t 3), none, 40976, []⟩,
 ⟨(some 46), .copy (.t 10), none, 40984, []⟩,
 ⟨(some 47), .bin .add (.t 45) (.t 46), none, 40992, [2, 3]⟩,
 ⟨(some 48), .iaddr 2 (.t 44) (.t 47), none, 41000, [1, 4, 2, 3]⟩,
 ⟨(some 49), .load true 2 (.t 48), none, 41008, [5, 1, 4, 2, 3]⟩,
 ⟨(some 50), .copy (.t 0), none, 41016, []⟩,
 ⟨(some 51), .copy (.t 3), none, 41024, []⟩,
 ⟨(some 52), .copy (.t 11), none, 41032, []⟩,
 ⟨(some 53), .bin .add (.t 51) (.t 52), none, 41040, [8, 9]⟩,
 ⟨(some 54), .iaddr 2 (.t 50) (.t 53), none, 41048, [7, 10, 8, 9]⟩,
 ⟨(some 55), .load true 2 (.t 54), none, 41056, [11, 7, 10, 8, 9]⟩,
 ⟨(some 56), .call (.t 43) [(.t 49), (.t 55)], none, 41064, [0, 6, 5, 1, 4, 2, 3, 12, 11, 7, 10, 8, 9]⟩,
 ⟨(some 57), .bin .lss (.t 56) (.c (.int .i64 0)), none, 41072, [13, 0, 6, 5, 1, 4, 2, 3, 12, 11, 7, 10, 8, 9]⟩,
 ⟨(some 58), .not (.t 57), none, 41080, [14, 13, 0, 6, 5, 1, 4, 2, 3, 12, 11, 7, 10, 8, 9]⟩])
 (.cond (.t 58)
 .ret
 .skip))
 (.seq
 (.region 6 true [
 ⟨(some 59), .copy (.t 0), none, 49152, []⟩,
 ⟨(some 60), .copy (.t 3), none, 49160, []⟩,
 ⟨(some 61), .copy (.t 10), none, 49168, []⟩,
 ⟨(some 62), .bin .add (.t 60) (.t 61), none, 49176, [1, 2]⟩,
 ⟨(some 63), .copy (.t 0), none, 49184, []⟩,
 ⟨(some 64), .copy (.t 3), none, 49192, []⟩,
 ⟨(some 65), .copy (.t 11), none, 49200, []⟩,
 ⟨(some 66), .bin .add (.t 64) (.t 65), none, 49208, [5, 6]⟩,
 ⟨(some 67), .copy (.t 0), none, 49216, []⟩,
 ⟨(some 68), .copy (.t 3), none, 49224, []⟩,
 ⟨(some 69), .copy (.t 11), none, 49232, []⟩,
 ⟨(some 70), .bin .add (.t 68) (.t 69), none, 49240, [9, 10]⟩,
 ⟨(some 71), .iaddr 2 (.t 67) (.t 70), none, 49248, [8, 11, 9, 10]⟩,
 ⟨(some 72), .load true 2 (.t 71), none, 49256, [12, 8, 11, 9, 10]⟩,
 ⟨(some 73), .copy (.t 0), none, 49264, []⟩,
 ⟨(some 74), .copy (.t 3), none, 49272, []⟩,
 ⟨(some 75), .copy (.t 10), none, 49280, []⟩,
 ⟨(some 76), .bin .add (.t 74) (.t 75), none, 49288, [15, 16]⟩,
 ⟨(some 77), .iaddr 2 (.t 73) (.t 76), none, 49296, [14, 17, 15, 16]⟩,
 ⟨(some 78), .load true 2 (.t 77), none, 49304, [18, 14, 17, 15, 16]⟩,
 ⟨(some 79), .iaddr 2 (.t 59) (.t 62), none, 49312, [0, 3, 1, 2, 8, 9, 10, 11, 12, 13, 19, 18, 14, 17, 15, 16]⟩,
 ⟨none, .store 2 (.t 79) (.t 72), none, 49320, [20, 0, 3, 1, 2, 8, 9, 10, 11, 12, 13, 19, 18, 14, 17, 15, 16]⟩,
 ⟨(some 80), .iaddr 2 (.t 63) (.t 66), none, 49328, [4, 7, 5, 6, 0, 1, 2, 3, 8, 9, 10, 11, 12, 13, 14, 15, 16, 17, 18, 19, 20, 21]⟩,
 ⟨none, .store 2 (.t 80) (.t 78), none, 49336, [22, 4, 7, 5, 6, 0, 1, 2, 3, 8, 9, 10, 11, 12, 13, 14, 15, 16, 17, 18, 19, 20, 21]⟩])
 (.region 7 false [
 ⟨(some 81), .copy (.t 11), none, 57344, []⟩,
 ⟨(some 10), .copy (.t 81), none, 57352, [0]⟩]))))))))))
theorem vf70 : VF Try.prog 70 = some (82, vc70, []) := by kernel_rfl
/-! The sort: insertion, heap -/
theorem cmpf_vc (a b : SpanL) : VC Try.prog 47 [.agg (encS a), .agg (encS b)] [] (.int .i64 (cmpStr a.lo b.lo)) [] := by
  refine vc_of vf47 ?_ (Nat.le_of_ble_eq_true rfl) (by intro vs h; cases h)
  repeat' first | refine o_copy ?_ | refine nl ?_ | refine ct_seq ?_ | refine rg ?_ | refine ct_block ?_ | refine bq ?_ | refine ct_skip ?_ | refine ct_exit ?_ | refine rt_next ?_ | refine cndt ?_ | refine cndf ?_ | refine cv0 (cmp_vc _ _) ?_ | refine o_copy ?_ | refine o_loads ?_ | refine o_loadp ?_ | refine o_faddr ?_ | refine o_box ?_ | refine ct_ret ⟨.inr rfl, ?_⟩ | refine cnd (fun _ => ?_) (fun _ => ?_) | (refine glook (fun _ => ?_) (fun _ => ?_) <;> first | refine cv0 (cmp_vc _ _) ?_ | refine o_copy ?_ | refine o_loads ?_ | refine o_loadp ?_ | refine o_faddr ?_ | refine o_box ?_)
  all_goals exact oI rfl
abbrev srt (ys : Array SpanL) : List Blk := [blkV 2 (ys.toList.map encS)]
theorem els_at {zs : List SpanL} {i : Nat} {x : SpanL} {k : Nat} (h : zs[i]? = some x) (hk : k = i) : (blkV 2 (zs.map encS)).els[k]? = some (encS x) := by
  show (zs.map encS)[k]? = _
  rw [hk, List.getElem?_map, h]; rfl
set_option maxHeartbeats 1000000 in
theorem ins_vc {N n : Nat} (xs : List SpanL) (a b : Nat) (hN : xs.length = N) (ha : a ≤ n) (hb : b ≤ n) (hn : n ≤ N) (hm : N ≤ 1000000000) :
    VC Try.prog 60 [.own ⟨0, 0⟩ N 0 n, .int .i64 a, .int .i64 b, .fn 47 []] [blkV 2 (xs.map encS)] (.tup []) (srt (Sort.insertionSort ltS xs.toArray a b)) := by
  refine vc_of vf60 ?_ (Nat.le_of_ble_eq_true rfl) (by intro vs h; cases h; simp)
  by_cases hab : a + 1 ≤ b
  case neg =>
    have hr : Sort.insertionSort ltS xs.toArray a b = xs.toArray := by unfold Sort.insertionSort; rw [Sort.insOuter, if_neg (by omega)]
    rw [hr]
    repeat first | refine o_copy ?_ | refine nl ?_ | refine ct_seq ?_ | refine rg ?_ | refine ct_block ?_ | refine bq ?_ | refine o_iaddr ?_ | refine o_iaddrO ?_ | refine o_iaddrR ?_ | refine o_add ?_ | refine o_sub ?_ | refine o_cat ?_ | refine o_bin ?_ | refine o_loadsA ?_ | refine o_loadpA ?_ | refine o_store ?_ | refine o_pickt ?_ | refine o_pickf ?_ | refine skF ?_ | refine skU ?_
    refine ct_unr 1 ?_
    repeat first | refine o_copy ?_ | refine nl ?_ | refine ct_seq ?_ | refine rg ?_ | refine ct_block ?_ | refine bq ?_ | refine o_iaddr ?_ | refine o_iaddrO ?_ | refine o_iaddrR ?_ | refine o_add ?_ | refine o_sub ?_ | refine o_cat ?_ | refine o_bin ?_ | refine o_loadsA ?_ | refine o_loadpA ?_ | refine o_store ?_ | refine o_pickt ?_ | refine o_pickf ?_ | refine skF ?_ | refine skU ?_
    refine cndf (ct_exit ?_) rfl (decide_eq_false (by omega))
    exact ⟨.inl rfl, oL1 rfl⟩
  repeat first | refine o_copy ?_ | refine nl ?_ | refine ct_seq ?_ | refine rg ?_ | refine ct_block ?_ | refine bq ?_ | refine o_iaddr ?_ | refine o_iaddrO ?_ | refine o_iaddrR ?_ | refine o_add ?_ | refine o_sub ?_ | refine o_cat ?_ | refine o_bin ?_ | refine o_loadsA ?_ | refine o_loadpA ?_ | refine o_store ?_ | refine o_pickt ?_ | refine o_pickf ?_ | refine skF ?_ | refine skU ?_
  refine ct_loopG (fun (g : Nat × List SpanL) => [(0, .own ⟨0, 0⟩ N 0 n), (1, .int .i64 a), (2, .int .i64 b), (3, .fn 47 []), (8, .int .i64 g.1)])
    (fun g => [(⟨0, 0⟩, blkV 2 (g.2.map encS))]) (fun g => b - g.1)
    (fun g => a + 1 ≤ g.1 ∧ g.1 ≤ b ∧ g.2.length = N ∧ Sort.insOuter ltS a b g.1 g.2.toArray = Sort.insertionSort ltS xs.toArray a b) (a + 1, xs) goes ⟨Nat.le_refl _, hab, hN, rfl⟩ ?_
  rintro ⟨i, ys⟩ ⟨hai, hib, hyl, hv⟩
  dsimp only at hai hib hyl hv ⊢
  rw [Sort.insOuter] at hv
  repeat first | refine o_copy ?_ | refine nl ?_ | refine ct_seq ?_ | refine rg ?_ | refine ct_block ?_ | refine bq ?_ | refine o_iaddr ?_ | refine o_iaddrO ?_ | refine o_iaddrR ?_ | refine o_add ?_ | refine o_sub ?_ | refine o_cat ?_ | refine o_bin ?_ | refine o_loadsA ?_ | refine o_loadpA ?_ | refine o_store ?_ | refine o_pickt ?_ | refine o_pickf ?_ | refine skF ?_ | refine skU ?_
  refine cnd (fun h => ct_skip ?_) (fun h => ct_exit ?_)
  · have hlt : i < b := by have h' := of_decide_eq_true h; omega
    rw [if_pos hlt] at hv
    repeat first | refine o_copy ?_ | refine nl ?_ | refine ct_seq ?_ | refine rg ?_ | refine ct_block ?_ | refine bq ?_ | refine o_iaddr ?_ | refine o_iaddrO ?_ | refine o_iaddrR ?_ | refine o_add ?_ | refine o_sub ?_ | refine o_cat ?_ | refine o_bin ?_ | refine o_loadsA ?_ | refine o_loadpA ?_ | refine o_store ?_ | refine o_pickt ?_ | refine o_pickf ?_ | refine skF ?_ | refine skU ?_
    refine ct_loopG (fun (g : Nat × List SpanL) => [(0, .own ⟨0, 0⟩ N 0 n), (1, .int .i64 a), (2, .int .i64 b), (3, .fn 47 []), (8, .int .i64 i), (9, .int .i64 g.1)])
      (fun g => [(⟨0, 0⟩, blkV 2 (g.2.map encS))]) (fun g => g.1)
      (fun g => g.1 ≤ i ∧ g.2.length = N ∧ Sort.insInner ltS a g.1 g.2.toArray = Sort.insInner ltS a i ys.toArray) (i, ys) goes ⟨Nat.le_refl _, hyl, rfl⟩ ?_
    rintro ⟨j, zs⟩ ⟨hji, hzl, hw⟩
    dsimp only at hji hzl hw ⊢
    repeat first | refine o_copy ?_ | refine nl ?_ | refine ct_seq ?_ | refine rg ?_ | refine ct_block ?_ | refine bq ?_ | refine o_iaddr ?_ | refine o_iaddrO ?_ | refine o_iaddrR ?_ | refine o_add ?_ | refine o_sub ?_ | refine o_cat ?_ | refine o_bin ?_ | refine o_loadsA ?_ | refine o_loadpA ?_ | refine o_store ?_ | refine o_pickt ?_ | refine o_pickf ?_ | refine skF ?_ | refine skU ?_
    by_cases hja : j > a
    · have hjd : decide ((j : Int) > a) = true := decide_eq_true (by omega)
      obtain ⟨m, rfl⟩ : ∃ m, j = m + 1 := ⟨j - 1, by omega⟩
      obtain ⟨x, hx⟩ : ∃ x, zs[m + 1]? = some x := ⟨_, List.getElem?_eq_getElem (by omega)⟩
      obtain ⟨y, hy⟩ : ∃ y, zs[m]? = some y := ⟨_, List.getElem?_eq_getElem (by omega)⟩
      have hx' := els_at (k := 0 + ((m + 1 : Nat) : Int).toNat) hx (by omega)
      have hy' := els_at (k := 0 + (((m + 1 : Nat) : Int) - 1).toNat) hy (by omega)
      have hk1 : 0 + ((m + 1 : Nat) : Int).toNat = m + 1 := by omega
      have hk2 : 0 + (((m + 1 : Nat) : Int) - 1).toNat = m := by omega
      rw [Sort.insInner, gb hx, gb hy] at hw
      repeat first | refine o_copy ?_ | refine nl ?_ | refine ct_seq ?_ | refine rg ?_ | refine ct_block ?_ | refine bq ?_ | refine o_iaddrG ?_ | refine cv0 (cmpf_vc x y) ?_ | refine o_iaddr ?_ | refine o_iaddrO ?_ | refine o_iaddrR ?_ | refine o_add ?_ | refine o_sub ?_ | refine o_cat ?_ | refine o_bin ?_ | refine o_loadsA ?_ | refine o_loadpA ?_ | refine o_store ?_ | refine o_pickt ?_ | refine o_pickf ?_ | refine skF ?_ | refine skU ?_
      refine cnd (fun h2 => ct_skip ?_) (fun h2 => ct_exit ?_)
      · rw [if_pos (by simp [hja]; exact h2), swp_eq hx hy, ← hk1, ← hk2] at hw
        rw [hk2] at hw
        repeat first | refine o_copy ?_ | refine nl ?_ | refine ct_seq ?_ | refine rg ?_ | refine ct_block ?_ | refine bq ?_ | refine o_iaddrG ?_ | refine o_v (vst encS y) ?_ | refine o_v (vst encS x) ?_ | refine o_iaddr ?_ | refine o_iaddrO ?_ | refine o_iaddrR ?_ | refine o_add ?_ | refine o_sub ?_ | refine o_cat ?_ | refine o_bin ?_ | refine o_loadsA ?_ | refine o_loadpA ?_ | refine o_store ?_ | refine o_pickt ?_ | refine o_pickf ?_ | refine skF ?_ | refine skU ?_
        exact agn (m, (zs.set (0 + ((m + 1 : Nat) : Int).toNat) y).set (0 + (((m + 1 : Nat) : Int) - 1).toNat) x) ⟨by simp only; omega, by simp only [List.length_set]; omega, by rw [hk2]; exact hw⟩
          (goes (h1 := by refine ⟨rfl, rfl, rfl, rfl, rfl, congrArg (fun z => some (PV.int .i64 z)) (by omega : ((m + 1 : Nat) : Int) - 1 = m), trivial⟩))
      · rw [if_neg (by simp [h2, ltS])] at hw
        repeat first | refine o_copy ?_ | refine nl ?_ | refine ct_seq ?_ | refine rg ?_ | refine ct_block ?_ | refine bq ?_ | refine o_iaddr ?_ | refine o_iaddrO ?_ | refine o_iaddrR ?_ | refine o_add ?_ | refine o_sub ?_ | refine o_cat ?_ | refine o_bin ?_ | refine o_loadsA ?_ | refine o_loadpA ?_ | refine o_store ?_ | refine o_pickt ?_ | refine o_pickf ?_ | refine skF ?_ | refine skU ?_
        exact agn (i + 1, zs) ⟨by simp only; omega, by simp only; omega, hzl, by simp only; rw [hw]; exact hv⟩ goes
    · have hjd : decide ((j : Int) > a) = false := decide_eq_false (by omega)
      have hz : Sort.insInner ltS a j zs.toArray = zs.toArray := by
        cases j with
        | zero => rfl
        | succ m => rw [Sort.insInner, if_neg (by simp; intro; omega)]
      rw [hz] at hw
      repeat first | refine o_copy ?_ | refine nl ?_ | refine ct_seq ?_ | refine rg ?_ | refine ct_block ?_ | refine bq ?_ | refine o_iaddr ?_ | refine o_iaddrO ?_ | refine o_iaddrR ?_ | refine o_add ?_ | refine o_sub ?_ | refine o_cat ?_ | refine o_bin ?_ | refine o_loadsA ?_ | refine o_loadpA ?_ | refine o_store ?_ | refine o_pickt ?_ | refine o_pickf ?_ | refine skF ?_ | refine skU ?_
      refine cndf (ct_exit ?_)
      repeat first | refine o_copy ?_ | refine nl ?_ | refine ct_seq ?_ | refine rg ?_ | refine ct_block ?_ | refine bq ?_ | refine o_iaddr ?_ | refine o_iaddrO ?_ | refine o_iaddrR ?_ | refine o_add ?_ | refine o_sub ?_ | refine o_cat ?_ | refine o_bin ?_ | refine o_loadsA ?_ | refine o_loadpA ?_ | refine o_store ?_ | refine o_pickt ?_ | refine o_pickf ?_ | refine skF ?_ | refine skU ?_
      exact agn (i + 1, zs) ⟨by simp only; omega, by simp only; omega, hzl, by simp only; rw [hw]; exact hv⟩ goes
  · have hge : ¬ i < b := by have h' := of_decide_eq_false h; omega
    rw [if_neg hge] at hv
    refine ⟨.inl rfl, oL1 ?_⟩
    rw [← hv]
set_option maxHeartbeats 1000000 in
theorem sift_vc {N n : Nat} (xs : List SpanL) (lo hi first : Nat) (hN : xs.length = N) (hf : first + hi ≤ n) (hlo : lo ≤ 1000000000) (hn : n ≤ N) (hm : N ≤ 1000000000) :
    VC Try.prog 70 [.own ⟨0, 0⟩ N 0 n, .int .i64 lo, .int .i64 hi, .int .i64 first, .fn 47 []] [blkV 2 (xs.map encS)] (.tup []) (srt (Sort.siftDown ltS hi first lo xs.toArray)) := by
  refine vc_of vf70 ?_ (Nat.le_of_ble_eq_true rfl) (by intro vs h; cases h; simp)
  repeat first | refine o_copy ?_ | refine nl ?_ | refine ct_seq ?_ | refine rg ?_ | refine ct_block ?_ | refine bq ?_ | refine o_iaddr ?_ | refine o_iaddrO ?_ | refine o_iaddrR ?_ | refine o_add ?_ | refine o_mul ?_ | refine o_cat ?_ | refine o_bin ?_ | refine o_loadsA ?_ | refine o_loadpA ?_ | refine o_store ?_ | refine o_not ?_ | refine o_pickt ?_ | refine o_pickf ?_ | refine skF ?_ | refine skU ?_
  refine ct_loopG (fun (g : Nat × List SpanL) => [(0, .own ⟨0, 0⟩ N 0 n), (2, .int .i64 hi), (3, .int .i64 first), (4, .fn 47 []), (10, .int .i64 g.1)])
    (fun g => [(⟨0, 0⟩, blkV 2 (g.2.map encS))]) (fun g => hi - g.1)
    (fun g => g.1 ≤ 1000000000 ∧ g.2.length = N ∧ Sort.siftDown ltS hi first g.1 g.2.toArray = Sort.siftDown ltS hi first lo xs.toArray) (lo, xs) goes ⟨hlo, hN, rfl⟩ ?_
  rintro ⟨r, ys⟩ ⟨hr, hyl, hv⟩
  dsimp only at hr hyl hv ⊢
  rw [Sort.siftDown] at hv
  repeat first | refine o_copy ?_ | refine nl ?_ | refine ct_seq ?_ | refine rg ?_ | refine ct_block ?_ | refine bq ?_ | refine o_iaddr ?_ | refine o_iaddrO ?_ | refine o_iaddrR ?_ | refine o_add ?_ | refine o_mul ?_ | refine o_cat ?_ | refine o_bin ?_ | refine o_loadsA ?_ | refine o_loadpA ?_ | refine o_store ?_ | refine o_not ?_ | refine o_pickt ?_ | refine o_pickf ?_ | refine skF ?_ | refine skU ?_
  by_cases h1 : 2 * r + 1 ≥ hi
  · rw [dif_pos h1] at hv
    refine cndt (ct_exit ?_) rfl (decide_eq_true (by omega))
    exact ⟨.inl rfl, oL1 (by rw [← hv])⟩
  · rw [dif_neg h1] at hv
    refine cndf (ct_skip ?_) rfl (decide_eq_false (by omega))
    obtain ⟨xr, hxr⟩ : ∃ x, ys[first + r]? = some x := ⟨_, List.getElem?_eq_getElem (by omega)⟩
    obtain ⟨xc, hxc⟩ : ∃ x, ys[first + (2 * r + 1)]? = some x := ⟨_, List.getElem?_eq_getElem (by omega)⟩
    have hk1 : 0 + ((first : Int) + (r : Int)).toNat = first + r := by omega
    have hk2 : 0 + ((first : Int) + (2 * (r : Int) + 1)).toNat = first + (2 * r + 1) := by omega
    have her := els_at hxr hk1
    have hec := els_at hxc hk2
    by_cases h2 : 2 * r + 1 + 1 < hi
    · have d2 : decide ((2 * (r : Int) + 1 + 1) < (hi : Int)) = true := decide_eq_true (by omega)
      obtain ⟨xd, hxd⟩ : ∃ x, ys[first + (2 * r + 1) + 1]? = some x := ⟨_, List.getElem?_eq_getElem (by omega)⟩
      have hk3 : 0 + ((first : Int) + (2 * (r : Int) + 1) + 1).toNat = first + (2 * r + 1) + 1 := by omega
      have hk4 : 0 + ((first : Int) + (2 * (r : Int) + 1 + 1)).toNat = first + (2 * r + 2) := by omega
      have hxd2 : ys[first + (2 * r + 2)]? = some xd := hxd
      have hed := els_at hxd hk3
      have hed2 := els_at hxd2 hk4
      rw [gb hxc, gb hxd, gb hxr, gb hxd2] at hv
      repeat first | refine o_copy ?_ | refine nl ?_ | refine ct_seq ?_ | refine rg ?_ | refine ct_block ?_ | refine bq ?_ | refine o_iaddrG ?_ | refine cv0 (cmpf_vc xc xd) ?_ | refine o_iaddr ?_ | refine o_iaddrO ?_ | refine o_iaddrR ?_ | refine o_add ?_ | refine o_mul ?_ | refine o_cat ?_ | refine o_bin ?_ | refine o_loadsA ?_ | refine o_loadpA ?_ | refine o_store ?_ | refine o_not ?_ | refine o_pickt ?_ | refine o_pickf ?_ | refine skF ?_ | refine skU ?_
      refine cnd (fun h3 => ?_) (fun h3 => ct_skip ?_)
      · rw [if_pos (by simp [h2]; exact h3)] at hv
        repeat first | refine o_copy ?_ | refine nl ?_ | refine ct_seq ?_ | refine rg ?_ | refine ct_block ?_ | refine bq ?_ | refine o_iaddrG ?_ | refine cv0 (cmpf_vc xr xd) ?_ | refine o_iaddr ?_ | refine o_iaddrO ?_ | refine o_iaddrR ?_ | refine o_add ?_ | refine o_mul ?_ | refine o_cat ?_ | refine o_bin ?_ | refine o_loadsA ?_ | refine o_loadpA ?_ | refine o_store ?_ | refine o_not ?_ | refine o_pickt ?_ | refine o_pickf ?_ | refine skF ?_ | refine skU ?_
        refine cnd (fun h4 => ?_) (fun h4 => ct_skip ?_)
        · rw [if_pos (by simpa [ltS] using h4)] at hv
          exact ct_ret ⟨.inr rfl, oL1 (by rw [← hv])⟩
        · rw [if_neg (by simpa [ltS] using h4), dif_pos (by omega), swp_eq hxr hxd2, ← hk1, ← hk4] at hv
          repeat first | refine o_copy ?_ | refine nl ?_ | refine ct_seq ?_ | refine rg ?_ | refine ct_block ?_ | refine bq ?_ | refine o_iaddrG ?_ | refine o_v (vst encS xd) ?_ | refine o_v (vst encS xr) ?_ | refine o_iaddr ?_ | refine o_iaddrO ?_ | refine o_iaddrR ?_ | refine o_add ?_ | refine o_mul ?_ | refine o_cat ?_ | refine o_bin ?_ | refine o_loadsA ?_ | refine o_loadpA ?_ | refine o_store ?_ | refine o_not ?_ | refine o_pickt ?_ | refine o_pickf ?_ | refine skF ?_ | refine skU ?_
          exact agn (2 * r + 2, (ys.set (0 + ((first : Int) + (r : Int)).toNat) xd).set (0 + ((first : Int) + (2 * (r : Int) + 1 + 1)).toNat) xr) ⟨by simp only; omega, by simp only [List.length_set]; omega, hv⟩
            (goes (h1 := by refine ⟨rfl, rfl, rfl, rfl, congrArg (fun z => some (PV.int .i64 z)) (by omega : 2 * (r : Int) + 1 + 1 = ((2 * r + 2 : Nat) : Int)), trivial⟩))
      · rw [if_neg (by simp; intro; simpa [ltS] using h3)] at hv
        repeat first | refine o_copy ?_ | refine nl ?_ | refine ct_seq ?_ | refine rg ?_ | refine ct_block ?_ | refine bq ?_ | refine o_iaddrG ?_ | refine cv0 (cmpf_vc xr xc) ?_ | refine o_iaddr ?_ | refine o_iaddrO ?_ | refine o_iaddrR ?_ | refine o_add ?_ | refine o_mul ?_ | refine o_cat ?_ | refine o_bin ?_ | refine o_loadsA ?_ | refine o_loadpA ?_ | refine o_store ?_ | refine o_not ?_ | refine o_pickt ?_ | refine o_pickf ?_ | refine skF ?_ | refine skU ?_
        refine cnd (fun h4 => ?_) (fun h4 => ct_skip ?_)
        · rw [if_pos (by simpa [ltS] using h4)] at hv
          exact ct_ret ⟨.inr rfl, oL1 (by rw [← hv])⟩
        · rw [if_neg (by simpa [ltS] using h4), swp_eq hxr hxc, ← hk1, ← hk2] at hv
          repeat first | refine o_copy ?_ | refine nl ?_ | refine ct_seq ?_ | refine rg ?_ | refine ct_block ?_ | refine bq ?_ | refine o_iaddrG ?_ | refine o_v (vst encS xc) ?_ | refine o_v (vst encS xr) ?_ | refine o_iaddr ?_ | refine o_iaddrO ?_ | refine o_iaddrR ?_ | refine o_add ?_ | refine o_mul ?_ | refine o_cat ?_ | refine o_bin ?_ | refine o_loadsA ?_ | refine o_loadpA ?_ | refine o_store ?_ | refine o_not ?_ | refine o_pickt ?_ | refine o_pickf ?_ | refine skF ?_ | refine skU ?_
          exact agn (2 * r + 1, (ys.set (0 + ((first : Int) + (r : Int)).toNat) xc).set (0 + ((first : Int) + (2 * (r : Int) + 1)).toNat) xr) ⟨by simp only; omega, by simp only [List.length_set]; omega, hv⟩
            (goes (h1 := by refine ⟨rfl, rfl, rfl, rfl, congrArg (fun z => some (PV.int .i64 z)) (by omega : 2 * (r : Int) + 1 = ((2 * r + 1 : Nat) : Int)), trivial⟩))
    · have d2 : decide ((2 * (r : Int) + 1 + 1) < (hi : Int)) = false := decide_eq_false (by omega)
      rw [if_neg (by simp [h2]), gb hxr, gb hxc] at hv
      repeat first | refine o_copy ?_ | refine nl ?_ | refine ct_seq ?_ | refine rg ?_ | refine ct_block ?_ | refine bq ?_ | refine o_iaddr ?_ | refine o_iaddrO ?_ | refine o_iaddrR ?_ | refine o_add ?_ | refine o_mul ?_ | refine o_cat ?_ | refine o_bin ?_ | refine o_loadsA ?_ | refine o_loadpA ?_ | refine o_store ?_ | refine o_not ?_ | refine o_pickt ?_ | refine o_pickf ?_ | refine skF ?_ | refine skU ?_
      refine cndf (ct_skip ?_)
      repeat first | refine o_copy ?_ | refine nl ?_ | refine ct_seq ?_ | refine rg ?_ | refine ct_block ?_ | refine bq ?_ | refine o_iaddrG ?_ | refine cv0 (cmpf_vc xr xc) ?_ | refine o_iaddr ?_ | refine o_iaddrO ?_ | refine o_iaddrR ?_ | refine o_add ?_ | refine o_mul ?_ | refine o_cat ?_ | refine o_bin ?_ | refine o_loadsA ?_ | refine o_loadpA ?_ | refine o_store ?_ | refine o_not ?_ | refine o_pickt ?_ | refine o_pickf ?_ | refine skF ?_ | refine skU ?_
      refine cnd (fun h4 => ?_) (fun h4 => ct_skip ?_)
      · rw [if_pos (by simpa [ltS] using h4)] at hv
        exact ct_ret ⟨.inr rfl, oL1 (by rw [← hv])⟩
      · rw [if_neg (by simpa [ltS] using h4), swp_eq hxr hxc, ← hk1, ← hk2] at hv
        repeat first | refine o_copy ?_ | refine nl ?_ | refine ct_seq ?_ | refine rg ?_ | refine ct_block ?_ | refine bq ?_ | refine o_iaddrG ?_ | refine o_v (vst encS xc) ?_ | refine o_v (vst encS xr) ?_ | refine o_iaddr ?_ | refine o_iaddrO ?_ | refine o_iaddrR ?_ | refine o_add ?_ | refine o_mul ?_ | refine o_cat ?_ | refine o_bin ?_ | refine o_loadsA ?_ | refine o_loadpA ?_ | refine o_store ?_ | refine o_not ?_ | refine o_pickt ?_ | refine o_pickf ?_ | refine skF ?_ | refine skU ?_
        exact agn (2 * r + 1, (ys.set (0 + ((first : Int) + (r : Int)).toNat) xc).set (0 + ((first : Int) + (2 * (r : Int) + 1)).toNat) xr) ⟨by simp only; omega, by simp only [List.length_set]; omega, hv⟩
          (goes (h1 := by refine ⟨rfl, rfl, rfl, rfl, congrArg (fun z => some (PV.int .i64 z)) (by omega : 2 * (r : Int) + 1 = ((2 * r + 1 : Nat) : Int)), trivial⟩))
end Go.Proofs
open Go.V Go.Pu
set_option linter.unusedVariables false
set_option linter.unusedSimpArgs false
set_option maxRecDepth 20000
namespace Go.Proofs
/-- slices.heapSortCmpFunc[downspout/api.Span] -/
def vc61 : VCode :=
 (.seq
 (.region 0 false [
 ⟨(some 13), .copy (.t 1), none, 0, []⟩,
 ⟨(some 8), .copy (.t 13), none, 8, [0]⟩])
 (.seq
 (.region 1 false [
 ⟨(some 9), .copy (.c (.int .i64 0)), none, 8192, []⟩])
 (.seq
 (.region 2 false [
 ⟨(some 14), .copy (.t 2), none, 16384, []⟩,
 ⟨(some 15), .copy (.t 1), none, 16392, []⟩,
 ⟨(some 16), .bin .sub (.t 14) (.t 15), none, 16400, [0, 1]⟩,
 ⟨(some 10), .copy (.t 16), none, 16408, [2, 0, 1]⟩])
 (.seq
 (.seq
 (.region 3 false [
 ⟨(some 17), .copy (.t 10), none, 24576, []⟩,
 ⟨(some 18), .bin .sub (.t 17) (.c (.int .i64 1)), none, 24584, [0]⟩,
 ⟨(some 19), .bin .quo (.t 18) (.c (.int .i64 2)), none, 24592, [1, 0]⟩,
 ⟨(some 11), .copy (.t 19), none, 24600, [2, 1, 0]⟩])
 (.block 0
 (.loop
 (.seq
 (.seq
 (.region 4 false [
 ⟨(some 20), .copy (.t 11), none, 32768, []⟩,
 ⟨(some 21), .bin .geq (.t 20) (.c (.int .i64 0)), none, 32776, [0]⟩])
 (.cond (.t 21)
 .skip
 (.exit 0)))
 (.seq
 (.block 1
 (.region 6 false [
 ⟨(some 24), .copy (.t 0), none, 49152, []⟩,
 ⟨(some 25), .copy (.t 11), none, 49160, []⟩,
 ⟨(some 26), .copy (.t 10), none, 49168, []⟩,
 ⟨(some 27), .copy (.t 8), none, 49176, []⟩,
 ⟨(some 28), .copy (.t 3), none, 49184, []⟩,
 ⟨(some 29), .call (.c (.fn 70 [])) [(.t 24), (.t 25), (.t 26), (.t 27), (.t 28)], none, 49192, [0, 1, 2, 3, 4]⟩]))
 (.region 5 false [
 ⟨(some 22), .copy (.t 11), none, 40960, []⟩,
 ⟨(some 23), .bin .sub (.t 22) (.c (.int .i64 1)), none, 40968, [0]⟩,
 ⟨(some 11), .copy (.t 23), none, 40976, [1, 0]⟩]))))))
 (.seq
 (.region 7 false [
 ⟨(some 30), .copy (.t 10), none, 57344, []⟩,
 ⟨(some 31), .bin .sub (.t 30) (.c (.int .i64 1)), none, 57352, [0]⟩,
 ⟨(some 12), .copy (.t 31), none, 57360, [1, 0]⟩])
 (.block 2
 (.loop
 (.seq
 (.seq
 (.region 8 false [
 ⟨(some 32), .copy (.t 12), none, 65536, []⟩,
 ⟨(some 33), .bin .geq (.t 32) (.c (.int .i64 0)), none, 65544, [0]⟩])
 (.cond (.t 33)
 .skip
 (.exit 2)))
 (.seq
 (.block 3
 (.seq
 (.region 10 true [
 ⟨(some 36), .copy (.t 0), none, 81920, []⟩,
 ⟨(some 37), .copy (.t 8), none, 81928, []⟩,
 ⟨(some 38), .copy (.t 0), none, 81936, []⟩,
 ⟨(some 39), .copy (.t 8), none, 81944, []⟩,
 ⟨(some 40), .copy (.t 12), none, 81952, []⟩,
 ⟨(some 41), .bin .add (.t 39) (.t 40), none, 81960, [3, 4]⟩,
 ⟨(some 42), .copy (.t 0), none, 81968, []⟩,
 ⟨(some 43), .copy (.t 8), none, 81976, []⟩,
 ⟨(some 44), .copy (.t 12), none, 81984, []⟩,
 ⟨(some 45), .bin .add (.t 43) (.t 44), none, 81992, [7, 8]⟩,
 ⟨(some 46), .iaddr 2 (.t 42) (.t 45), none, 82000, [6, 9, 7, 8]⟩,
 ⟨(some 47), .load true 2 (.t 46), none, 82008, [10, 6, 9, 7, 8]⟩,
 ⟨(some 48), .copy (.t 0), none, 82016, []⟩,
 ⟨(some 49), .copy (.t 8), none, 82024, []⟩,
 ⟨(some 50), .iaddr 2 (.t 48) (.t 49), none, 82032, [12, 13]⟩,
 ⟨(some 51), .load true 2 (.t 50), none, 82040, [14, 12, 13]⟩,
 ⟨(some 52), .iaddr 2 (.t 36) (.t 37), none, 82048, [0, 1, 6, 7, 8, 9, 10, 11, 15, 14, 12, 13]⟩,
 ⟨none, .store 2 (.t 52) (.t 47), none, 82056, [16, 0, 1, 6, 7, 8, 9, 10, 11, 15, 14, 12, 13]⟩,
 ⟨(some 53), .iaddr 2 (.t 38) (.t 41), none, 82064, [2, 5, 3, 4, 0, 1, 6, 7, 8, 9, 10, 11, 12, 13, 14, 15, 16, 17]⟩,
 ⟨none, .store 2 (.t 53) (.t 51), none, 82072, [18, 2, 5, 3, 4, 0, 1, 6, 7, 8, 9, 10, 11, 12, 13, 14, 15, 16, 17]⟩])
 (.region 11 false [
 ⟨(some 54), .copy (.t 0), none, 90112, []⟩,
 ⟨(some 55), .copy (.t 9), none, 90120, []⟩,
 ⟨(some 56), .copy (.t 12), none, 90128, []⟩,
 ⟨(some 57), .copy (.t 8), none, 90136, []⟩,
 ⟨(some 58), .copy (.t 3), none, 90144, []⟩,
 ⟨(some 59), .call (.c (.fn 70 [])) [(.t 54), (.t 55), (.t 56), (.t 57), (.t 58)], none, 90152, [0, 1, 2, 3, 4]⟩])))
 (.region 9 false [
 ⟨(some 34), .copy (.t 12), none, 73728, []⟩,
 ⟨(some 35), .bin .sub (.t 34) (.c (.int .i64 1)), none, 73736, [0]⟩,
 ⟨(some 12), .copy (.t 35), none, 73744, [1, 0]⟩]))))))))))
theorem vf61 : VF Try.prog 61 = some (60, vc61, []) := by kernel_rfl
/-! The sort: the heap -/
theorem quo_nat {k : IntKind} {n m : Nat} {z : Int} (hz : z = n) (hm : 0 < m) (hw : k.wrap ((n / m : Nat) : Int) = ((n / m : Nat) : Int)) : bin .quo (.int k z) (.int k (m : Nat)) = some (.int k ((n / m : Nat) : Int)) := by
  subst hz
  have h1 : ((m : Nat) : Int) ≠ 0 := by omega
  have h2 : (n : Int).tdiv (m : Int) = ((n / m : Nat) : Int) := rfl
  simp only [bin, if_true, binInt, if_neg h1, h2, hw]
set_option maxHeartbeats 1000000 in
theorem heap_vc {N n : Nat} (xs : List SpanL) (a b : Nat) (hN : xs.length = N) (hab : a < b) (hb : b ≤ n) (hn : n ≤ N) (hm : N ≤ 1000000000) :
    VC Try.prog 61 [.own ⟨0, 0⟩ N 0 n, .int .i64 a, .int .i64 b, .fn 47 []] [blkV 2 (xs.map encS)] (.tup []) (srt (Sort.heapSort ltS xs.toArray a b)) := by
  refine vc_of vf61 ?_ (Nat.le_of_ble_eq_true rfl) (by intro vs h; cases h; simp)
  have hq := quo_nat (k := .i64) (n := b - a - 1) (m := 2) (z := (b : Int) - a - 1) (by omega) (by omega) (wrap64 (by omega) (by omega))
  repeat first | refine o_copy ?_ | refine nl ?_ | refine ct_seq ?_ | refine rg ?_ | refine ct_block ?_ | refine bq ?_ | refine o_binE hq ?_ | refine o_iaddr ?_ | refine o_iaddrO ?_ | refine o_iaddrR ?_ | refine o_add ?_ | refine o_sub ?_ | refine o_cat ?_ | refine o_bin ?_ | refine o_loadsA ?_ | refine o_loadpA ?_ | refine o_store ?_
  refine ct_loopG (fun (g : Nat × List SpanL) => [(0, .own ⟨0, 0⟩ N 0 n), (3, .fn 47 []), (8, .int .i64 a), (9, .int .i64 0), (10, .int .i64 ((b : Int) - a)), (11, .int .i64 ((g.1 : Int) - 1))])
    (fun g => [(⟨0, 0⟩, blkV 2 (g.2.map encS))]) (fun g => g.1)
    (fun g => g.1 ≤ b - a ∧ g.2.length = N ∧ Sort.heapBuild ltS (b - a) a g.1 g.2.toArray = Sort.heapBuild ltS (b - a) a ((b - a - 1) / 2 + 1) xs.toArray) ((b - a - 1) / 2 + 1, xs)
    (goes (h1 := by refine ⟨rfl, rfl, rfl, rfl, rfl, congrArg (fun z => some (PV.int .i64 z)) (by omega), trivial⟩)) ⟨by omega, hN, rfl⟩ ?_
  rintro ⟨k, ys⟩ ⟨hk, hyl, hv⟩
  dsimp only at hk hyl hv ⊢
  repeat first | refine o_copy ?_ | refine nl ?_ | refine ct_seq ?_ | refine rg ?_ | refine ct_block ?_ | refine bq ?_ | refine o_iaddr ?_ | refine o_iaddrO ?_ | refine o_iaddrR ?_ | refine o_add ?_ | refine o_sub ?_ | refine o_cat ?_ | refine o_bin ?_ | refine o_loadsA ?_ | refine o_loadpA ?_ | refine o_store ?_
  cases k with
  | succ k =>
    refine cndt (ct_skip ?_) rfl (decide_eq_true (by omega))
    rw [Sort.heapBuild] at hv
    have hs := siftDown_size ltS (b - a) a k ys.toArray
    have hi : (((k + 1 : Nat) : Int) - 1) = (k : Nat) := by omega
    have hh : (b : Int) - a = ((b - a : Nat) : Int) := by omega
    have hc := sift_vc (n := n) ys k (b - a) a hyl (by omega) (by omega) hn hm
    rw [← hi, ← hh] at hc
    repeat first | refine o_copy ?_ | refine nl ?_ | refine ct_seq ?_ | refine rg ?_ | refine ct_block ?_ | refine bq ?_ | refine cl (lent := [⟨0, 0⟩]) hc ?_ | refine o_iaddr ?_ | refine o_iaddrO ?_ | refine o_iaddrR ?_ | refine o_add ?_ | refine o_sub ?_ | refine o_cat ?_ | refine o_bin ?_ | refine o_loadsA ?_ | refine o_loadpA ?_ | refine o_store ?_
    exact agn (k, (Sort.siftDown ltS (b - a) a k ys.toArray).toList) ⟨by simp only; omega, by simpa using hs.trans (by simpa using hyl), by simpa using hv⟩
      (goes (h1 := by refine ⟨rfl, rfl, rfl, rfl, rfl, congrArg (fun z => some (PV.int .i64 z)) (by omega : ((k + 1 : Nat) : Int) - 1 - 1 = (k : Int) - 1), trivial⟩))
  | zero =>
    refine cndf (ct_exit ?_) rfl (decide_eq_false (by omega))
    rw [Sort.heapBuild] at hv
    repeat first | refine o_copy ?_ | refine nl ?_ | refine ct_seq ?_ | refine rg ?_ | refine ct_block ?_ | refine bq ?_ | refine o_iaddr ?_ | refine o_iaddrO ?_ | refine o_iaddrR ?_ | refine o_add ?_ | refine o_sub ?_ | refine o_cat ?_ | refine o_bin ?_ | refine o_loadsA ?_ | refine o_loadpA ?_ | refine o_store ?_
    refine ct_loopG (fun (g : Nat × List SpanL) => [(0, .own ⟨0, 0⟩ N 0 n), (3, .fn 47 []), (8, .int .i64 a), (9, .int .i64 0), (12, .int .i64 ((g.1 : Int) - 1))])
      (fun g => [(⟨0, 0⟩, blkV 2 (g.2.map encS))]) (fun g => g.1)
      (fun g => g.1 ≤ b - a ∧ g.2.length = N ∧ Sort.heapPop ltS a g.1 g.2.toArray = Sort.heapSort ltS xs.toArray a b) (b - a, ys)
      (goes (h1 := by refine ⟨rfl, rfl, rfl, rfl, congrArg (fun z => some (PV.int .i64 z)) (by omega), trivial⟩)) ⟨by omega, hyl, by unfold Sort.heapSort; rw [hv]⟩ ?_
    rintro ⟨k, zs⟩ ⟨hk, hzl, hw⟩
    dsimp only at hk hzl hw ⊢
    repeat first | refine o_copy ?_ | refine nl ?_ | refine ct_seq ?_ | refine rg ?_ | refine ct_block ?_ | refine bq ?_ | refine o_iaddr ?_ | refine o_iaddrO ?_ | refine o_iaddrR ?_ | refine o_add ?_ | refine o_sub ?_ | refine o_cat ?_ | refine o_bin ?_ | refine o_loadsA ?_ | refine o_loadpA ?_ | refine o_store ?_
    cases k with
    | succ k =>
      refine cndt (ct_skip ?_) rfl (decide_eq_true (by omega))
      rw [Sort.heapPop] at hw
      obtain ⟨x, hx⟩ : ∃ x, zs[a]? = some x := ⟨_, List.getElem?_eq_getElem (by omega)⟩
      obtain ⟨y, hy⟩ : ∃ y, zs[a + k]? = some y := ⟨_, List.getElem?_eq_getElem (by omega)⟩
      have hk1 : 0 + (a : Int).toNat = a := by omega
      have hk2 : 0 + ((a : Int) + (((k + 1 : Nat) : Int) - 1)).toNat = a + k := by omega
      have hx' := els_at hx hk1
      have hy' := els_at hy hk2
      rw [swp_eq hx hy] at hw
      have hi : (((k + 1 : Nat) : Int) - 1) = (k : Nat) := by omega
      have hzl2 : ((zs.set a y).set (a + k) x).length = N := by simp only [List.length_set]; exact hzl
      have hs := siftDown_size ltS k a 0 ((zs.set a y).set (a + k) x).toArray
      have hc := sift_vc (n := n) ((zs.set a y).set (a + k) x) 0 k a hzl2 (by omega) (by omega) hn hm
      rw [← hi] at hc
      have hc' : VC Try.prog 70 [.own ⟨0, 0⟩ N 0 n, .int .i64 0, .int .i64 (((k + 1 : Nat) : Int) - 1), .int .i64 a, .fn 47 []] [blkV 2 (((zs.set (0 + (a : Int).toNat) y).set (0 + ((a : Int) + (((k + 1 : Nat) : Int) - 1)).toNat) x).map encS)] (.tup []) (srt (Sort.siftDown ltS k a 0 ((zs.set a y).set (a + k) x).toArray)) := by rw [hk1, hk2]; exact hc
      repeat first | refine o_copy ?_ | refine nl ?_ | refine ct_seq ?_ | refine rg ?_ | refine ct_block ?_ | refine bq ?_ | refine o_iaddrG ?_ | refine o_v (vst encS y) ?_ | refine o_v (vst encS x) ?_ | refine cl (lent := [⟨0, 0⟩]) hc' ?_ | refine o_iaddr ?_ | refine o_iaddrO ?_ | refine o_iaddrR ?_ | refine o_add ?_ | refine o_sub ?_ | refine o_cat ?_ | refine o_bin ?_ | refine o_loadsA ?_ | refine o_loadpA ?_ | refine o_store ?_
      exact agn (k, (Sort.siftDown ltS k a 0 ((zs.set a y).set (a + k) x).toArray).toList) ⟨by simp only; omega, by simpa using hs.trans (by simpa using hzl), by simpa using hw⟩
        (goes (h1 := by refine ⟨rfl, rfl, rfl, rfl, congrArg (fun z => some (PV.int .i64 z)) (by omega : ((k + 1 : Nat) : Int) - 1 - 1 = (k : Int) - 1), trivial⟩))
    | zero =>
      refine cndf (ct_exit ?_) rfl (decide_eq_false (by omega))
      rw [Sort.heapPop] at hw
      exact ⟨.inl rfl, oL1 (by rw [← hw])⟩
end Go.Proofs
open Go.V Go.Pu
set_option linter.unusedVariables false
set_option linter.unusedSimpArgs false
set_option maxRecDepth 20000
namespace Go.Proofs
/-- math/bits.Len -/
def vc56 : VCode :=
 (.seq
 (.region 0 false [
 ⟨(some 2), .copy (.c (.int .i64 0)), none, 0, []⟩])
 (.seq
 (.cond (.c (.bool false))
 (.seq
 (.region 1 false [
 ⟨(some 3), .copy (.t 0), none, 8192, []⟩,
 ⟨(some 4), .conv .u32 (.t 3), none, 8200, [0]⟩,
 ⟨(some 5), .call (.c (.fn 68 [])) [(.t 4)], none, 8208, [1, 0]⟩,
 ⟨(some 2), .copy (.t 5), none, 8216, [2, 1, 0]⟩])
 .ret)
 .skip)
 (.seq
 (.region 2 false [
 ⟨(some 6), .copy (.t 0), none, 16384, []⟩,
 ⟨(some 7), .call (.c (.fn 69 [])) [(.t 6)], none, 16392, [0]⟩,
 ⟨(some 2), .copy (.t 7), none, 16400, [1, 0]⟩])
 .ret)))
theorem vf56 : VF Try.prog 56 = some (8, vc56, [.tmp 2]) := by kernel_rfl
/-- math/bits.Len64 -/
def vc69 : VCode :=
 (.seq
 (.region 0 false [
 ⟨(some 2), .copy (.c (.int .i64 0)), none, 0, []⟩])
 (.seq
 (.seq
 (.region 1 false [
 ⟨(some 3), .copy (.t 0), none, 8192, []⟩,
 ⟨(some 4), .bin .geq (.t 3) (.c (.int .u64 4294967296)), none, 8200, [0]⟩])
 (.cond (.t 4)
 (.seq
 (.region 2 false [
 ⟨(some 5), .copy (.t 0), none, 16384, []⟩,
 ⟨(some 6), .bin .shr (.t 5) (.c (.int .u64 32)), none, 16392, [0]⟩,
 ⟨(some 0), .copy (.t 6), none, 16400, [1, 0]⟩])
 (.region 3 false [
 ⟨(some 2), .copy (.c (.int .i64 32)), none, 24576, []⟩]))
 .skip))
 (.seq
 (.seq
 (.region 4 false [
 ⟨(some 7), .copy (.t 0), none, 32768, []⟩,
 ⟨(some 8), .bin .geq (.t 7) (.c (.int .u64 65536)), none, 32776, [0]⟩])
 (.cond (.t 8)
 (.seq
 (.region 5 false [
 ⟨(some 9), .copy (.t 0), none, 40960, []⟩,
 ⟨(some 10), .bin .shr (.t 9) (.c (.int .u64 16)), none, 40968, [0]⟩,
 ⟨(some 0), .copy (.t 10), none, 40976, [1, 0]⟩])
 (.region 6 false [
 ⟨(some 11), .copy (.t 2), none, 49152, []⟩,
 ⟨(some 12), .bin .add (.t 11) (.c (.int .i64 16)), none, 49160, [0]⟩,
 ⟨(some 2), .copy (.t 12), none, 49168, [1, 0]⟩]))
 .skip))
 (.seq
 (.seq
 (.region 7 false [
 ⟨(some 13), .copy (.t 0), none, 57344, []⟩,
 ⟨(some 14), .bin .geq (.t 13) (.c (.int .u64 256)), none, 57352, [0]⟩])
 (.cond (.t 14)
 (.seq
 (.region 8 false [
 ⟨(some 15), .copy (.t 0), none, 65536, []⟩,
 ⟨(some 16), .bin .shr (.t 15) (.c (.int .u64 8)), none, 65544, [0]⟩,
 ⟨(some 0), .copy (.t 16), none, 65552, [1, 0]⟩])
 (.region 9 false [
 ⟨(some 17), .copy (.t 2), none, 73728, []⟩,
 ⟨(some 18), .bin .add (.t 17) (.c (.int .i64 8)), none, 73736, [0]⟩,
 ⟨(some 2), .copy (.t 18), none, 73744, [1, 0]⟩]))
 .skip))
 (.seq
 (.region 10 false [
 ⟨(some 19), .copy (.t 2), none, 81920, []⟩,
 ⟨(some 20), .copy (.t 0), none, 81928, []⟩,
 ⟨(some 21), .conv .u8 (.t 20), none, 81936, [1]⟩,
 ⟨(some 22), .indexS (.c (.str [0, 1, 2, 2, 3, 3, 3, 3, 4, 4, 4, 4, 4, 4, 4, 4, 5, 5, 5, 5, 5, 5, 5, 5, 5, 5, 5, 5, 5, 5, 5, 5, 6, 6, 6, 6, 6, 6, 6, 6, 6, 6, 6, 6, 6, 6, 6, 6, 6, 6, 6, 6, 6, 6, 6, 6, 6, 6, 6, 6, 6, 6, 6, 6, 7, 7, 7, 7, 7, 7, 7, 7, 7, 7, 7, 7, 7, 7, 7, 7, 7, 7, 7, 7, 7, 7, 7, 7, 7, 7, 7, 7, 7, 7, 7, 7, 7, 7, 7, 7, 7, 7, 7, 7, 7, 7, 7, 7, 7, 7, 7, 7, 7, 7, 7, 7, 7, 7, 7, 7, 7, 7, 7, 7, 7, 7, 7, 7, 8, 8, 8, 8, 8, 8, 8, 8, 8, 8, 8, 8, 8, 8, 8, 8, 8, 8, 8, 8, 8, 8, 8, 8, 8, 8, 8, 8, 8, 8, 8, 8, 8, 8, 8, 8, 8, 8, 8, 8, 8, 8, 8, 8, 8, 8, 8, 8, 8, 8, 8, 8, 8, 8, 8, 8, 8, 8, 8, 8, 8, 8, 8, 8, 8, 8, 8, 8, 8, 8, 8, 8, 8, 8, 8, 8, 8, 8, 8, 8, 8, 8, 8, 8, 8, 8, 8, 8, 8, 8, 8, 8, 8, 8, 8, 8, 8, 8, 8, 8, 8, 8, 8, 8, 8, 8, 8, 8, 8, 8, 8, 8, 8, 8, 8, 8, 8, 8, 8, 8, 8, 8, 8, 8, 8, 8, 8, 8])) (.t 21), none, 81944, [2, 1]⟩,
 ⟨(some 23), .conv .i64 (.t 22), none, 81952, [3, 2, 1]⟩,
 ⟨(some 24), .bin .add (.t 19) (.t 23), none, 81960, [0, 4, 3, 2, 1]⟩,
 ⟨(some 2), .copy (.t 24), none, 81968, [5, 0, 4, 3, 2, 1]⟩])
 .ret)))))
theorem vf69 : VF Try.prog 69 = some (25, vc69, [.tmp 2]) := by kernel_rfl
/-- slices.nextPowerOfTwo -/
def vc71 : VCode :=
 (.seq
 (.region 0 false [
 ⟨(some 2), .copy (.c (.int .u64 0)), none, 0, []⟩])
 (.seq
 (.region 1 false [
 ⟨(some 3), .copy (.t 0), none, 8192, []⟩,
 ⟨(some 4), .conv .u64 (.t 3), none, 8200, [0]⟩,
 ⟨(some 5), .call (.c (.fn 56 [])) [(.t 4)], none, 8208, [1, 0]⟩,
 ⟨(some 6), .bin .shl (.c (.int .u64 1)) (.t 5), none, 8216, [2, 1, 0]⟩,
 ⟨(some 2), .copy (.t 6), none, 8224, [3, 2, 1, 0]⟩])
 .ret))
theorem vf71 : VF Try.prog 71 = some (7, vc71, [.tmp 2]) := by kernel_rfl
/-- (*slices.xorshift).Next -/
def vc72 : VCode :=
 (.seq
 (.region 0 false [
 ⟨(some 2), .copy (.c (.int .u64 0)), none, 0, []⟩])
 (.seq
 (.region 1 true [
 ⟨(some 3), .copy (.t 0), none, 8192, []⟩,
 ⟨(some 4), .nilc (.t 3), none, 8200, [0]⟩,
 ⟨(some 5), .load false 1 (.t 4), none, 8208, [1, 0]⟩,
 ⟨(some 6), .copy (.t 0), none, 8216, []⟩,
 ⟨(some 7), .nilc (.t 6), none, 8224, [3]⟩,
 ⟨(some 8), .load false 1 (.t 7), none, 8232, [4, 3]⟩,
 ⟨(some 9), .bin .shl (.t 8) (.c (.int .u64 13)), none, 8240, [5, 4, 3]⟩,
 ⟨(some 10), .bin .xor (.t 5) (.t 9), none, 8248, [2, 1, 0, 6, 5, 4, 3]⟩,
 ⟨(some 11), .nilc (.t 3), none, 8256, [0, 1, 2, 3, 4, 5, 6, 7]⟩,
 ⟨none, .store 1 (.t 11) (.t 10), none, 8264, [8, 0, 1, 2, 3, 4, 5, 6, 7]⟩])
 (.seq
 (.region 2 true [
 ⟨(some 12), .copy (.t 0), none, 16384, []⟩,
 ⟨(some 13), .nilc (.t 12), none, 16392, [0]⟩,
 ⟨(some 14), .load false 1 (.t 13), none, 16400, [1, 0]⟩,
 ⟨(some 15), .copy (.t 0), none, 16408, []⟩,
 ⟨(some 16), .nilc (.t 15), none, 16416, [3]⟩,
 ⟨(some 17), .load false 1 (.t 16), none, 16424, [4, 3]⟩,
 ⟨(some 18), .bin .shr (.t 17) (.c (.int .u64 7)), none, 16432, [5, 4, 3]⟩,
 ⟨(some 19), .bin .xor (.t 14) (.t 18), none, 16440, [2, 1, 0, 6, 5, 4, 3]⟩,
 ⟨(some 20), .nilc (.t 12), none, 16448, [0, 1, 2, 3, 4, 5, 6, 7]⟩,
 ⟨none, .store 1 (.t 20) (.t 19), none, 16456, [8, 0, 1, 2, 3, 4, 5, 6, 7]⟩])
 (.seq
 (.region 3 true [
 ⟨(some 21), .copy (.t 0), none, 24576, []⟩,
 ⟨(some 22), .nilc (.t 21), none, 24584, [0]⟩,
 ⟨(some 23), .load false 1 (.t 22), none, 24592, [1, 0]⟩,
 ⟨(some 24), .copy (.t 0), none, 24600, []⟩,
 ⟨(some 25), .nilc (.t 24), none, 24608, [3]⟩,
 ⟨(some 26), .load false 1 (.t 25), none, 24616, [4, 3]⟩,
 ⟨(some 27), .bin .shl (.t 26) (.c (.int .u64 17)), none, 24624, [5, 4, 3]⟩,
 ⟨(some 28), .bin .xor (.t 23) (.t 27), none, 24632, [2, 1, 0, 6, 5, 4, 3]⟩,
 ⟨(some 29), .nilc (.t 21), none, 24640, [0, 1, 2, 3, 4, 5, 6, 7]⟩,
 ⟨none, .store 1 (.t 29) (.t 28), none, 24648, [8, 0, 1, 2, 3, 4, 5, 6, 7]⟩])
 (.seq
 (.region 4 false [
 ⟨(some 30), .copy (.t 0), none, 32768, []⟩,
 ⟨(some 31), .nilc (.t 30), none, 32776, [0]⟩,
 ⟨(some 32), .load false 1 (.t 31), none, 32784, [1, 0]⟩,
 ⟨(some 2), .copy (.t 32), none, 32792, [2, 1, 0]⟩])
 .ret)))))
theorem vf72 : VF Try.prog 72 = some (33, vc72, [.tmp 2]) := by kernel_rfl
/-! The sort: lengths in bits, the random numbers, the patterns broken -/
abbrev tab8 : List UInt8 := [0, 1, 2, 2, 3, 3, 3, 3, 4, 4, 4, 4, 4, 4, 4, 4, 5, 5, 5, 5, 5, 5, 5, 5, 5, 5, 5, 5, 5, 5, 5, 5, 6, 6, 6, 6, 6, 6, 6, 6, 6, 6, 6, 6, 6, 6, 6, 6, 6, 6, 6, 6, 6, 6, 6, 6, 6, 6, 6, 6, 6, 6, 6, 6, 7, 7, 7, 7, 7, 7, 7, 7, 7, 7, 7, 7, 7, 7, 7, 7, 7, 7, 7, 7, 7, 7, 7, 7, 7, 7, 7, 7, 7, 7, 7, 7, 7, 7, 7, 7, 7, 7, 7, 7, 7, 7, 7, 7, 7, 7, 7, 7, 7, 7, 7, 7, 7, 7, 7, 7, 7, 7, 7, 7, 7, 7, 7, 7, 8, 8, 8, 8, 8, 8, 8, 8, 8, 8, 8, 8, 8, 8, 8, 8, 8, 8, 8, 8, 8, 8, 8, 8, 8, 8, 8, 8, 8, 8, 8, 8, 8, 8, 8, 8, 8, 8, 8, 8, 8, 8, 8, 8, 8, 8, 8, 8, 8, 8, 8, 8, 8, 8, 8, 8, 8, 8, 8, 8, 8, 8, 8, 8, 8, 8, 8, 8, 8, 8, 8, 8, 8, 8, 8, 8, 8, 8, 8, 8, 8, 8, 8, 8, 8, 8, 8, 8, 8, 8, 8, 8, 8, 8, 8, 8, 8, 8, 8, 8, 8, 8, 8, 8, 8, 8, 8, 8, 8, 8, 8, 8, 8, 8, 8, 8, 8, 8, 8, 8, 8, 8, 8, 8, 8, 8, 8, 8]
def tabOk (n : Nat) : Bool := match tab8[n]? with | some c => c.toNat == Sort.bitsLen n | none => false
theorem tab_all : (List.range 256).all tabOk = true := by decide +kernel
theorem tab_get {n : Nat} (h : n < 256) : ∃ c : UInt8, tab8[n]? = some c ∧ c.toNat = Sort.bitsLen n := by
  have := List.all_eq_true.1 tab_all n (List.mem_range.2 h)
  unfold tabOk at this
  cases hc : tab8[n]? with
  | none => rw [hc] at this; cases this
  | some c => rw [hc] at this; exact ⟨c, rfl, by simpa using this⟩
theorem bits_shift {n : Nat} (h : 256 ≤ n) : Sort.bitsLen n = 8 + Sort.bitsLen (n / 256) := by
  unfold Sort.bitsLen
  have h1 : n ≠ 0 := by omega
  have h2 : n / 256 ≠ 0 := by omega
  rw [if_neg h1, if_neg h2]
  have h3 := (Nat.log2_eq_iff h2 (k := (n / 256).log2)).1 rfl
  have h4 : n.log2 = (n / 256).log2 + 8 := by
    refine (Nat.log2_eq_iff h1).2 ⟨?_, ?_⟩
    · rw [Nat.pow_add]; omega
    · rw [Nat.pow_succ] at h3
      rw [Nat.pow_succ, Nat.pow_add]; omega
  omega
theorem bits_le {n : Nat} (h : n < 65536) : Sort.bitsLen n ≤ 16 := by
  unfold Sort.bitsLen
  split
  · omega
  · rename_i h0
    have : n.log2 < 16 := (Nat.log2_lt h0).2 (by simpa using h)
    omega
theorem shr_nat {n : Nat} : bin .shr (.int .u64 (n : Nat)) (.int .u64 8) = some (.int .u64 ((n / 256 : Nat) : Int)) := by
  show (if (8 : Int) < 0 then none else some (PV.int .u64 ((n : Int).fdiv (2 ^ (Int.toNat 8))))) = _
  rw [if_neg (by decide), Int.fdiv_eq_ediv_of_nonneg _ (by decide)]
  rfl
theorem len64_vc {n : Nat} (hn : n < 65536) : VC Try.prog 69 [.int .u64 n] [] (.int .i64 (Sort.bitsLen n)) [] := by
  refine vc_of vf69 ?_ (Nat.le_of_ble_eq_true rfl) (by intro vs h; cases h)
  by_cases h : n < 256
  · obtain ⟨c, hc, hcl⟩ := tab_get h
    have hc' : tab8[(n : Int).toNat]? = some c := hc
    have hcu : IntKind.u8.wrap (n : Int) = n := by unfold IntKind.wrap; simp [IntKind.bits, IntKind.signed]; omega
    have hci : IntKind.i64.wrap (c.toNat : Int) = c.toNat := wrap64 (by omega) (by have := c.toNat_lt; omega)
    have hcb : c.toNat < 256 := c.toNat_lt
    repeat first | refine o_copy ?_ | refine nl ?_ | refine ct_seq ?_ | refine rg ?_ | refine ct_block ?_ | refine bq ?_ | refine o_indexS ?_ | refine o_add ?_ | refine o_cat ?_ | refine o_bin ?_
    refine cndf (ct_skip ?_) rfl (decide_eq_false (by omega))
    repeat first | refine o_copy ?_ | refine nl ?_ | refine ct_seq ?_ | refine rg ?_ | refine ct_block ?_ | refine bq ?_ | refine o_indexS ?_ | refine o_add ?_ | refine o_cat ?_ | refine o_bin ?_
    refine cndf (ct_skip ?_) rfl (decide_eq_false (by omega))
    repeat first | refine o_copy ?_ | refine nl ?_ | refine ct_seq ?_ | refine rg ?_ | refine ct_block ?_ | refine bq ?_ | refine o_indexS ?_ | refine o_add ?_ | refine o_cat ?_ | refine o_bin ?_
    refine cndf (ct_skip ?_) rfl (decide_eq_false (by omega))
    repeat first | refine o_copy ?_ | refine nl ?_ | refine ct_seq ?_ | refine rg ?_ | refine ct_block ?_ | refine bq ?_ | refine o_convE ?_ | refine o_indexS ?_ | refine o_add ?_ | refine o_cat ?_ | refine o_bin ?_
    refine ct_ret ⟨.inr rfl, oI ?_⟩
    rw [hcl]; omega
  · obtain ⟨c, hc, hcl⟩ := tab_get (n := n / 256) (by omega)
    have hc' : tab8[((n / 256 : Nat) : Int).toNat]? = some c := hc
    have hcu : IntKind.u8.wrap ((n / 256 : Nat) : Int) = ((n / 256 : Nat) : Int) := by unfold IntKind.wrap; simp [IntKind.bits, IntKind.signed]; omega
    have hci : IntKind.i64.wrap (c.toNat : Int) = c.toNat := wrap64 (by omega) (by have := c.toNat_lt; omega)
    have hcb : c.toNat < 256 := c.toNat_lt
    have hb := bits_shift (n := n) (by omega)
    repeat first | refine o_copy ?_ | refine nl ?_ | refine ct_seq ?_ | refine rg ?_ | refine ct_block ?_ | refine bq ?_ | refine o_indexS ?_ | refine o_add ?_ | refine o_cat ?_ | refine o_bin ?_
    refine cndf (ct_skip ?_) rfl (decide_eq_false (by omega))
    repeat first | refine o_copy ?_ | refine nl ?_ | refine ct_seq ?_ | refine rg ?_ | refine ct_block ?_ | refine bq ?_ | refine o_indexS ?_ | refine o_add ?_ | refine o_cat ?_ | refine o_bin ?_
    refine cndf (ct_skip ?_) rfl (decide_eq_false (by omega))
    repeat first | refine o_copy ?_ | refine nl ?_ | refine ct_seq ?_ | refine rg ?_ | refine ct_block ?_ | refine bq ?_ | refine o_indexS ?_ | refine o_add ?_ | refine o_cat ?_ | refine o_bin ?_
    refine cndt ?_ rfl (decide_eq_true (by omega))
    repeat first | refine o_copy ?_ | refine nl ?_ | refine ct_seq ?_ | refine rg ?_ | refine ct_block ?_ | refine bq ?_ | refine o_binE shr_nat ?_ | refine o_convE ?_ | refine o_indexS ?_ | refine o_add ?_ | refine o_cat ?_ | refine o_bin ?_
    refine ct_ret ⟨.inr rfl, oI ?_⟩
    rw [hcl, hb]; omega
theorem len_vc {n : Nat} (hn : n < 65536) : VC Try.prog 56 [.int .u64 n] [] (.int .i64 (Sort.bitsLen n)) [] := by
  refine vc_of vf56 ?_ (Nat.le_of_ble_eq_true rfl) (by intro vs h; cases h)
  repeat first | refine o_copy ?_ | refine nl ?_ | refine ct_seq ?_ | refine rg ?_ | refine ct_block ?_ | refine bq ?_ | 
  refine cndf (ct_skip ?_) rfl rfl
  repeat first | refine o_copy ?_ | refine nl ?_ | refine ct_seq ?_ | refine rg ?_ | refine ct_block ?_ | refine bq ?_ | refine cv0 (len64_vc hn) ?_ | 
  exact ct_ret ⟨.inr rfl, oI rfl⟩
theorem shl_one {k : Nat} (hk : k ≤ 16) : bin .shl (.int .u64 1) (.int .i64 k) = some (.int .u64 ((1 <<< k : Nat) : Int)) := by
  show (if (k : Int) < 0 then none else some (PV.int .u64 (IntKind.u64.wrap (1 * 2 ^ (min (Int.toNat k) 64))))) = _
  rw [if_neg (by omega)]
  have h1 : min (Int.toNat k) 64 = k := by omega
  have h2 : 2 ^ k ≤ 2 ^ 16 := Nat.pow_le_pow_right (by decide) hk
  rw [h1, Nat.one_shiftLeft]
  have h3 : (1 : Int) * 2 ^ k = ((2 ^ k : Nat) : Int) := by simp
  rw [h3]
  have : IntKind.u64.wrap ((2 ^ k : Nat) : Int) = ((2 ^ k : Nat) : Int) := by
    unfold IntKind.wrap
    have h4 : 2 ^ k < 2 ^ 64 := by omega
    generalize 2 ^ k = x at h4
    simp [IntKind.bits, IntKind.signed]
    omega
  rw [this]
theorem npow_vc {n : Nat} (hn : n < 65536) : VC Try.prog 71 [.int .i64 n] [] (.int .u64 ((1 <<< Sort.bitsLen n : Nat) : Int)) [] := by
  refine vc_of vf71 ?_ (Nat.le_of_ble_eq_true rfl) (by intro vs h; cases h)
  have hcu : IntKind.u64.wrap (n : Int) = n := by unfold IntKind.wrap; simp [IntKind.bits, IntKind.signed]; omega
  have hs := shl_one (bits_le hn)
  repeat first | refine o_copy ?_ | refine nl ?_ | refine ct_seq ?_ | refine rg ?_ | refine ct_block ?_ | refine bq ?_ | refine o_convE ?_ | refine cv0 (len_vc hn) ?_ | refine o_binE hs ?_ | refine o_bin ?_
  exact ct_ret ⟨.inr rfl, oI rfl⟩
/-! The random numbers -/
theorem ofInt64 (r : UInt64) : BitVec.ofInt 64 (r.toNat : Int) = r.toBitVec := by
  apply BitVec.eq_of_toNat_eq
  rw [BitVec.toNat_ofInt]
  have := r.toNat_lt
  have h : (r.toNat : Int) % ((2 ^ 64 : Nat) : Int) = (r.toNat : Int) := Int.emod_eq_of_lt (by omega) (by omega)
  rw [h]; rfl
theorem wrapU64 {n : Nat} (h : n < 18446744073709551616) : IntKind.u64.wrap (n : Int) = n := by
  unfold IntKind.wrap; simp [IntKind.bits, IntKind.signed]; omega
theorem xor_u64 (r s : UInt64) : bin .xor (.int .u64 r.toNat) (.int .u64 s.toNat) = some (.int .u64 (r ^^^ s).toNat) := by
  show some (PV.int .u64 (IntKind.u64.wrap (BitVec.ofInt 64 r.toNat ^^^ BitVec.ofInt 64 s.toNat).toNat)) = _
  rw [ofInt64, ofInt64, wrapU64 (BitVec.isLt _)]
  rfl
theorem shl_u64 (r : UInt64) (k : UInt64) (hk : k.toNat < 64) : bin .shl (.int .u64 r.toNat) (.int .u64 k.toNat) = some (.int .u64 (r <<< k).toNat) := by
  show (if ((k.toNat : Nat) : Int) < 0 then none else some (PV.int .u64 (IntKind.u64.wrap ((r.toNat : Int) * 2 ^ (min (Int.toNat k.toNat) 64))))) = _
  rw [if_neg (by omega)]
  have h1 : min (Int.toNat k.toNat) 64 = k.toNat := by omega
  have h2 : (r.toNat : Int) * 2 ^ k.toNat = ((r.toNat * 2 ^ k.toNat : Nat) : Int) := by simp
  rw [h1, h2]
  have h3 : IntKind.u64.wrap ((r.toNat * 2 ^ k.toNat : Nat) : Int) = ((r <<< k).toNat : Int) := by
    rw [UInt64.toNat_shiftLeft, Nat.mod_eq_of_lt hk, Nat.shiftLeft_eq]
    unfold IntKind.wrap; simp [IntKind.bits, IntKind.signed]
  rw [h3]
theorem shr_u64 (r : UInt64) (k : UInt64) (hk : k.toNat < 64) : bin .shr (.int .u64 r.toNat) (.int .u64 k.toNat) = some (.int .u64 (r >>> k).toNat) := by
  show (if ((k.toNat : Nat) : Int) < 0 then none else some (PV.int .u64 ((r.toNat : Int).fdiv (2 ^ (min (Int.toNat k.toNat) 64))))) = _
  rw [if_neg (by omega)]
  have h1 : min (Int.toNat k.toNat) 64 = k.toNat := by omega
  rw [h1]
  have h3 : (r.toNat : Int).fdiv (2 ^ k.toNat) = ((r >>> k).toNat : Int) := by
    rw [UInt64.toNat_shiftRight, Nat.mod_eq_of_lt hk, Nat.shiftRight_eq_div_pow, Int.fdiv_eq_ediv_of_nonneg _ (Int.pow_nonneg (by decide))]
    simp
  rw [h3]
theorem next_vc (r : UInt64) : VC Try.prog 72 [.ptr ⟨0, 0⟩ 1 0 0] [⟨true, false, 1, [[.int .u64 r.toNat]]⟩] (.int .u64 (Sort.xorNext r).toNat) [⟨true, false, 1, [[.int .u64 (Sort.xorNext r).toNat]]⟩] := by
  refine vc_of vf72 ?_ (Nat.le_of_ble_eq_true rfl) (by intro vs h; cases h)
  have a1 := shl_u64 r 13 (by decide)
  have a2 := xor_u64 r (r <<< 13)
  have a3 := shr_u64 (r ^^^ (r <<< 13)) 7 (by decide)
  have a4 := xor_u64 (r ^^^ (r <<< 13)) ((r ^^^ (r <<< 13)) >>> 7)
  have a5 := shl_u64 ((r ^^^ (r <<< 13)) ^^^ ((r ^^^ (r <<< 13)) >>> 7)) 17 (by decide)
  have a6 := xor_u64 ((r ^^^ (r <<< 13)) ^^^ ((r ^^^ (r <<< 13)) >>> 7)) (((r ^^^ (r <<< 13)) ^^^ ((r ^^^ (r <<< 13)) >>> 7)) <<< 17)
  repeat first | refine o_copy ?_ | refine nl ?_ | refine ct_seq ?_ | refine rg ?_ | refine ct_block ?_ | refine bq ?_ | refine o_binE a1 ?_ | refine o_binE a2 ?_ | refine o_binE a3 ?_ | refine o_binE a4 ?_ | refine o_binE a5 ?_ | refine o_binE a6 ?_ | refine o_loads ?_ | refine o_loadp ?_ | refine o_bin ?_ | refine o_store ?_ | refine o_nilc ?_
  exact ct_ret ⟨.inr rfl, oX1 rfl⟩
end Go.Proofs
open Go.V Go.Pu
set_option linter.unusedVariables false
set_option linter.unusedSimpArgs false
set_option maxRecDepth 20000
namespace Go.Proofs
/-- slices.breakPatternsCmpFunc[downspout/api.Span] -/
def vc62 : VCode :=
 (.seq
 (.region 0 false [
 ⟨(some 13), .copy (.t 2), none, 0, []⟩,
 ⟨(some 14), .copy (.t 1), none, 8, []⟩,
 ⟨(some 15), .bin .sub (.t 13) (.t 14), none, 16, [0, 1]⟩,
 ⟨(some 8), .copy (.t 15), none, 24, [2, 0, 1]⟩])
 (.seq
 (.region 1 false [
 ⟨(some 16), .copy (.t 8), none, 8192, []⟩,
 ⟨(some 17), .bin .geq (.t 16) (.c (.int .i64 8)), none, 8200, [0]⟩])
 (.cond (.t 17)
 (.seq
 (.region 2 false [
 ⟨(some 18), .copy (.t 8), none, 16384, []⟩,
 ⟨(some 19), .conv .u64 (.t 18), none, 16392, [0]⟩,
 ⟨(some 9), .alloc [(.int .u64 0)], none, 16400, []⟩,
 ⟨none, .store 1 (.t 9) (.t 19), none, 16408, [2, 1, 0]⟩])
 (.seq
 (.region 3 false [
 ⟨(some 20), .copy (.t 8), none, 24576, []⟩,
 ⟨(some 21), .call (.c (.fn 71 [])) [(.t 20)], none, 24584, [0]⟩,
 ⟨(some 10), .copy (.t 21), none, 24592, [1, 0]⟩])
 (.seq
 (.region 4 false [
 ⟨(some 22), .copy (.t 1), none, 32768, []⟩,
 ⟨(some 23), .copy (.t 8), none, 32776, []⟩,
 ⟨(some 24), .bin .quo (.t 23) (.c (.int .i64 4)), none, 32784, [1]⟩,
 ⟨(some 25), .bin .mul (.t 24) (.c (.int .i64 2)), none, 32792, [2, 1]⟩,
 ⟨(some 26), .bin .add (.t 22) (.t 25), none, 32800, [0, 3, 2, 1]⟩,
 ⟨(some 27), .bin .sub (.t 26) (.c (.int .i64 1)), none, 32808, [4, 0, 3, 2, 1]⟩,
 ⟨(some 11), .copy (.t 27), none, 32816, [5, 4, 0, 3, 2, 1]⟩])
 (.block 0
 (.loop
 (.seq
 (.seq
 (.region 5 false [
 ⟨(some 28), .copy (.t 11), none, 40960, []⟩,
 ⟨(some 29), .copy (.t 1), none, 40968, []⟩,
 ⟨(some 30), .copy (.t 8), none, 40976, []⟩,
 ⟨(some 31), .bin .quo (.t 30) (.c (.int .i64 4)), none, 40984, [2]⟩,
 ⟨(some 32), .bin .mul (.t 31) (.c (.int .i64 2)), none, 40992, [3, 2]⟩,
 ⟨(some 33), .bin .add (.t 29) (.t 32), none, 41000, [1, 4, 3, 2]⟩,
 ⟨(some 34), .bin .add (.t 33) (.c (.int .i64 1)), none, 41008, [5, 1, 4, 3, 2]⟩,
 ⟨(some 35), .bin .leq (.t 28) (.t 34), none, 41016, [0, 6, 5, 1, 4, 3, 2]⟩])
 (.cond (.t 35)
 .skip
 (.exit 0)))
 (.seq
 (.block 1
 (.seq
 (.region 7 false [
 ⟨(some 38), .call (.c (.fn 72 [])) [(.t 9)], none, 57344, []⟩,
 ⟨(some 39), .copy (.t 10), none, 57352, []⟩,
 ⟨(some 40), .bin .sub (.t 39) (.c (.int .u64 1)), none, 57360, [1]⟩,
 ⟨(some 41), .bin .and (.t 38) (.t 40), none, 57368, [0, 2, 1]⟩,
 ⟨(some 42), .conv .i64 (.t 41), none, 57376, [3, 0, 2, 1]⟩,
 ⟨(some 12), .copy (.t 42), none, 57384, [4, 3, 0, 2, 1]⟩])
 (.seq
 (.seq
 (.region 8 false [
 ⟨(some 43), .copy (.t 12), none, 65536, []⟩,
 ⟨(some 44), .copy (.t 8), none, 65544, []⟩,
 ⟨(some 45), .bin .geq (.t 43) (.t 44), none, 65552, [0, 1]⟩])
 (.cond (.t 45)
 (.region 9 false [
 ⟨(some 46), .copy (.t 12), none, 73728, []⟩,
 ⟨(some 47), .copy (.t 8), none, 73736, []⟩,
 ⟨(some 48), .bin .sub (.t 46) (.t 47), none, 73744, [0, 1]⟩,
 ⟨(some 12), .copy (.t 48), none, 73752, [2, 0, 1]⟩])
 .skip))
 (.region 10 true [
 ⟨(some 49), .copy (.t 0), none, 81920, []⟩,
 ⟨(some 50), .copy (.t 11), none, 81928, []⟩,
 ⟨(some 51), .copy (.t 0), none, 81936, []⟩,
 ⟨(some 52), .copy (.t 1), none, 81944, []⟩,
 ⟨(some 53), .copy (.t 12), none, 81952, []⟩,
 ⟨(some 54), .bin .add (.t 52) (.t 53), none, 81960, [3, 4]⟩,
 ⟨(some 55), .copy (.t 0), none, 81968, []⟩,
 ⟨(some 56), .copy (.t 1), none, 81976, []⟩,
 ⟨(some 57), .copy (.t 12), none, 81984, []⟩,
 ⟨(some 58), .bin .add (.t 56) (.t 57), none, 81992, [7, 8]⟩,
 ⟨(some 59), .iaddr 2 (.t 55) (.t 58), none, 82000, [6, 9, 7, 8]⟩,
 ⟨(some 60), .load true 2 (.t 59), none, 82008, [10, 6, 9, 7, 8]⟩,
 ⟨(some 61), .copy (.t 0), none, 82016, []⟩,
 ⟨(some 62), .copy (.t 11), none, 82024, []⟩,
 ⟨(some 63), .iaddr 2 (.t 61) (.t 62), none, 82032, [12, 13]⟩,
 ⟨(some 64), .load true 2 (.t 63), none, 82040, [14, 12, 13]⟩,
 ⟨(some 65), .iaddr 2 (.t 49) (.t 50), none, 82048, [0, 1, 6, 7, 8, 9, 10, 11, 15, 14, 12, 13]⟩,
 ⟨none, .store 2 (.t 65) (.t 60), none, 82056, [16, 0, 1, 6, 7, 8, 9, 10, 11, 15, 14, 12, 13]⟩,
 ⟨(some 66), .iaddr 2 (.t 51) (.t 54), none, 82064, [2, 5, 3, 4, 0, 1, 6, 7, 8, 9, 10, 11, 12, 13, 14, 15, 16, 17]⟩,
 ⟨none, .store 2 (.t 66) (.t 64), none, 82072, [18, 2, 5, 3, 4, 0, 1, 6, 7, 8, 9, 10, 11, 12, 13, 14, 15, 16, 17]⟩]))))
 (.region 6 false [
 ⟨(some 36), .copy (.t 11), none, 49152, []⟩,
 ⟨(some 37), .bin .add (.t 36) (.c (.int .i64 1)), none, 49160, [0]⟩,
 ⟨(some 11), .copy (.t 37), none, 49168, [1, 0]⟩]))))))))
 .skip)))
theorem vf62 : VF Try.prog 62 = some (67, vc62, []) := by kernel_rfl
/-- slices.order2CmpFunc[downspout/api.Span] -/
def vc75 : VCode :=
 (.seq
 (.region 0 false [
 ⟨(some 10), .copy (.c (.int .i64 0)), none, 0, []⟩,
 ⟨(some 11), .copy (.c (.int .i64 0)), none, 8, [0]⟩])
 (.seq
 (.seq
 (.region 1 true [
 ⟨(some 12), .copy (.t 4), none, 8192, []⟩,
 ⟨(some 13), .copy (.t 0), none, 8200, []⟩,
 ⟨(some 14), .copy (.t 2), none, 8208, []⟩,
 ⟨(some 15), .iaddr 2 (.t 13) (.t 14), none, 8216, [1, 2]⟩,
 ⟨(some 16), .load true 2 (.t 15), none, 8224, [3, 1, 2]⟩,
 ⟨(some 17), .copy (.t 0), none, 8232, []⟩,
 ⟨(some 18), .copy (.t 1), none, 8240, []⟩,
 ⟨(some 19), .iaddr 2 (.t 17) (.t 18), none, 8248, [5, 6]⟩,
 ⟨(some 20), .load true 2 (.t 19), none, 8256, [7, 5, 6]⟩,
 ⟨(some 21), .call (.t 12) [(.t 16), (.t 20)], none, 8264, [0, 4, 3, 1, 2, 8, 7, 5, 6]⟩,
 ⟨(some 22), .bin .lss (.t 21) (.c (.int .i64 0)), none, 8272, [9, 0, 4, 3, 1, 2, 8, 7, 5, 6]⟩])
 (.cond (.t 22)
 (.seq
 (.region 2 false [
 ⟨(some 23), .copy (.t 3), none, 16384, []⟩,
 ⟨(some 24), .nilc (.t 23), none, 16392, [0]⟩,
 ⟨(some 25), .load false 1 (.t 24), none, 16400, [1, 0]⟩,
 ⟨(some 26), .bin .add (.t 25) (.c (.int .i64 1)), none, 16408, [2, 1, 0]⟩,
 ⟨(some 27), .nilc (.t 23), none, 16416, [0, 1, 2, 3]⟩,
 ⟨none, .store 1 (.t 27) (.t 26), none, 16424, [4, 0, 1, 2, 3]⟩])
 (.seq
 (.region 3 false [
 ⟨(some 28), .copy (.t 2), none, 24576, []⟩,
 ⟨(some 29), .copy (.t 1), none, 24584, []⟩,
 ⟨(some 10), .copy (.t 28), none, 24592, [0]⟩,
 ⟨(some 11), .copy (.t 29), none, 24600, [1, 2, 0]⟩])
 .ret))
 .skip))
 (.seq
 (.region 4 false [
 ⟨(some 30), .copy (.t 1), none, 32768, []⟩,
 ⟨(some 31), .copy (.t 2), none, 32776, []⟩,
 ⟨(some 10), .copy (.t 30), none, 32784, [0]⟩,
 ⟨(some 11), .copy (.t 31), none, 32792, [1, 2, 0]⟩])
 .ret)))
theorem vf75 : VF Try.prog 75 = some (32, vc75, [.tmp 10, .tmp 11]) := by kernel_rfl
/-- slices.medianCmpFunc[downspout/api.Span] -/
def vc74 : VCode :=
 (.seq
 (.region 0 false [
 ⟨(some 12), .copy (.c (.int .i64 0)), none, 0, []⟩])
 (.seq
 (.region 1 false [
 ⟨(some 14), .copy (.t 0), none, 8192, []⟩,
 ⟨(some 15), .copy (.t 1), none, 8200, []⟩,
 ⟨(some 16), .copy (.t 2), none, 8208, []⟩,
 ⟨(some 17), .copy (.t 4), none, 8216, []⟩,
 ⟨(some 18), .copy (.t 5), none, 8224, []⟩,
 ⟨(some 19), .call (.c (.fn 75 [])) [(.t 14), (.t 15), (.t 16), (.t 17), (.t 18)], none, 8232, [0, 1, 2, 3, 4]⟩,
 ⟨(some 13), .copy (.t 19), none, 8240, [5, 0, 1, 2, 3, 4]⟩,
 ⟨(some 20), .extract (.t 13) 0, none, 8248, [6, 5, 0, 1, 2, 3, 4]⟩,
 ⟨(some 21), .extract (.t 13) 1, none, 8256, [6, 5, 0, 1, 2, 3, 4]⟩,
 ⟨(some 1), .copy (.t 20), none, 8264, [7, 6, 5, 0, 1, 2, 3, 4]⟩,
 ⟨(some 2), .copy (.t 21), none, 8272, [8, 6, 5, 0, 1, 2, 3, 4, 9, 7]⟩])
 (.seq
 (.region 2 false [
 ⟨(some 23), .copy (.t 0), none, 16384, []⟩,
 ⟨(some 24), .copy (.t 2), none, 16392, []⟩,
 ⟨(some 25), .copy (.t 3), none, 16400, []⟩,
 ⟨(some 26), .copy (.t 4), none, 16408, []⟩,
 ⟨(some 27), .copy (.t 5), none, 16416, []⟩,
 ⟨(some 28), .call (.c (.fn 75 [])) [(.t 23), (.t 24), (.t 25), (.t 26), (.t 27)], none, 16424, [0, 1, 2, 3, 4]⟩,
 ⟨(some 22), .copy (.t 28), none, 16432, [5, 0, 1, 2, 3, 4]⟩,
 ⟨(some 29), .extract (.t 22) 0, none, 16440, [6, 5, 0, 1, 2, 3, 4]⟩,
 ⟨(some 30), .extract (.t 22) 1, none, 16448, [6, 5, 0, 1, 2, 3, 4]⟩,
 ⟨(some 2), .copy (.t 29), none, 16456, [7, 6, 5, 0, 1, 2, 3, 4]⟩,
 ⟨(some 3), .copy (.t 30), none, 16464, [8, 6, 5, 0, 1, 2, 3, 4, 9, 7]⟩])
 (.seq
 (.region 3 false [
 ⟨(some 32), .copy (.t 0), none, 24576, []⟩,
 ⟨(some 33), .copy (.t 1), none, 24584, []⟩,
 ⟨(some 34), .copy (.t 2), none, 24592, []⟩,
 ⟨(some 35), .copy (.t 4), none, 24600, []⟩,
 ⟨(some 36), .copy (.t 5), none, 24608, []⟩,
 ⟨(some 37), .call (.c (.fn 75 [])) [(.t 32), (.t 33), (.t 34), (.t 35), (.t 36)], none, 24616, [0, 1, 2, 3, 4]⟩,
 ⟨(some 31), .copy (.t 37), none, 24624, [5, 0, 1, 2, 3, 4]⟩,
 ⟨(some 38), .extract (.t 31) 0, none, 24632, [6, 5, 0, 1, 2, 3, 4]⟩,
 ⟨(some 39), .extract (.t 31) 1, none, 24640, [6, 5, 0, 1, 2, 3, 4]⟩,
 ⟨(some 1), .copy (.t 38), none, 24648, [7, 6, 5, 0, 1, 2, 3, 4]⟩,
 ⟨(some 2), .copy (.t 39), none, 24656, [8, 6, 5, 0, 1, 2, 3, 4, 9, 7]⟩])
 (.seq
 (.region 4 false [
 ⟨(some 40), .copy (.t 2), none, 32768, []⟩,
 ⟨(some 12), .copy (.t 40), none, 32776, [0]⟩])
 .ret)))))
theorem vf74 : VF Try.prog 74 = some (41, vc74, [.tmp 12]) := by kernel_rfl
/-- slices.medianAdjacentCmpFunc[downspout/api.Span] -/
def vc73 : VCode :=
 (.seq
 (.region 0 false [
 ⟨(some 8), .copy (.c (.int .i64 0)), none, 0, []⟩])
 (.seq
 (.region 1 false [
 ⟨(some 9), .copy (.t 0), none, 8192, []⟩,
 ⟨(some 10), .copy (.t 1), none, 8200, []⟩,
 ⟨(some 11), .bin .sub (.t 10) (.c (.int .i64 1)), none, 8208, [1]⟩,
 ⟨(some 12), .copy (.t 1), none, 8216, []⟩,
 ⟨(some 13), .copy (.t 1), none, 8224, []⟩,
 ⟨(some 14), .bin .add (.t 13) (.c (.int .i64 1)), none, 8232, [4]⟩,
 ⟨(some 15), .copy (.t 2), none, 8240, []⟩,
 ⟨(some 16), .copy (.t 3), none, 8248, []⟩,
 ⟨(some 17), .call (.c (.fn 74 [])) [(.t 9), (.t 11), (.t 12), (.t 14), (.t 15), (.t 16)], none, 8256, [0, 2, 1, 3, 5, 4, 6, 7]⟩,
 ⟨(some 8), .copy (.t 17), none, 8264, [8, 0, 2, 1, 3, 5, 4, 6, 7]⟩])
 .ret))
theorem vf73 : VF Try.prog 73 = some (18, vc73, [.tmp 8]) := by kernel_rfl
/-- slices.choosePivotCmpFunc[downspout/api.Span] -/
def vc63 : VCode :=
 (.seq
 (.region 0 false [
 ⟨(some 8), .copy (.c (.int .i64 0)), none, 0, []⟩,
 ⟨(some 9), .copy (.c (.int .i64 0)), none, 8, [0]⟩])
 (.seq
 (.region 1 false [
 ⟨(some 15), .copy (.t 2), none, 8192, []⟩,
 ⟨(some 16), .copy (.t 1), none, 8200, []⟩,
 ⟨(some 17), .bin .sub (.t 15) (.t 16), none, 8208, [0, 1]⟩,
 ⟨(some 10), .copy (.t 17), none, 8216, [2, 0, 1]⟩])
 (.seq
 (.region 2 false [
 ⟨(some 11), .alloc [(.int .i64 0)], none, 16384, []⟩])
 (.seq
 (.region 3 false [
 ⟨(some 18), .copy (.t 1), none, 24576, []⟩,
 ⟨(some 19), .copy (.t 10), none, 24584, []⟩,
 ⟨(some 20), .bin .quo (.t 19) (.c (.int .i64 4)), none, 24592, [1]⟩,
 ⟨(some 21), .bin .mul (.t 20) (.c (.int .i64 1)), none, 24600, [2, 1]⟩,
 ⟨(some 22), .bin .add (.t 18) (.t 21), none, 24608, [0, 3, 2, 1]⟩,
 ⟨(some 12), .copy (.t 22), none, 24616, [4, 0, 3, 2, 1]⟩])
 (.seq
 (.region 4 false [
 ⟨(some 23), .copy (.t 1), none, 32768, []⟩,
 ⟨(some 24), .copy (.t 10), none, 32776, []⟩,
 ⟨(some 25), .bin .quo (.t 24) (.c (.int .i64 4)), none, 32784, [1]⟩,
 ⟨(some 26), .bin .mul (.t 25) (.c (.int .i64 2)), none, 32792, [2, 1]⟩,
 ⟨(some 27), .bin .add (.t 23) (.t 26), none, 32800, [0, 3, 2, 1]⟩,
 ⟨(some 13), .copy (.t 27), none, 32808, [4, 0, 3, 2, 1]⟩])
 (.seq
 (.region 5 false [
 ⟨(some 28), .copy (.t 1), none, 40960, []⟩,
 ⟨(some 29), .copy (.t 10), none, 40968, []⟩,
 ⟨(some 30), .bin .quo (.t 29) (.c (.int .i64 4)), none, 40976, [1]⟩,
 ⟨(some 31), .bin .mul (.t 30) (.c (.int .i64 3)), none, 40984, [2, 1]⟩,
 ⟨(some 32), .bin .add (.t 28) (.t 31), none, 40992, [0, 3, 2, 1]⟩,
 ⟨(some 14), .copy (.t 32), none, 41000, [4, 0, 3, 2, 1]⟩])
 (.seq
 (.seq
 (.region 6 false [
 ⟨(some 33), .copy (.t 10), none, 49152, []⟩,
 ⟨(some 34), .bin .geq (.t 33) (.c (.int .i64 8)), none, 49160, [0]⟩])
 (.cond (.t 34)
 (.seq
 (.seq
 (.region 7 false [
 ⟨(some 35), .copy (.t 10), none, 57344, []⟩,
 ⟨(some 36), .bin .geq (.t 35) (.c (.int .i64 50)), none, 57352, [0]⟩])
 (.cond (.t 36)
 (.seq
 (.region 8 false [
 ⟨(some 37), .copy (.t 0), none, 65536, []⟩,
 ⟨(some 38), .copy (.t 12), none, 65544, []⟩,
 ⟨(some 39), .copy (.t 3), none, 65552, []⟩,
 ⟨(some 40), .call (.c (.fn 73 [])) [(.t 37), (.t 38), (.t 11), (.t 39)], none, 65560, [0, 1, 2]⟩,
 ⟨(some 12), .copy (.t 40), none, 65568, [3, 0, 1, 2]⟩])
 (.seq
 (.region 9 false [
 ⟨(some 41), .copy (.t 0), none, 73728, []⟩,
 ⟨(some 42), .copy (.t 13), none, 73736, []⟩,
 ⟨(some 43), .copy (.t 3), none, 73744, []⟩,
 ⟨(some 44), .call (.c (.fn 73 [])) [(.t 41), (.t 42), (.t 11), (.t 43)], none, 73752, [0, 1, 2]⟩,
 ⟨(some 13), .copy (.t 44), none, 73760, [3, 0, 1, 2]⟩])
 (.region 10 false [
 ⟨(some 45), .copy (.t 0), none, 81920, []⟩,
 ⟨(some 46), .copy (.t 14), none, 81928, []⟩,
 ⟨(some 47), .copy (.t 3), none, 81936, []⟩,
 ⟨(some 48), .call (.c (.fn 73 [])) [(.t 45), (.t 46), (.t 11), (.t 47)], none, 81944, [0, 1, 2]⟩,
 ⟨(some 14), .copy (.t 48), none, 81952, [3, 0, 1, 2]⟩])))
 .skip))
 (.region 11 false [
 ⟨(some 49), .copy (.t 0), none, 90112, []⟩,
 ⟨(some 50), .copy (.t 12), none, 90120, []⟩,
 ⟨(some 51), .copy (.t 13), none, 90128, []⟩,
 ⟨(some 52), .copy (.t 14), none, 90136, []⟩,
 ⟨(some 53), .copy (.t 3), none, 90144, []⟩,
 ⟨(some 54), .call (.c (.fn 74 [])) [(.t 49), (.t 50), (.t 51), (.t 52), (.t 11), (.t 53)], none, 90152, [0, 1, 2, 3, 4]⟩,
 ⟨(some 13), .copy (.t 54), none, 90160, [5, 0, 1, 2, 3, 4]⟩]))
 .skip))
 (.seq
 (.region 12 false [
 ⟨(some 55), .load false 1 (.t 11), none, 98304, []⟩])
 (.block 0
 (.seq
 (.region 14 false [
 ⟨(some 58), .bin .eql (.t 55) (.c (.int .i64 0)), none, 114688, []⟩,
 ⟨(some 57), .copy (.t 58), none, 114696, [0]⟩])
 (.cond (.t 57)
 (.seq
 (.region 15 false [
 ⟨(some 59), .copy (.t 13), none, 122880, []⟩,
 ⟨(some 8), .copy (.t 59), none, 122888, [0]⟩,
 ⟨(some 9), .copy (.c (.int .i64 1)), none, 122896, [1, 0]⟩])
 .ret)
 (.seq
 (.region 16 false [
 ⟨(some 61), .bin .eql (.t 55) (.c (.int .i64 12)), none, 131072, []⟩,
 ⟨(some 60), .copy (.t 61), none, 131080, [0]⟩])
 (.cond (.t 60)
 (.seq
 (.region 17 false [
 ⟨(some 62), .copy (.t 13), none, 139264, []⟩,
 ⟨(some 8), .copy (.t 62), none, 139272, [0]⟩,
 ⟨(some 9), .copy (.c (.int .i64 2)), none, 139280, [1, 0]⟩])
 .ret)
 (.seq
 (.region 13 false [
 ⟨(some 56), .copy (.t 13), none, 106496, []⟩,
 ⟨(some 8), .copy (.t 56), none, 106504, [0]⟩,
 ⟨(some 9), .copy (.c (.int .i64 0)), none, 106512, [1, 0]⟩])
 .ret))))))))))))))
theorem vf63 : VF Try.prog 63 = some (63, vc63, [.tmp 8, .tmp 9]) := by kernel_rfl
/-- slices.reverseRangeCmpFunc[downspout/api.Span] -/
def vc64 : VCode :=
 (.seq
 (.region 0 false [
 ⟨(some 10), .copy (.t 1), none, 0, []⟩,
 ⟨(some 8), .copy (.t 10), none, 8, [0]⟩])
 (.seq
 (.region 1 false [
 ⟨(some 11), .copy (.t 2), none, 8192, []⟩,
 ⟨(some 12), .bin .sub (.t 11) (.c (.int .i64 1)), none, 8200, [0]⟩,
 ⟨(some 9), .copy (.t 12), none, 8208, [1, 0]⟩])
 (.block 0
 (.loop
 (.seq
 (.seq
 (.region 2 false [
 ⟨(some 13), .copy (.t 8), none, 16384, []⟩,
 ⟨(some 14), .copy (.t 9), none, 16392, []⟩,
 ⟨(some 15), .bin .lss (.t 13) (.t 14), none, 16400, [0, 1]⟩])
 (.cond (.t 15)
 .skip
 (.exit 0)))
 (.block 1
 (.seq
 (.region 3 true [
 ⟨(some 16), .copy (.t 0), none, 24576, []⟩,
 ⟨(some 17), .copy (.t 8), none, 24584, []⟩,
 ⟨(some 18), .copy (.t 0), none, 24592, []⟩,
 ⟨(some 19), .copy (.t 9), none, 24600, []⟩,
 ⟨(some 20), .copy (.t 0), none, 24608, []⟩,
 ⟨(some 21), .copy (.t 9), none, 24616, []⟩,
 ⟨(some 22), .iaddr 2 (.t 20) (.t 21), none, 24624, [4, 5]⟩,
 ⟨(some 23), .load true 2 (.t 22), none, 24632, [6, 4, 5]⟩,
 ⟨(some 24), .copy (.t 0), none, 24640, []⟩,
 ⟨(some 25), .copy (.t 8), none, 24648, []⟩,
 ⟨(some 26), .iaddr 2 (.t 24) (.t 25), none, 24656, [8, 9]⟩,
 ⟨(some 27), .load true 2 (.t 26), none, 24664, [10, 8, 9]⟩,
 ⟨(some 28), .iaddr 2 (.t 16) (.t 17), none, 24672, [0, 1, 4, 5, 6, 7, 11, 10, 8, 9]⟩,
 ⟨none, .store 2 (.t 28) (.t 23), none, 24680, [12, 0, 1, 4, 5, 6, 7, 11, 10, 8, 9]⟩,
 ⟨(some 29), .iaddr 2 (.t 18) (.t 19), none, 24688, [2, 3, 0, 1, 4, 5, 6, 7, 8, 9, 10, 11, 12, 13]⟩,
 ⟨none, .store 2 (.t 29) (.t 27), none, 24696, [14, 2, 3, 0, 1, 4, 5, 6, 7, 8, 9, 10, 11, 12, 13]⟩])
 (.seq
 (.region 4 false [
 ⟨(some 30), .copy (.t 8), none, 32768, []⟩,
 ⟨(some 31), .bin .add (.t 30) (.c (.int .i64 1)), none, 32776, [0]⟩,
 ⟨(some 8), .copy (.t 31), none, 32784, [1, 0]⟩])
 (.region 5 false [
 ⟨(some 32), .copy (.t 9), none, 40960, []⟩,
 ⟨(some 33), .bin .sub (.t 32) (.c (.int .i64 1)), none, 40968, [0]⟩,
 ⟨(some 9), .copy (.t 33), none, 40976, [1, 0]⟩])))))))))
theorem vf64 : VF Try.prog 64 = some (34, vc64, []) := by kernel_rfl
/-! The sort: patterns broken, the pivot chosen -/
theorem sub_u64 {m : Nat} (h : 1 ≤ m) (h2 : m < 18446744073709551616) : bin .sub (.int .u64 (m : Nat)) (.int .u64 1) = some (.int .u64 ((m - 1 : Nat) : Int)) := by
  show some (PV.int .u64 (IntKind.u64.wrap ((m : Int) - 1))) = _
  rw [show (m : Int) - 1 = ((m - 1 : Nat) : Int) by omega, wrapU64 (by omega)]
theorem ofInt64n {m : Nat} (h : m < 18446744073709551616) : (BitVec.ofInt 64 (m : Int)).toNat = m := by
  rw [BitVec.toNat_ofInt]
  have h : (m : Int) % ((2 ^ 64 : Nat) : Int) = (m : Int) := Int.emod_eq_of_lt (by omega) (by omega)
  rw [h]; rfl
theorem and_u64 {r m : Nat} (hr : r < 18446744073709551616) (h : m < 18446744073709551616) : bin .and (.int .u64 (r : Nat)) (.int .u64 (m : Nat)) = some (.int .u64 ((r &&& m : Nat) : Int)) := by
  show some (PV.int .u64 (IntKind.u64.wrap (BitVec.ofInt 64 r &&& BitVec.ofInt 64 m).toNat)) = _
  rw [BitVec.toNat_and, ofInt64n hr, ofInt64n h, wrapU64 (Nat.lt_of_le_of_lt Nat.and_le_right h)]
/-- What the rounds leave. -/
def bpIt (d : Array SpanL) (a l m i : Nat) : Nat → UInt64 × Array SpanL
  | 0 => (UInt64.ofNat l, d)
  | k + 1 => Sort.breakStep a l m (bpIt d a l m i k) (i + k)
set_option maxHeartbeats 2000000 in
theorem break_vc {N n : Nat} (xs : List SpanL) (a b : Nat) (hN : xs.length = N) (hab : a ≤ b) (hb : b ≤ n) (hn : n ≤ N) (hm : N ≤ 60000) :
    VC Try.prog 62 [.own ⟨0, 0⟩ N 0 n, .int .i64 a, .int .i64 b, .fn 47 []] [blkV 2 (xs.map encS)] (.tup []) (srt (Sort.breakPatterns xs.toArray a b)) := by
  refine vc_of vf62 ?_ (Nat.le_of_ble_eq_true rfl) (by intro vs h; cases h; simp)
  by_cases h8 : b - a ≥ 8
  case neg =>
    repeat first | refine o_copy ?_ | refine nl ?_ | refine ct_seq ?_ | refine rg ?_ | refine ct_block ?_ | refine bq ?_ | refine o_iaddr ?_ | refine o_iaddrO ?_ | refine o_iaddrR ?_ | refine o_add ?_ | refine o_sub ?_ | refine o_mul ?_ | refine o_cat ?_ | refine o_bin ?_ | refine o_loadsA ?_ | refine o_loadpA ?_ | refine o_alloc ?_ | refine o_store ?_
    refine cndf (ct_skip ?_) rfl (decide_eq_false (by omega))
    refine ⟨.inl rfl, oL1 ?_⟩
    unfold Sort.breakPatterns
    simp only
    rw [if_neg h8]
  have hh : (b : Int) - a = ((b - a : Nat) : Int) := by omega
  have hcu : IntKind.u64.wrap ((b : Int) - a) = ((UInt64.ofNat (b - a)).toNat : Int) := by
    rw [hh, wrapU64 (by omega), UInt64.toNat_ofNat']
    omega
  have hq := quo_nat (k := .i64) (n := b - a) (m := 4) (z := (b : Int) - a) (by omega) (by omega) (wrap64 (by omega) (by omega))
  have hc := npow_vc (n := b - a) (by omega)
  rw [← hh] at hc
  have hp := Sort.two_pow_bitsLen_le (n := b - a) (by omega)
  rw [← Nat.one_shiftLeft] at hp
  have hpos : 0 < 1 <<< Sort.bitsLen (b - a) := by rw [Nat.one_shiftLeft]; exact Nat.two_pow_pos _
  have htar : Sort.breakPatterns xs.toArray a b = (bpIt xs.toArray a (b - a) (1 <<< Sort.bitsLen (b - a)) (a + (b - a) / 4 * 2 - 1) 3).2 := by
    unfold Sort.breakPatterns
    simp only
    rw [if_pos h8]
    rfl
  rw [htar]
  generalize 1 <<< Sort.bitsLen (b - a) = M at hc hp hpos
  repeat first | refine o_copy ?_ | refine nl ?_ | refine ct_seq ?_ | refine rg ?_ | refine ct_block ?_ | refine bq ?_ | refine o_iaddr ?_ | refine o_iaddrO ?_ | refine o_iaddrR ?_ | refine o_add ?_ | refine o_sub ?_ | refine o_mul ?_ | refine o_cat ?_ | refine o_bin ?_ | refine o_loadsA ?_ | refine o_loadpA ?_ | refine o_alloc ?_ | refine o_store ?_
  refine cndt ?_ rfl (decide_eq_true (by omega))
  repeat first | refine o_copy ?_ | refine nl ?_ | refine ct_seq ?_ | refine rg ?_ | refine ct_block ?_ | refine bq ?_ | refine o_convE ?_ | refine cv0 hc ?_ | refine o_binE hq ?_ | refine o_iaddr ?_ | refine o_iaddrO ?_ | refine o_iaddrR ?_ | refine o_add ?_ | refine o_sub ?_ | refine o_mul ?_ | refine o_cat ?_ | refine o_bin ?_ | refine o_loadsA ?_ | refine o_loadpA ?_ | refine o_alloc ?_ | refine o_store ?_
  refine ct_loopG (fun (g : Nat × UInt64 × List SpanL) => [(0, .own ⟨0, 0⟩ N 0 n), (1, .int .i64 a), (8, .int .i64 ((b : Int) - a)), (9, .ptr ⟨1, 16400⟩ 1 0 0), (10, .int .u64 (M : Nat)), (11, .int .i64 ((a : Int) + (((b - a) / 4 : Nat) : Int) * 2 - 1 + (g.1 : Nat)))])
    (fun g => [(⟨0, 0⟩, blkV 2 (g.2.2.map encS)), (⟨1, 16400⟩, ⟨true, false, 1, [[.int .u64 g.2.1.toNat]]⟩)]) (fun g => 3 - g.1)
    (fun g => g.1 ≤ 3 ∧ g.2.2.length = N ∧ (g.2.1, g.2.2.toArray) = bpIt xs.toArray a (b - a) M (a + (b - a) / 4 * 2 - 1) g.1) (0, UInt64.ofNat (b - a), xs)
    (goes (h1 := by refine ⟨rfl, rfl, rfl, rfl, rfl, congrArg (fun z => some (PV.int .i64 z)) (by omega), trivial⟩)) ⟨by omega, hN, rfl⟩ ?_
  rintro ⟨k, r, ys⟩ ⟨hk, hyl, hv⟩
  dsimp only at hk hyl hv ⊢
  repeat first | refine o_copy ?_ | refine nl ?_ | refine ct_seq ?_ | refine rg ?_ | refine ct_block ?_ | refine bq ?_ | refine o_binE hq ?_ | refine o_iaddr ?_ | refine o_iaddrO ?_ | refine o_iaddrR ?_ | refine o_add ?_ | refine o_sub ?_ | refine o_mul ?_ | refine o_cat ?_ | refine o_bin ?_ | refine o_loadsA ?_ | refine o_loadpA ?_ | refine o_alloc ?_ | refine o_store ?_
  by_cases hk3 : k < 3
  · refine cndt (ct_skip ?_) rfl (decide_eq_true (by omega))
    have b1 := sub_u64 (m := M) hpos (by omega)
    have b2 := and_u64 (r := (Sort.xorNext r).toNat) (m := M - 1) (Sort.xorNext r).toNat_lt (by omega)
    have hle : (Sort.xorNext r).toNat &&& (M - 1) ≤ M - 1 := Nat.and_le_right
    have hstep : bpIt xs.toArray a (b - a) M (a + (b - a) / 4 * 2 - 1) (k + 1) = (Sort.xorNext r, Sort.swp ys.toArray (a + (b - a) / 4 * 2 - 1 + k) (a + if (Sort.xorNext r).toNat &&& (M - 1) ≥ b - a then ((Sort.xorNext r).toNat &&& (M - 1)) - (b - a) else (Sort.xorNext r).toNat &&& (M - 1))) := by
      rw [bpIt, ← hv]; rfl
    generalize (Sort.xorNext r).toNat &&& (M - 1) = o at hle b2 hstep
    have hci : IntKind.i64.wrap (o : Int) = o := wrap64 (by omega) (by omega)
    repeat first | refine o_copy ?_ | refine nl ?_ | refine ct_seq ?_ | refine rg ?_ | refine ct_block ?_ | refine bq ?_ | refine cl (lent := [⟨1, 16400⟩]) (next_vc r) ?_ | refine o_binE b1 ?_ | refine o_binE b2 ?_ | refine o_convE ?_ | refine o_iaddr ?_ | refine o_iaddrO ?_ | refine o_iaddrR ?_ | refine o_add ?_ | refine o_sub ?_ | refine o_mul ?_ | refine o_cat ?_ | refine o_bin ?_ | refine o_loadsA ?_ | refine o_loadpA ?_ | refine o_alloc ?_ | refine o_store ?_
    have hk1 : 0 + ((a : Int) + (((b - a) / 4 : Nat) : Int) * 2 - 1 + (k : Nat)).toNat = a + (b - a) / 4 * 2 - 1 + k := by omega
    obtain ⟨x, hx⟩ : ∃ x, ys[a + (b - a) / 4 * 2 - 1 + k]? = some x := ⟨_, List.getElem?_eq_getElem (by omega)⟩
    have hx' := els_at hx hk1
    by_cases ho : o ≥ b - a
    · obtain ⟨y, hy⟩ : ∃ y, ys[a + (o - (b - a))]? = some y := ⟨_, List.getElem?_eq_getElem (by omega)⟩
      have hk2 : 0 + ((a : Int) + ((o : Int) - ((b : Int) - a))).toNat = a + (o - (b - a)) := by omega
      have hy' := els_at hy hk2
      rw [if_pos ho, swp_eq hx hy, ← hk1, ← hk2] at hstep
      refine cndt ?_ rfl (decide_eq_true (by omega))
      repeat first | refine o_copy ?_ | refine nl ?_ | refine ct_seq ?_ | refine rg ?_ | refine ct_block ?_ | refine bq ?_ | refine o_iaddrG ?_ | refine o_v (vst encS y) ?_ | refine o_v (vst encS x) ?_ | refine o_iaddr ?_ | refine o_iaddrO ?_ | refine o_iaddrR ?_ | refine o_add ?_ | refine o_sub ?_ | refine o_mul ?_ | refine o_cat ?_ | refine o_bin ?_ | refine o_loadsA ?_ | refine o_loadpA ?_ | refine o_alloc ?_ | refine o_store ?_
      exact agn (k + 1, Sort.xorNext r, _) ⟨by simp only; omega, by simpa only [List.length_set] using hyl, hstep.symm⟩
        (goes (h1 := by refine ⟨rfl, rfl, rfl, rfl, rfl, congrArg (fun z => some (PV.int .i64 z)) (by omega), trivial⟩))
    · obtain ⟨y, hy⟩ : ∃ y, ys[a + o]? = some y := ⟨_, List.getElem?_eq_getElem (by omega)⟩
      have hk2 : 0 + ((a : Int) + (o : Int)).toNat = a + o := by omega
      have hy' := els_at hy hk2
      rw [if_neg ho, swp_eq hx hy, ← hk1, ← hk2] at hstep
      refine cndf (ct_skip ?_) rfl (decide_eq_false (by omega))
      repeat first | refine o_copy ?_ | refine nl ?_ | refine ct_seq ?_ | refine rg ?_ | refine ct_block ?_ | refine bq ?_ | refine o_iaddrG ?_ | refine o_v (vst encS y) ?_ | refine o_v (vst encS x) ?_ | refine o_iaddr ?_ | refine o_iaddrO ?_ | refine o_iaddrR ?_ | refine o_add ?_ | refine o_sub ?_ | refine o_mul ?_ | refine o_cat ?_ | refine o_bin ?_ | refine o_loadsA ?_ | refine o_loadpA ?_ | refine o_alloc ?_ | refine o_store ?_
      exact agn (k + 1, Sort.xorNext r, _) ⟨by simp only; omega, by simpa only [List.length_set] using hyl, hstep.symm⟩
        (goes (h1 := by refine ⟨rfl, rfl, rfl, rfl, rfl, congrArg (fun z => some (PV.int .i64 z)) (by omega), trivial⟩))
  · obtain rfl : k = 3 := by omega
    refine cndf (ct_exit ?_) rfl (decide_eq_false (by omega))
    exact ⟨.inl rfl, oL1 (by rw [← hv])⟩
abbrev bxI (s : Nat) : Blk := ⟨true, false, 1, [[.int .i64 (s : Nat)]]⟩
theorem order2_vc {N n : Nat} (xs : List SpanL) (a b s : Nat) (hN : xs.length = N) (ha : a < n) (hb : b < n) (hn : n ≤ N) (hm : N ≤ 60000) (hs : s ≤ 1000) :
    VC Try.prog 75 [.own ⟨0, 0⟩ N 0 n, .int .i64 a, .int .i64 b, .ptr ⟨0, 1⟩ 1 0 0, .fn 47 []] [blkV 2 (xs.map encS), bxI s]
      (.tup [.int .i64 (Sort.order2 ltS xs.toArray a b s).1, .int .i64 (Sort.order2 ltS xs.toArray a b s).2.1]) [blkV 2 (xs.map encS), bxI (Sort.order2 ltS xs.toArray a b s).2.2] := by
  refine vc_of vf75 ?_ (Nat.le_of_ble_eq_true rfl) (by intro vs h; cases h; simp)
  obtain ⟨x, hx⟩ : ∃ x, xs[b]? = some x := ⟨_, List.getElem?_eq_getElem (by omega)⟩
  obtain ⟨y, hy⟩ : ∃ y, xs[a]? = some y := ⟨_, List.getElem?_eq_getElem (by omega)⟩
  have hx' := els_at (k := 0 + (b : Int).toNat) hx (by omega)
  have hy' := els_at (k := 0 + (a : Int).toNat) hy (by omega)
  have hr : Sort.order2 ltS xs.toArray a b s = if ltS x y = true then (b, a, s + 1) else (a, b, s) := by unfold Sort.order2; rw [gb hx, gb hy]
  repeat first | refine o_copy ?_ | refine nl ?_ | refine ct_seq ?_ | refine rg ?_ | refine ct_block ?_ | refine bq ?_ | refine o_iaddrG ?_ | refine cv0 (cmpf_vc x y) ?_ | refine o_loads ?_ | refine o_loadp ?_ | refine o_iaddr ?_ | refine o_iaddrO ?_ | refine o_iaddrR ?_ | refine o_add ?_ | refine o_cat ?_ | refine o_bin ?_ | refine o_loadsA ?_ | refine o_loadpA ?_ | refine o_store ?_ | refine o_nilc ?_
  refine cnd (fun h => ?_) (fun h => ct_skip ?_)
  · rw [hr, if_pos (show ltS x y = true from h)]
    repeat first | refine o_copy ?_ | refine nl ?_ | refine ct_seq ?_ | refine rg ?_ | refine ct_block ?_ | refine bq ?_ | refine o_loads ?_ | refine o_loadp ?_ | refine o_iaddr ?_ | refine o_iaddrO ?_ | refine o_iaddrR ?_ | refine o_add ?_ | refine o_cat ?_ | refine o_bin ?_ | refine o_loadsA ?_ | refine o_loadpA ?_ | refine o_store ?_ | refine o_nilc ?_
    exact ct_ret ⟨.inr rfl, oX2 rfl rfl⟩
  · rw [hr, if_neg (show ¬ ltS x y = true by simpa [ltS] using h)]
    repeat first | refine o_copy ?_ | refine nl ?_ | refine ct_seq ?_ | refine rg ?_ | refine ct_block ?_ | refine bq ?_ | refine o_loads ?_ | refine o_loadp ?_ | refine o_iaddr ?_ | refine o_iaddrO ?_ | refine o_iaddrR ?_ | refine o_add ?_ | refine o_cat ?_ | refine o_bin ?_ | refine o_loadsA ?_ | refine o_loadpA ?_ | refine o_store ?_ | refine o_nilc ?_
    exact ct_ret ⟨.inr rfl, oX2 rfl rfl⟩
theorem order2_bd {α : Type} [Inhabited α] {lt : α → α → Bool} {d : Array α} {a b s n : Nat} (ha : a < n) (hb : b < n) : (Sort.order2 lt d a b s).1 < n ∧ (Sort.order2 lt d a b s).2.1 < n ∧ (Sort.order2 lt d a b s).2.2 ≤ s + 1 := by
  unfold Sort.order2
  split <;> (simp; omega)
theorem median_vc {N n : Nat} (xs : List SpanL) (a b c s : Nat) (hN : xs.length = N) (ha : a < n) (hb : b < n) (hc : c < n) (hn : n ≤ N) (hm : N ≤ 60000) (hs : s ≤ 900) :
    VC Try.prog 74 [.own ⟨0, 0⟩ N 0 n, .int .i64 a, .int .i64 b, .int .i64 c, .ptr ⟨0, 1⟩ 1 0 0, .fn 47 []] [blkV 2 (xs.map encS), bxI s]
      (.int .i64 (Sort.median ltS xs.toArray a b c s).1) [blkV 2 (xs.map encS), bxI (Sort.median ltS xs.toArray a b c s).2] := by
  refine vc_of vf74 ?_ (Nat.le_of_ble_eq_true rfl) (by intro vs h; cases h)
  unfold Sort.median
  simp only
  obtain ⟨b1, b2, b3⟩ := order2_bd (lt := ltS) (d := xs.toArray) (s := s) ha hb
  have v1 := order2_vc xs a b s hN ha hb hn hm (by omega)
  generalize Sort.order2 ltS xs.toArray a b s = r1 at *
  obtain ⟨c1, c2, c3⟩ := order2_bd (lt := ltS) (d := xs.toArray) (s := r1.2.2) b2 hc
  have v2 := order2_vc xs r1.2.1 c r1.2.2 hN b2 hc hn hm (by omega)
  generalize Sort.order2 ltS xs.toArray r1.2.1 c r1.2.2 = r2 at *
  have v3 := order2_vc xs r1.1 r2.1 r2.2.2 hN b1 c1 hn hm (by omega)
  generalize Sort.order2 ltS xs.toArray r1.1 r2.1 r2.2.2 = r3 at *
  repeat first | refine o_copy ?_ | refine nl ?_ | refine ct_seq ?_ | refine rg ?_ | refine ct_block ?_ | refine bq ?_ | refine cl (lent := [⟨0, 0⟩, ⟨0, 1⟩]) v1 ?_ | refine cl (lent := [⟨0, 0⟩, ⟨0, 1⟩]) v2 ?_ | refine cl (lent := [⟨0, 0⟩, ⟨0, 1⟩]) v3 ?_ | refine o_extract ?_
  exact ct_ret ⟨.inr rfl, oX2 rfl rfl⟩
theorem median_bd {α : Type} [Inhabited α] {lt : α → α → Bool} {d : Array α} {a b c s n : Nat} (ha : a < n) (hb : b < n) (hc : c < n) : (Sort.median lt d a b c s).1 < n ∧ (Sort.median lt d a b c s).2 ≤ s + 3 := by
  unfold Sort.median
  simp only
  obtain ⟨b1, b2, b3⟩ := order2_bd (lt := lt) (d := d) (s := s) ha hb
  generalize Sort.order2 lt d a b s = r1 at *
  obtain ⟨c1, c2, c3⟩ := order2_bd (lt := lt) (d := d) (s := r1.2.2) b2 hc
  generalize Sort.order2 lt d r1.2.1 c r1.2.2 = r2 at *
  obtain ⟨d1, d2, d3⟩ := order2_bd (lt := lt) (d := d) (s := r2.2.2) b1 c1
  exact ⟨d2, by omega⟩
theorem medAdj_vc {N n : Nat} (xs : List SpanL) (a s : Nat) (hN : xs.length = N) (h1 : 1 ≤ a) (ha : a + 1 < n) (hn : n ≤ N) (hm : N ≤ 60000) (hs : s ≤ 900) :
    VC Try.prog 73 [.own ⟨0, 0⟩ N 0 n, .int .i64 a, .ptr ⟨0, 1⟩ 1 0 0, .fn 47 []] [blkV 2 (xs.map encS), bxI s]
      (.int .i64 (Sort.medianAdjacent ltS xs.toArray a s).1) [blkV 2 (xs.map encS), bxI (Sort.medianAdjacent ltS xs.toArray a s).2] := by
  refine vc_of vf73 ?_ (Nat.le_of_ble_eq_true rfl) (by intro vs h; cases h)
  unfold Sort.medianAdjacent
  have v1 := median_vc xs (a - 1) a (a + 1) s hN (by omega) (by omega) ha hn hm hs
  rw [show ((a - 1 : Nat) : Int) = (a : Int) - 1 by omega] at v1
  repeat first | refine o_copy ?_ | refine nl ?_ | refine ct_seq ?_ | refine rg ?_ | refine ct_block ?_ | refine bq ?_ | refine cl (lent := [⟨0, 0⟩, ⟨0, 1⟩]) v1 ?_ | refine o_add ?_ | refine o_sub ?_ | refine o_cat ?_ | refine o_bin ?_
  exact ct_ret ⟨.inr rfl, oX2 rfl rfl⟩
def hintI : Sort.Hint → Nat
  | .unknown => 0
  | .increasing => 1
  | .decreasing => 2
set_option maxHeartbeats 1000000 in
theorem choose_vc {N n : Nat} (xs : List SpanL) (a b : Nat) (hN : xs.length = N) (hl : a + 13 ≤ b) (hb : b ≤ n) (hn : n ≤ N) (hm : N ≤ 60000) :
    VC Try.prog 63 [.own ⟨0, 0⟩ N 0 n, .int .i64 a, .int .i64 b, .fn 47 []] [blkV 2 (xs.map encS)]
      (.tup [.int .i64 (Sort.choosePivot ltS xs.toArray a b).1, .int .i64 (hintI (Sort.choosePivot ltS xs.toArray a b).2)]) [blkV 2 (xs.map encS)] := by
  refine vc_of vf63 ?_ (Nat.le_of_ble_eq_true rfl) (by intro vs h; cases h; simp)
  have hq := quo_nat (k := .i64) (n := b - a) (m := 4) (z := (b : Int) - a) (by omega) (by omega) (wrap64 (by omega) (by omega))
  have ei : ((a + (b - a) / 4 * 1 : Nat) : Int) = (a : Int) + (((b - a) / 4 : Nat) : Int) * 1 := by omega
  have ej : ((a + (b - a) / 4 * 2 : Nat) : Int) = (a : Int) + (((b - a) / 4 : Nat) : Int) * 2 := by omega
  have ek : ((a + (b - a) / 4 * 3 : Nat) : Int) = (a : Int) + (((b - a) / 4 : Nat) : Int) * 3 := by omega
  unfold Sort.choosePivot
  simp only
  rw [if_pos (show b - a ≥ 8 by omega)]
  by_cases h50 : b - a ≥ 50
  · rw [if_pos h50]
    have v1 := medAdj_vc xs (a + (b - a) / 4 * 1) 0 hN (by omega) (by omega) hn hm (by omega)
    obtain ⟨b1, b2⟩ := median_bd (lt := ltS) (d := xs.toArray) (s := 0) (a := a + (b - a) / 4 * 1 - 1) (b := a + (b - a) / 4 * 1) (c := a + (b - a) / 4 * 1 + 1) (n := n) (by omega) (by omega) (by omega)
    rw [← Sort.medianAdjacent] at b1 b2
    rw [ei] at v1
    generalize Sort.medianAdjacent ltS xs.toArray (a + (b - a) / 4 * 1) 0 = r1 at *
    have v2 := medAdj_vc xs (a + (b - a) / 4 * 2) r1.2 hN (by omega) (by omega) hn hm (by omega)
    obtain ⟨c1, c2⟩ := median_bd (lt := ltS) (d := xs.toArray) (s := r1.2) (a := a + (b - a) / 4 * 2 - 1) (b := a + (b - a) / 4 * 2) (c := a + (b - a) / 4 * 2 + 1) (n := n) (by omega) (by omega) (by omega)
    rw [← Sort.medianAdjacent] at c1 c2
    rw [ej] at v2
    generalize Sort.medianAdjacent ltS xs.toArray (a + (b - a) / 4 * 2) r1.2 = r2 at *
    have v3 := medAdj_vc xs (a + (b - a) / 4 * 3) r2.2 hN (by omega) (by omega) hn hm (by omega)
    obtain ⟨d1, d2⟩ := median_bd (lt := ltS) (d := xs.toArray) (s := r2.2) (a := a + (b - a) / 4 * 3 - 1) (b := a + (b - a) / 4 * 3) (c := a + (b - a) / 4 * 3 + 1) (n := n) (by omega) (by omega) (by omega)
    rw [← Sort.medianAdjacent] at d1 d2
    rw [ek] at v3
    generalize Sort.medianAdjacent ltS xs.toArray (a + (b - a) / 4 * 3) r2.2 = r3 at *
    have v4 := median_vc xs r1.1 r2.1 r3.1 r3.2 hN b1 c1 d1 hn hm (by omega)
    generalize Sort.median ltS xs.toArray r1.1 r2.1 r3.1 r3.2 = m at *
    repeat first | refine o_copy ?_ | refine nl ?_ | refine ct_seq ?_ | refine rg ?_ | refine ct_block ?_ | refine bq ?_ | refine o_binE hq ?_ | refine o_loads ?_ | refine o_loadp ?_ | refine o_add ?_ | refine o_sub ?_ | refine o_mul ?_ | refine o_cat ?_ | refine o_bin ?_ | refine o_alloc ?_
    refine cndt ?_ rfl (decide_eq_true (by omega))
    repeat first | refine o_copy ?_ | refine nl ?_ | refine ct_seq ?_ | refine rg ?_ | refine ct_block ?_ | refine bq ?_ | refine o_loads ?_ | refine o_loadp ?_ | refine o_add ?_ | refine o_sub ?_ | refine o_mul ?_ | refine o_cat ?_ | refine o_bin ?_ | refine o_alloc ?_
    refine cndt ?_ rfl (decide_eq_true (by omega))
    repeat first | refine o_copy ?_ | refine nl ?_ | refine ct_seq ?_ | refine rg ?_ | refine ct_block ?_ | refine bq ?_ | refine cl (lent := [⟨0, 0⟩, ⟨1, 16384⟩]) v1 ?_ | refine cl (lent := [⟨0, 0⟩, ⟨1, 16384⟩]) v2 ?_ | refine cl (lent := [⟨0, 0⟩, ⟨1, 16384⟩]) v3 ?_ | refine cl (lent := [⟨0, 0⟩, ⟨1, 16384⟩]) v4 ?_ | refine o_loads ?_ | refine o_loadp ?_ | refine o_add ?_ | refine o_sub ?_ | refine o_mul ?_ | refine o_cat ?_ | refine o_bin ?_ | refine o_alloc ?_
    repeat first | refine o_copy ?_ | refine nl ?_ | refine ct_seq ?_ | refine rg ?_ | refine ct_block ?_ | refine bq ?_ | refine o_loads ?_ | refine o_loadp ?_ | refine o_add ?_ | refine o_sub ?_ | refine o_mul ?_ | refine o_cat ?_ | refine o_bin ?_ | refine o_alloc ?_
    by_cases h0 : m.2 = 0
    · refine cndt ?_ rfl (by simp [h0])
      rw [if_pos h0]
      repeat first | refine o_copy ?_ | refine nl ?_ | refine ct_seq ?_ | refine rg ?_ | refine ct_block ?_ | refine bq ?_ | refine o_loads ?_ | refine o_loadp ?_ | refine o_add ?_ | refine o_sub ?_ | refine o_mul ?_ | refine o_cat ?_ | refine o_bin ?_ | refine o_alloc ?_
      exact ct_ret ⟨.inr rfl, oL1 rfl⟩
    · refine cndf ?_ rfl (by simp [h0])
      rw [if_neg h0]
      repeat first | refine o_copy ?_ | refine nl ?_ | refine ct_seq ?_ | refine rg ?_ | refine ct_block ?_ | refine bq ?_ | refine o_loads ?_ | refine o_loadp ?_ | refine o_add ?_ | refine o_sub ?_ | refine o_mul ?_ | refine o_cat ?_ | refine o_bin ?_ | refine o_alloc ?_
      by_cases h12 : m.2 = 12
      · refine cndt ?_ rfl (by simp [h12])
        rw [if_pos h12]
        repeat first | refine o_copy ?_ | refine nl ?_ | refine ct_seq ?_ | refine rg ?_ | refine ct_block ?_ | refine bq ?_ | refine o_loads ?_ | refine o_loadp ?_ | refine o_add ?_ | refine o_sub ?_ | refine o_mul ?_ | refine o_cat ?_ | refine o_bin ?_ | refine o_alloc ?_
        exact ct_ret ⟨.inr rfl, oL1 rfl⟩
      · refine cndf ?_ rfl (by simp; omega)
        rw [if_neg h12]
        repeat first | refine o_copy ?_ | refine nl ?_ | refine ct_seq ?_ | refine rg ?_ | refine ct_block ?_ | refine bq ?_ | refine o_loads ?_ | refine o_loadp ?_ | refine o_add ?_ | refine o_sub ?_ | refine o_mul ?_ | refine o_cat ?_ | refine o_bin ?_ | refine o_alloc ?_
        exact ct_ret ⟨.inr rfl, oL1 rfl⟩
  · rw [if_neg h50]
    have v4 := median_vc xs (a + (b - a) / 4 * 1) (a + (b - a) / 4 * 2) (a + (b - a) / 4 * 3) 0 hN (by omega) (by omega) (by omega) hn hm (by omega)
    rw [ei, ej, ek] at v4
    generalize Sort.median ltS xs.toArray (a + (b - a) / 4 * 1) (a + (b - a) / 4 * 2) (a + (b - a) / 4 * 3) 0 = m at *
    repeat first | refine o_copy ?_ | refine nl ?_ | refine ct_seq ?_ | refine rg ?_ | refine ct_block ?_ | refine bq ?_ | refine o_binE hq ?_ | refine o_loads ?_ | refine o_loadp ?_ | refine o_add ?_ | refine o_sub ?_ | refine o_mul ?_ | refine o_cat ?_ | refine o_bin ?_ | refine o_alloc ?_
    refine cndt ?_ rfl (decide_eq_true (by omega))
    repeat first | refine o_copy ?_ | refine nl ?_ | refine ct_seq ?_ | refine rg ?_ | refine ct_block ?_ | refine bq ?_ | refine o_loads ?_ | refine o_loadp ?_ | refine o_add ?_ | refine o_sub ?_ | refine o_mul ?_ | refine o_cat ?_ | refine o_bin ?_ | refine o_alloc ?_
    refine cndf (ct_skip ?_) rfl (decide_eq_false (by omega))
    repeat first | refine o_copy ?_ | refine nl ?_ | refine ct_seq ?_ | refine rg ?_ | refine ct_block ?_ | refine bq ?_ | refine cl (lent := [⟨0, 0⟩, ⟨1, 16384⟩]) v4 ?_ | refine o_loads ?_ | refine o_loadp ?_ | refine o_add ?_ | refine o_sub ?_ | refine o_mul ?_ | refine o_cat ?_ | refine o_bin ?_ | refine o_alloc ?_
    repeat first | refine o_copy ?_ | refine nl ?_ | refine ct_seq ?_ | refine rg ?_ | refine ct_block ?_ | refine bq ?_ | refine o_loads ?_ | refine o_loadp ?_ | refine o_add ?_ | refine o_sub ?_ | refine o_mul ?_ | refine o_cat ?_ | refine o_bin ?_ | refine o_alloc ?_
    by_cases h0 : m.2 = 0
    · refine cndt ?_ rfl (by simp [h0])
      rw [if_pos h0]
      repeat first | refine o_copy ?_ | refine nl ?_ | refine ct_seq ?_ | refine rg ?_ | refine ct_block ?_ | refine bq ?_ | refine o_loads ?_ | refine o_loadp ?_ | refine o_add ?_ | refine o_sub ?_ | refine o_mul ?_ | refine o_cat ?_ | refine o_bin ?_ | refine o_alloc ?_
      exact ct_ret ⟨.inr rfl, oL1 rfl⟩
    · refine cndf ?_ rfl (by simp [h0])
      rw [if_neg h0]
      repeat first | refine o_copy ?_ | refine nl ?_ | refine ct_seq ?_ | refine rg ?_ | refine ct_block ?_ | refine bq ?_ | refine o_loads ?_ | refine o_loadp ?_ | refine o_add ?_ | refine o_sub ?_ | refine o_mul ?_ | refine o_cat ?_ | refine o_bin ?_ | refine o_alloc ?_
      by_cases h12 : m.2 = 12
      · refine cndt ?_ rfl (by simp [h12])
        rw [if_pos h12]
        repeat first | refine o_copy ?_ | refine nl ?_ | refine ct_seq ?_ | refine rg ?_ | refine ct_block ?_ | refine bq ?_ | refine o_loads ?_ | refine o_loadp ?_ | refine o_add ?_ | refine o_sub ?_ | refine o_mul ?_ | refine o_cat ?_ | refine o_bin ?_ | refine o_alloc ?_
        exact ct_ret ⟨.inr rfl, oL1 rfl⟩
      · refine cndf ?_ rfl (by simp; omega)
        rw [if_neg h12]
        repeat first | refine o_copy ?_ | refine nl ?_ | refine ct_seq ?_ | refine rg ?_ | refine ct_block ?_ | refine bq ?_ | refine o_loads ?_ | refine o_loadp ?_ | refine o_add ?_ | refine o_sub ?_ | refine o_mul ?_ | refine o_cat ?_ | refine o_bin ?_ | refine o_alloc ?_
        exact ct_ret ⟨.inr rfl, oL1 rfl⟩
set_option maxHeartbeats 1000000 in
theorem reverse_vc {N n : Nat} (xs : List SpanL) (a b : Nat) (hN : xs.length = N) (hab : a < b) (hb : b ≤ n) (hn : n ≤ N) (hm : N ≤ 60000) :
    VC Try.prog 64 [.own ⟨0, 0⟩ N 0 n, .int .i64 a, .int .i64 b, .fn 47 []] [blkV 2 (xs.map encS)] (.tup []) (srt (Sort.reverseRange xs.toArray a b)) := by
  refine vc_of vf64 ?_ (Nat.le_of_ble_eq_true rfl) (by intro vs h; cases h; simp)
  repeat first | refine o_copy ?_ | refine nl ?_ | refine ct_seq ?_ | refine rg ?_ | refine ct_block ?_ | refine bq ?_ | refine o_iaddr ?_ | refine o_iaddrO ?_ | refine o_iaddrR ?_ | refine o_add ?_ | refine o_sub ?_ | refine o_cat ?_ | refine o_bin ?_ | refine o_loadsA ?_ | refine o_loadpA ?_ | refine o_store ?_
  refine ct_loopG (fun (g : Nat × Nat × List SpanL) => [(0, .own ⟨0, 0⟩ N 0 n), (8, .int .i64 g.1), (9, .int .i64 (g.2.1 : Nat))])
    (fun g => [(⟨0, 0⟩, blkV 2 (g.2.2.map encS))]) (fun g => g.2.1 - g.1)
    (fun g => g.2.1 < b ∧ g.2.2.length = N ∧ Sort.reverseLoop g.1 g.2.1 g.2.2.toArray = Sort.reverseRange xs.toArray a b) (a, b - 1, xs)
    (goes (h1 := by refine ⟨rfl, rfl, congrArg (fun z => some (PV.int .i64 z)) (by simp only; omega), trivial⟩)) ⟨by simp only; omega, hN, rfl⟩ ?_
  rintro ⟨i, j, ys⟩ ⟨hj, hyl, hv⟩
  dsimp only at hj hyl hv ⊢
  rw [Sort.reverseLoop] at hv
  repeat first | refine o_copy ?_ | refine nl ?_ | refine ct_seq ?_ | refine rg ?_ | refine ct_block ?_ | refine bq ?_ | refine o_iaddr ?_ | refine o_iaddrO ?_ | refine o_iaddrR ?_ | refine o_add ?_ | refine o_sub ?_ | refine o_cat ?_ | refine o_bin ?_ | refine o_loadsA ?_ | refine o_loadpA ?_ | refine o_store ?_
  refine cnd (fun h => ct_skip ?_) (fun h => ct_exit ?_)
  · have hij : i < j := by have h' := of_decide_eq_true h; omega
    obtain ⟨x, hx⟩ : ∃ x, ys[i]? = some x := ⟨_, List.getElem?_eq_getElem (by omega)⟩
    obtain ⟨y, hy⟩ : ∃ y, ys[j]? = some y := ⟨_, List.getElem?_eq_getElem (by omega)⟩
    have hk1 : 0 + (i : Int).toNat = i := by omega
    have hk2 : 0 + (j : Int).toNat = j := by omega
    have hx' := els_at hx hk1
    have hy' := els_at hy hk2
    rw [if_pos hij, swp_eq hx hy, ← hk1, ← hk2] at hv
    simp only [hk1, hk2] at hv
    repeat first | refine o_copy ?_ | refine nl ?_ | refine ct_seq ?_ | refine rg ?_ | refine ct_block ?_ | refine bq ?_ | refine o_iaddrG ?_ | refine o_v (vst encS y) ?_ | refine o_v (vst encS x) ?_ | refine o_iaddr ?_ | refine o_iaddrO ?_ | refine o_iaddrR ?_ | refine o_add ?_ | refine o_sub ?_ | refine o_cat ?_ | refine o_bin ?_ | refine o_loadsA ?_ | refine o_loadpA ?_ | refine o_store ?_
    exact agn (i + 1, j - 1, (ys.set (0 + (i : Int).toNat) y).set (0 + (j : Int).toNat) x) ⟨by simp only; omega, by simpa only [List.length_set] using hyl, by simp only [hk1, hk2]; exact hv⟩
      (goes (h1 := by refine ⟨rfl, rfl, congrArg (fun z => some (PV.int .i64 z)) (by simp only; omega), trivial⟩))
  · have hij : ¬ i < j := by have h' := of_decide_eq_false h; omega
    rw [if_neg hij] at hv
    exact ⟨.inl rfl, oL1 (by rw [← hv])⟩
end Go.Proofs
