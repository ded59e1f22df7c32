/- Rb -/
import Derived.Test.YtehekbmdfbjoeaaGreatRa
open Go.V Go.Pu
set_option linter.unusedVariables false
set_option linter.unusedSimpArgs false
set_option maxRecDepth 20000
namespace Go.Proofs
/-- downspout/downspoutlaw08.RouteKids -/
def vc4 : VCode :=
 (.seq
 (.region 0 false [
 ⟨(some 3), .box (.t 1), none, 0, []⟩,
 ⟨(some 4), .copy (.c (.bool false)), none, 8, []⟩])
 (.seq
 (.region 1 false [
 ⟨(some 12), .call (.c (.fn 11 [])) [], none, 8192, []⟩,
 ⟨(some 5), .copy (.t 12), none, 8200, [0]⟩])
 (.seq
 (.seq
 (.region 2 false [
 ⟨(some 13), .copy (.t 0), none, 16384, []⟩,
 ⟨(some 14), .len (.t 13), none, 16392, [0]⟩,
 ⟨(some 15), .bin .gtr (.t 14) (.c (.int .i64 8)), none, 16400, [1, 0]⟩,
 ⟨(some 16), .copy (.t 15), none, 16408, [2, 1, 0]⟩,
 ⟨(some 17), .iaddrA 2 1 (.t 3) (.c (.int .i64 0)), (some (3, 16, false)), 16416, [3, 2, 1, 0]⟩,
 ⟨(some 18), .load false 1 (.t 17), (some (3, 16, false)), 16424, [4, 3, 2, 1, 0]⟩,
 ⟨(some 19), .lenS (.t 18), (some (3, 16, false)), 16432, [5, 4, 3, 2, 1, 0]⟩,
 ⟨(some 20), .bin .gtr (.t 19) (.c (.int .i64 30)), (some (3, 16, false)), 16440, [6, 5, 4, 3, 2, 1, 0]⟩,
 ⟨(some 21), .pick (.t 16) (.c (.bool true)) (.t 20), none, 16448, [3, 2, 1, 0, 7, 6, 5, 4]⟩,
 ⟨(some 22), .copy (.t 21), none, 16456, [8, 3, 2, 1, 0, 7, 6, 5, 4]⟩,
 ⟨(some 23), .iaddrA 2 1 (.t 3) (.c (.int .i64 1)), (some (9, 22, false)), 16464, [9, 8, 3, 2, 1, 0, 7, 6, 5, 4]⟩,
 ⟨(some 24), .load false 1 (.t 23), (some (9, 22, false)), 16472, [10, 9, 8, 3, 2, 1, 0, 7, 6, 5, 4]⟩,
 ⟨(some 25), .lenS (.t 24), (some (9, 22, false)), 16480, [11, 10, 9, 8, 3, 2, 1, 0, 7, 6, 5, 4]⟩,
 ⟨(some 26), .bin .gtr (.t 25) (.c (.int .i64 30)), (some (9, 22, false)), 16488, [12, 11, 10, 9, 8, 3, 2, 1, 0, 7, 6, 5, 4]⟩,
 ⟨(some 27), .pick (.t 22) (.c (.bool true)) (.t 26), none, 16496, [9, 8, 3, 2, 1, 0, 7, 6, 5, 4, 13, 12, 11, 10]⟩])
 (.cond (.t 27)
 (.seq
 (.region 3 false [
 ⟨(some 28), .copy (.t 5), none, 24576, []⟩,
 ⟨(some 4), .copy (.t 28), none, 24584, [0]⟩])
 .ret)
 .skip))
 (.seq
 (.seq
 (.region 4 false [
 ⟨(some 6), .copy (.c (.int .i64 0)), none, 32768, []⟩])
 (.block 0
 (.loop
 (.seq
 (.seq
 (.region 5 false [
 ⟨(some 29), .copy (.t 6), none, 40960, []⟩,
 ⟨(some 30), .copy (.t 0), none, 40968, []⟩,
 ⟨(some 31), .len (.t 30), none, 40976, [1]⟩,
 ⟨(some 32), .bin .lss (.t 29) (.t 31), none, 40984, [0, 2, 1]⟩])
 (.cond (.t 32)
 .skip
 (.exit 0)))
 (.seq
 (.block 1
 (.seq
 (.region 7 false [
 ⟨(some 35), .copy (.t 0), none, 57344, []⟩,
 ⟨(some 36), .copy (.t 6), none, 57352, []⟩,
 ⟨(some 37), .iaddr 1 (.t 35) (.t 36), none, 57360, [0, 1]⟩,
 ⟨(some 38), .load false 1 (.t 37), none, 57368, [2, 0, 1]⟩,
 ⟨(some 39), .lenS (.t 38), none, 57376, [3, 2, 0, 1]⟩,
 ⟨(some 40), .bin .gtr (.t 39) (.c (.int .i64 30)), none, 57384, [4, 3, 2, 0, 1]⟩])
 (.cond (.t 40)
 (.seq
 (.region 8 false [
 ⟨(some 41), .copy (.t 5), none, 65536, []⟩,
 ⟨(some 4), .copy (.t 41), none, 65544, [0]⟩])
 .ret)
 .skip)))
 (.region 6 false [
 ⟨(some 33), .copy (.t 6), none, 49152, []⟩,
 ⟨(some 34), .bin .add (.t 33) (.c (.int .i64 1)), none, 49160, [0]⟩,
 ⟨(some 6), .copy (.t 34), none, 49168, [1, 0]⟩]))))))
 (.seq
 (.region 9 false [
 ⟨(some 42), .copy (.t 0), none, 73728, []⟩,
 ⟨(some 43), .call (.c (.fn 25 [])) [(.t 42)], none, 73736, [0]⟩,
 ⟨(some 7), .copy (.t 43), none, 73744, [1, 0]⟩])
 (.seq
 (.region 10 false [
 ⟨(some 44), .build [(.str []), (.str [])] [], none, 81920, []⟩,
 ⟨(some 45), .copy (.t 7), none, 81928, []⟩,
 ⟨(some 46), .call (.c (.fn 26 [])) [(.t 44), (.t 45)], none, 81936, [0, 1]⟩,
 ⟨(some 8), .copy (.t 46), none, 81944, [2, 0, 1]⟩])
 (.seq
 (.region 11 true [
 ⟨(some 47), .iaddrA 2 1 (.t 3) (.c (.int .i64 0)), none, 90112, []⟩,
 ⟨(some 48), .load false 1 (.t 47), none, 90120, [0]⟩,
 ⟨(some 49), .copy (.t 7), none, 90128, []⟩,
 ⟨(some 50), .call (.c (.fn 15 [])) [(.t 48), (.t 49)], none, 90136, [1, 0, 2]⟩,
 ⟨(some 51), .iaddrA 2 1 (.t 3) (.c (.int .i64 1)), none, 90144, []⟩,
 ⟨(some 52), .load false 1 (.t 51), none, 90152, [4]⟩,
 ⟨(some 53), .copy (.t 7), none, 90160, []⟩,
 ⟨(some 54), .call (.c (.fn 15 [])) [(.t 52), (.t 53)], none, 90168, [5, 4, 6, 3, 1, 0, 2]⟩,
 ⟨(some 9), .copy (.t 50), none, 90176, [3, 1, 0, 2, 7, 5, 4, 6]⟩,
 ⟨(some 10), .copy (.t 54), none, 90184, [7, 5, 4, 6, 3, 1, 0, 2, 8]⟩])
 (.seq
 (.seq
 (.region 12 false [
 ⟨(some 11), .copy (.c (.int .i64 0)), none, 98304, []⟩])
 (.block 2
 (.loop
 (.seq
 (.seq
 (.region 13 false [
 ⟨(some 55), .copy (.t 11), none, 106496, []⟩,
 ⟨(some 56), .copy (.t 8), none, 106504, []⟩,
 ⟨(some 57), .len (.t 56), none, 106512, [1]⟩,
 ⟨(some 58), .bin .lss (.t 55) (.t 57), none, 106520, [0, 2, 1]⟩])
 (.cond (.t 58)
 .skip
 (.exit 2)))
 (.seq
 (.block 3
 (.seq
 (.region 15 true [
 ⟨(some 61), .copy (.t 8), none, 122880, []⟩,
 ⟨(some 62), .copy (.t 11), none, 122888, []⟩,
 ⟨(some 63), .iaddr 2 (.t 61) (.t 62), none, 122896, [0, 1]⟩,
 ⟨(some 64), .load true 2 (.t 63), none, 122904, [2, 0, 1]⟩,
 ⟨(some 65), .iaddrA 2 1 (.t 3) (.c (.int .i64 0)), none, 122912, []⟩,
 ⟨(some 66), .load false 1 (.t 65), none, 122920, [4]⟩,
 ⟨(some 67), .call (.c (.fn 27 [])) [(.t 64), (.t 66)], none, 122928, [3, 2, 0, 1, 5, 4]⟩,
 ⟨(some 68), .copy (.t 9), none, 122936, []⟩,
 ⟨(some 69), .copy (.t 11), none, 122944, []⟩,
 ⟨(some 70), .bin .eql (.t 68) (.t 69), none, 122952, [7, 8]⟩,
 ⟨(some 71), .eqb true (.t 67) (.t 70), none, 122960, [6, 3, 2, 0, 1, 5, 4, 9, 7, 8]⟩,
 ⟨(some 72), .copy (.t 71), none, 122968, [10, 6, 3, 2, 0, 1, 5, 4, 9, 7, 8]⟩,
 ⟨(some 73), .copy (.t 8), (some (11, 72, false)), 122976, [11, 10, 6, 3, 2, 0, 1, 5, 4, 9, 7, 8]⟩,
 ⟨(some 74), .copy (.t 11), (some (11, 72, false)), 122984, [11, 10, 6, 3, 2, 0, 1, 5, 4, 9, 7, 8]⟩,
 ⟨(some 75), .iaddr 2 (.t 73) (.t 74), (some (11, 72, false)), 122992, [12, 11, 10, 6, 3, 2, 0, 1, 5, 4, 9, 7, 8, 13]⟩,
 ⟨(some 76), .load true 2 (.t 75), (some (11, 72, false)), 123000, [14, 12, 11, 10, 6, 3, 2, 0, 1, 5, 4, 9, 7, 8, 13]⟩,
 ⟨(some 77), .iaddrA 2 1 (.t 3) (.c (.int .i64 1)), (some (11, 72, false)), 123008, [11, 10, 6, 3, 2, 0, 1, 5, 4, 9, 7, 8]⟩,
 ⟨(some 78), .load false 1 (.t 77), (some (11, 72, false)), 123016, [16, 11, 10, 6, 3, 2, 0, 1, 5, 4, 9, 7, 8]⟩,
 ⟨(some 79), .call (.c (.fn 27 [])) [(.t 76), (.t 78)], (some (11, 72, false)), 123024, [15, 14, 12, 11, 10, 6, 3, 2, 0, 1, 5, 4, 9, 7, 8, 13, 17, 16]⟩,
 ⟨(some 80), .copy (.t 10), (some (11, 72, false)), 123032, [11, 10, 6, 3, 2, 0, 1, 5, 4, 9, 7, 8]⟩,
 ⟨(some 81), .copy (.t 11), (some (11, 72, false)), 123040, [11, 10, 6, 3, 2, 0, 1, 5, 4, 9, 7, 8]⟩,
 ⟨(some 82), .bin .eql (.t 80) (.t 81), (some (11, 72, false)), 123048, [19, 11, 10, 6, 3, 2, 0, 1, 5, 4, 9, 7, 8, 20]⟩,
 ⟨(some 83), .eqb true (.t 79) (.t 82), (some (11, 72, false)), 123056, [18, 15, 14, 12, 11, 10, 6, 3, 2, 0, 1, 5, 4, 9, 7, 8, 13, 17, 16, 21, 19, 20]⟩,
 ⟨(some 84), .pick (.t 72) (.c (.bool true)) (.t 83), none, 123064, [11, 10, 6, 3, 2, 0, 1, 5, 4, 9, 7, 8, 22, 18, 15, 14, 12, 13, 17, 16, 21, 19, 20]⟩])
 (.cond (.t 84)
 (.seq
 (.region 16 false [
 ⟨(some 4), .copy (.c (.bool false)), none, 131072, []⟩])
 .ret)
 .skip)))
 (.region 14 false [
 ⟨(some 59), .copy (.t 11), none, 114688, []⟩,
 ⟨(some 60), .bin .add (.t 59) (.c (.int .i64 1)), none, 114696, [0]⟩,
 ⟨(some 11), .copy (.t 60), none, 114704, [1, 0]⟩]))))))
 (.seq
 (.region 17 false [
 ⟨(some 85), .iaddrA 2 1 (.t 3) (.c (.int .i64 0)), none, 139264, []⟩,
 ⟨(some 86), .load false 1 (.t 85), none, 139272, [0]⟩,
 ⟨(some 87), .iaddrA 2 1 (.t 3) (.c (.int .i64 1)), none, 139280, []⟩,
 ⟨(some 88), .load false 1 (.t 87), none, 139288, [2]⟩,
 ⟨(some 89), .bin .gtr (.t 86) (.t 88), none, 139296, [1, 0, 3, 2]⟩,
 ⟨(some 90), .copy (.t 89), none, 139304, [4, 1, 0, 3, 2]⟩,
 ⟨(some 91), .copy (.t 9), (some (5, 90, false)), 139312, [5, 4, 1, 0, 3, 2]⟩,
 ⟨(some 92), .copy (.t 10), (some (5, 90, false)), 139320, [5, 4, 1, 0, 3, 2]⟩,
 ⟨(some 93), .bin .leq (.t 91) (.t 92), (some (5, 90, false)), 139328, [6, 5, 4, 1, 0, 3, 2, 7]⟩,
 ⟨(some 94), .pick (.t 90) (.c (.bool true)) (.t 93), none, 139336, [5, 4, 1, 0, 3, 2, 8, 6, 7]⟩,
 ⟨(some 95), .copy (.t 94), none, 139344, [9, 5, 4, 1, 0, 3, 2, 8, 6, 7]⟩,
 ⟨(some 96), .copy (.t 5), (some (10, 95, true)), 139352, [10, 9, 5, 4, 1, 0, 3, 2, 8, 6, 7]⟩,
 ⟨(some 97), .pick (.t 95) (.t 96) (.c (.bool false)), none, 139360, [10, 9, 5, 4, 1, 0, 3, 2, 8, 6, 7, 11]⟩,
 ⟨(some 4), .copy (.t 97), none, 139368, [12, 10, 9, 5, 4, 1, 0, 3, 2, 8, 6, 7, 11]⟩])
 .ret)))))))))
theorem vf4 : VF Tryz.prog 4 = some (98, vc4, [.tmp 4]) := by kernel_rfl
/-! The law of Kid -/
theorem atL_mono {a b : Str} (h : ble a b = true) : ∀ l : List Str, atL a l ≤ atL b l
  | [] => Nat.le_refl _
  | p :: l => by
    rw [atL, atL]
    split
    · next h2 =>
      rw [if_pos (ble_trans h2 h)]
      have := atL_mono h l
      omega
    · exact Nat.zero_le _
theorem zdec (i a : Nat) : (!(decide (i = a) == ((a : Int) == (i : Int)))) = false := by
  by_cases h : i = a
  · subst h; simp
  · have : ((a : Int) == (i : Int)) = false := by simp; omega
    rw [this, decide_eq_false h]; rfl
set_option maxHeartbeats 4000000 in
theorem kids_law_vc {q : PV} {l : List Str} (x y : Str) (hq : Sl q (l.map encT)) (hl : l.length ≤ maxLen) : VC Tryz.prog 4 [q, .agg [.str x, .str y]] [] (.bool true) [] := by
  refine vc_of vf4 ?_ (Nat.le_of_ble_eq_true rfl) (by intro vs h; cases h)
  unfold maxLen at hl
  have hml : (l.map encT).length = l.length := List.length_map ..
  repeat first | refine o_copy ?_ | refine nl ?_ | refine ct_seq ?_ | refine rg ?_ | refine ct_block ?_ | refine bq ?_ | refine cv0 sanity_vc ?_ | refine o_loads ?_ | refine o_loadp ?_ | refine o_iaddr ?_ | refine o_iaddrO ?_ | refine o_iaddrR ?_ | refine o_add ?_ | refine o_cat ?_ | refine o_bin ?_ | refine o_lenq ?_ | refine o_len ?_ | refine o_loadsA ?_ | refine o_loadpA ?_ | refine o_box ?_ | refine o_pickt ?_ | refine o_pickf ?_ | refine o_build ?_ | refine o_iaddrA ?_ | refine o_eqb ?_ | refine o_lenS ?_ | refine skF ?_ | refine skU ?_
  refine glook (fun hg => ?_) (fun hg => ?_)
  · repeat first | refine o_copy ?_ | refine nl ?_ | refine ct_seq ?_ | refine rg ?_ | refine ct_block ?_ | refine bq ?_ | refine o_loads ?_ | refine o_loadp ?_ | refine o_iaddr ?_ | refine o_iaddrO ?_ | refine o_iaddrR ?_ | refine o_add ?_ | refine o_cat ?_ | refine o_bin ?_ | refine o_lenq ?_ | refine o_len ?_ | refine o_loadsA ?_ | refine o_loadpA ?_ | refine o_box ?_ | refine o_pickt ?_ | refine o_pickf ?_ | refine o_build ?_ | refine o_iaddrA ?_ | refine o_eqb ?_ | refine o_lenS ?_ | refine skF ?_ | refine skU ?_
    refine cndt ?_
    repeat first | refine o_copy ?_ | refine nl ?_ | refine ct_seq ?_ | refine rg ?_ | refine ct_block ?_ | refine bq ?_ | refine o_loads ?_ | refine o_loadp ?_ | refine o_iaddr ?_ | refine o_iaddrO ?_ | refine o_iaddrR ?_ | refine o_add ?_ | refine o_cat ?_ | refine o_bin ?_ | refine o_lenq ?_ | refine o_len ?_ | refine o_loadsA ?_ | refine o_loadpA ?_ | refine o_box ?_ | refine o_pickt ?_ | refine o_pickf ?_ | refine o_build ?_ | refine o_iaddrA ?_ | refine o_eqb ?_ | refine o_lenS ?_ | refine skF ?_ | refine skU ?_
    exact ct_ret ⟨.inr rfl, oAny rfl⟩
  have h8 : l.length ≤ 8 := by have h' := of_decide_eq_false hg; omega
  repeat first | refine o_copy ?_ | refine nl ?_ | refine ct_seq ?_ | refine rg ?_ | refine ct_block ?_ | refine bq ?_ | refine o_loads ?_ | refine o_loadp ?_ | refine o_iaddr ?_ | refine o_iaddrO ?_ | refine o_iaddrR ?_ | refine o_add ?_ | refine o_cat ?_ | refine o_bin ?_ | refine o_lenq ?_ | refine o_len ?_ | refine o_loadsA ?_ | refine o_loadpA ?_ | refine o_box ?_ | refine o_pickt ?_ | refine o_pickf ?_ | refine o_build ?_ | refine o_iaddrA ?_ | refine o_eqb ?_ | refine o_lenS ?_ | refine skF ?_ | refine skU ?_
  refine glook (fun hg2 => ?_) (fun hg2 => ?_)
  · repeat first | refine o_copy ?_ | refine nl ?_ | refine ct_seq ?_ | refine rg ?_ | refine ct_block ?_ | refine bq ?_ | refine o_loads ?_ | refine o_loadp ?_ | refine o_iaddr ?_ | refine o_iaddrO ?_ | refine o_iaddrR ?_ | refine o_add ?_ | refine o_cat ?_ | refine o_bin ?_ | refine o_lenq ?_ | refine o_len ?_ | refine o_loadsA ?_ | refine o_loadpA ?_ | refine o_box ?_ | refine o_pickt ?_ | refine o_pickf ?_ | refine o_build ?_ | refine o_iaddrA ?_ | refine o_eqb ?_ | refine o_lenS ?_ | refine skF ?_ | refine skU ?_
    refine cndt ?_
    repeat first | refine o_copy ?_ | refine nl ?_ | refine ct_seq ?_ | refine rg ?_ | refine ct_block ?_ | refine bq ?_ | refine o_loads ?_ | refine o_loadp ?_ | refine o_iaddr ?_ | refine o_iaddrO ?_ | refine o_iaddrR ?_ | refine o_add ?_ | refine o_cat ?_ | refine o_bin ?_ | refine o_lenq ?_ | refine o_len ?_ | refine o_loadsA ?_ | refine o_loadpA ?_ | refine o_box ?_ | refine o_pickt ?_ | refine o_pickf ?_ | refine o_build ?_ | refine o_iaddrA ?_ | refine o_eqb ?_ | refine o_lenS ?_ | refine skF ?_ | refine skU ?_
    exact ct_ret ⟨.inr rfl, oAny rfl⟩
  repeat first | refine o_copy ?_ | refine nl ?_ | refine ct_seq ?_ | refine rg ?_ | refine ct_block ?_ | refine bq ?_ | refine o_loads ?_ | refine o_loadp ?_ | refine o_iaddr ?_ | refine o_iaddrO ?_ | refine o_iaddrR ?_ | refine o_add ?_ | refine o_cat ?_ | refine o_bin ?_ | refine o_lenq ?_ | refine o_len ?_ | refine o_loadsA ?_ | refine o_loadpA ?_ | refine o_box ?_ | refine o_pickt ?_ | refine o_pickf ?_ | refine o_build ?_ | refine o_iaddrA ?_ | refine o_eqb ?_ | refine o_lenS ?_ | refine skF ?_ | refine skU ?_
  refine cnd (fun h => ?_) (fun h => ct_skip ?_)
  · repeat first | refine o_copy ?_ | refine nl ?_ | refine ct_seq ?_ | refine rg ?_ | refine ct_block ?_ | refine bq ?_ | refine o_loads ?_ | refine o_loadp ?_ | refine o_iaddr ?_ | refine o_iaddrO ?_ | refine o_iaddrR ?_ | refine o_add ?_ | refine o_cat ?_ | refine o_bin ?_ | refine o_lenq ?_ | refine o_len ?_ | refine o_loadsA ?_ | refine o_loadpA ?_ | refine o_box ?_ | refine o_pickt ?_ | refine o_pickf ?_ | refine o_build ?_ | refine o_iaddrA ?_ | refine o_eqb ?_ | refine o_lenS ?_ | refine skF ?_ | refine skU ?_
    exact ct_ret ⟨.inr rfl, oAny rfl⟩
  repeat first | refine o_copy ?_ | refine nl ?_ | refine ct_seq ?_ | refine rg ?_ | refine ct_block ?_ | refine bq ?_ | refine o_loads ?_ | refine o_loadp ?_ | refine o_iaddr ?_ | refine o_iaddrO ?_ | refine o_iaddrR ?_ | refine o_add ?_ | refine o_cat ?_ | refine o_bin ?_ | refine o_lenq ?_ | refine o_len ?_ | refine o_loadsA ?_ | refine o_loadpA ?_ | refine o_box ?_ | refine o_pickt ?_ | refine o_pickf ?_ | refine o_build ?_ | refine o_iaddrA ?_ | refine o_eqb ?_ | refine o_lenS ?_ | refine skF ?_ | refine skU ?_
  refine ct_loopG (fun (g : Nat) => [(0, q), (3, .ptr ⟨1, 0⟩ 1 0 0), (5, .bool true), (6, .int .i64 g)])
    (fun g => [(⟨1, 0⟩, ⟨true, false, 2, [[.str x, .str y]]⟩)]) (fun g => l.length - g) (fun g => g ≤ l.length) 0 goes (Nat.zero_le _) ?_
  intro i hi
  (try dsimp only)
  repeat first | refine o_copy ?_ | refine nl ?_ | refine ct_seq ?_ | refine rg ?_ | refine ct_block ?_ | refine bq ?_ | refine o_loads ?_ | refine o_loadp ?_ | refine o_iaddr ?_ | refine o_iaddrO ?_ | refine o_iaddrR ?_ | refine o_add ?_ | refine o_cat ?_ | refine o_bin ?_ | refine o_lenq ?_ | refine o_len ?_ | refine o_loadsA ?_ | refine o_loadpA ?_ | refine o_box ?_ | refine o_pickt ?_ | refine o_pickf ?_ | refine o_build ?_ | refine o_iaddrA ?_ | refine o_eqb ?_ | refine o_lenS ?_ | refine skF ?_ | refine skU ?_
  refine cnd (fun h => ct_skip ?_) (fun h => ct_exit ?_)
  · have hlt : i < l.length := by have h' := of_decide_eq_true h; omega
    obtain ⟨p, hp⟩ : ∃ x, l[i]? = some x := ⟨_, List.getElem?_eq_getElem hlt⟩
    have hpe := gm (enc := encT) (n := (i : Int)) hp (by omega)
    repeat first | refine o_copy ?_ | refine nl ?_ | refine ct_seq ?_ | refine rg ?_ | refine ct_block ?_ | refine bq ?_ | refine o_loads ?_ | refine o_loadp ?_ | refine o_iaddr ?_ | refine o_iaddrO ?_ | refine o_iaddrR ?_ | refine o_add ?_ | refine o_cat ?_ | refine o_bin ?_ | refine o_lenq ?_ | refine o_len ?_ | refine o_loadsA ?_ | refine o_loadpA ?_ | refine o_box ?_ | refine o_pickt ?_ | refine o_pickf ?_ | refine o_build ?_ | refine o_iaddrA ?_ | refine o_eqb ?_ | refine o_lenS ?_ | refine skF ?_ | refine skU ?_
    refine cnd (fun h => ?_) (fun h => ct_skip ?_)
    · repeat first | refine o_copy ?_ | refine nl ?_ | refine ct_seq ?_ | refine rg ?_ | refine ct_block ?_ | refine bq ?_ | refine o_loads ?_ | refine o_loadp ?_ | refine o_iaddr ?_ | refine o_iaddrO ?_ | refine o_iaddrR ?_ | refine o_add ?_ | refine o_cat ?_ | refine o_bin ?_ | refine o_lenq ?_ | refine o_len ?_ | refine o_loadsA ?_ | refine o_loadpA ?_ | refine o_box ?_ | refine o_pickt ?_ | refine o_pickf ?_ | refine o_build ?_ | refine o_iaddrA ?_ | refine o_eqb ?_ | refine o_lenS ?_ | refine skF ?_ | refine skU ?_
      exact ct_ret ⟨.inr rfl, oAny rfl⟩
    repeat first | refine o_copy ?_ | refine nl ?_ | refine ct_seq ?_ | refine rg ?_ | refine ct_block ?_ | refine bq ?_ | refine o_loads ?_ | refine o_loadp ?_ | refine o_iaddr ?_ | refine o_iaddrO ?_ | refine o_iaddrR ?_ | refine o_add ?_ | refine o_cat ?_ | refine o_bin ?_ | refine o_lenq ?_ | refine o_len ?_ | refine o_loadsA ?_ | refine o_loadpA ?_ | refine o_box ?_ | refine o_pickt ?_ | refine o_pickf ?_ | refine o_build ?_ | refine o_iaddrA ?_ | refine o_eqb ?_ | refine o_lenS ?_ | refine skF ?_ | refine skU ?_
    exact agn (i + 1) (by omega) goes
  have hpl := pivL_len l
  have hpa := pivL_asc l
  have h1 := pivots_vc hq (by omega)
  generalize pivL l = pv at *
  have h2 := rparts_vc (q := .sh false (pv.map encT)) ⟨[], []⟩ (l := pv) Sl.sh (by omega)
  have hpt := partsL_len ⟨[], []⟩ [] pv
  have hha : ∀ key, hasL ⟨[], []⟩ key = true := by intro key; simp [hasL, blt_nil]
  have hpx := fun k t => parts_has ⟨[], []⟩ x pv [] k t hpa (fun p _ => ble_nil p)
  have hpy := fun k t => parts_has ⟨[], []⟩ y pv [] k t hpa (fun p _ => ble_nil p)
  simp only [ble_nil, hha, Bool.true_and, Bool.and_true] at hpx hpy
  have k1 := kid_vc (q := .sh false (pv.map encT)) x hpa Sl.sh (by omega)
  have k2 := kid_vc (q := .sh false (pv.map encT)) y hpa Sl.sh (by omega)
  have hmono := fun h : ble x y = true => atL_mono h pv
  generalize partsL ⟨[], []⟩ [] pv = ps at *
  have hmp : (ps.map encS).length = ps.length := List.length_map ..
  generalize atL x pv = a at *
  generalize atL y pv = b at *
  repeat first | refine o_copy ?_ | refine nl ?_ | refine ct_seq ?_ | refine rg ?_ | refine ct_block ?_ | refine bq ?_ | refine cv h1 ?_ | refine cv h2 ?_ | refine cv0 k1 ?_ | refine cv0 k2 ?_ | refine o_loads ?_ | refine o_loadp ?_ | refine o_iaddr ?_ | refine o_iaddrO ?_ | refine o_iaddrR ?_ | refine o_add ?_ | refine o_cat ?_ | refine o_bin ?_ | refine o_lenq ?_ | refine o_len ?_ | refine o_loadsA ?_ | refine o_loadpA ?_ | refine o_box ?_ | refine o_pickt ?_ | refine o_pickf ?_ | refine o_build ?_ | refine o_iaddrA ?_ | refine o_eqb ?_ | refine o_lenS ?_ | refine skF ?_ | refine skU ?_
  refine ct_loopG (fun (g : Nat) => [(3, .ptr ⟨1, 0⟩ 1 0 0), (5, .bool true), (8, ownV ⟨1, 81936⟩ (ps.map encS)), (9, .int .i64 a), (10, .int .i64 b), (11, .int .i64 g)])
    (fun g => [(⟨1, 0⟩, ⟨true, false, 2, [[.str x, .str y]]⟩), (⟨1, 81936⟩, blkV 2 (ps.map encS))]) (fun g => ps.length - g) (fun g => g ≤ ps.length) 0 goes (Nat.zero_le _) ?_
  intro i hi
  (try dsimp only)
  repeat first | refine o_copy ?_ | refine nl ?_ | refine ct_seq ?_ | refine rg ?_ | refine ct_block ?_ | refine bq ?_ | refine o_loads ?_ | refine o_loadp ?_ | refine o_iaddr ?_ | refine o_iaddrO ?_ | refine o_iaddrR ?_ | refine o_add ?_ | refine o_cat ?_ | refine o_bin ?_ | refine o_lenq ?_ | refine o_len ?_ | refine o_loadsA ?_ | refine o_loadpA ?_ | refine o_box ?_ | refine o_pickt ?_ | refine o_pickf ?_ | refine o_build ?_ | refine o_iaddrA ?_ | refine o_eqb ?_ | refine o_lenS ?_ | refine skF ?_ | refine skU ?_
  refine cnd (fun h => ct_skip ?_) (fun h => ct_exit ?_)
  · have hlt : i < ps.length := by have h' := of_decide_eq_true h; omega
    obtain ⟨t, ht⟩ : ∃ x, ps[i]? = some x := ⟨_, List.getElem?_eq_getElem hlt⟩
    have hte := gm (enc := encS) (n := (i : Int)) ht (by omega)
    have x1 := rhas_vc t x
    have x2 := rhas_vc t y
    rw [hpx i t ht] at x1
    rw [hpy i t ht] at x2
    have z1 : (!(decide (i = a) == ((a : Int) == (i : Int)))) = false := zdec i a
    have z2 : (!(decide (i = b) == ((b : Int) == (i : Int)))) = false := zdec i b
    repeat first | refine o_copy ?_ | refine nl ?_ | refine ct_seq ?_ | refine rg ?_ | refine ct_block ?_ | refine bq ?_ | refine cv0 x1 ?_ | refine cv0 x2 ?_ | refine o_loads ?_ | refine o_loadp ?_ | refine o_iaddr ?_ | refine o_iaddrO ?_ | refine o_iaddrR ?_ | refine o_add ?_ | refine o_cat ?_ | refine o_bin ?_ | refine o_lenq ?_ | refine o_len ?_ | refine o_loadsA ?_ | refine o_loadpA ?_ | refine o_box ?_ | refine o_pickt ?_ | refine o_pickf ?_ | refine o_build ?_ | refine o_iaddrA ?_ | refine o_eqb ?_ | refine o_lenS ?_ | refine skF ?_ | refine skU ?_
    refine cndf (ct_skip ?_)
    repeat first | refine o_copy ?_ | refine nl ?_ | refine ct_seq ?_ | refine rg ?_ | refine ct_block ?_ | refine bq ?_ | refine o_loads ?_ | refine o_loadp ?_ | refine o_iaddr ?_ | refine o_iaddrO ?_ | refine o_iaddrR ?_ | refine o_add ?_ | refine o_cat ?_ | refine o_bin ?_ | refine o_lenq ?_ | refine o_len ?_ | refine o_loadsA ?_ | refine o_loadpA ?_ | refine o_box ?_ | refine o_pickt ?_ | refine o_pickf ?_ | refine o_build ?_ | refine o_iaddrA ?_ | refine o_eqb ?_ | refine o_lenS ?_ | refine skF ?_ | refine skU ?_
    exact agn (i + 1) (by omega) goes
  · repeat first | refine o_copy ?_ | refine nl ?_ | refine ct_seq ?_ | refine rg ?_ | refine ct_block ?_ | refine bq ?_ | refine o_loads ?_ | refine o_loadp ?_ | refine o_iaddr ?_ | refine o_iaddrO ?_ | refine o_iaddrR ?_ | refine o_add ?_ | refine o_cat ?_ | refine o_bin ?_ | refine o_lenq ?_ | refine o_len ?_ | refine o_loadsA ?_ | refine o_loadpA ?_ | refine o_box ?_ | refine o_pickt ?_ | refine o_pickf ?_ | refine o_build ?_ | refine o_iaddrA ?_ | refine o_eqb ?_ | refine o_lenS ?_ | refine skF ?_ | refine skU ?_
    refine glook (fun hg => ?_) (fun hg => ?_)
    · repeat first | refine o_copy ?_ | refine nl ?_ | refine ct_seq ?_ | refine rg ?_ | refine ct_block ?_ | refine bq ?_ | refine o_loads ?_ | refine o_loadp ?_ | refine o_iaddr ?_ | refine o_iaddrO ?_ | refine o_iaddrR ?_ | refine o_add ?_ | refine o_cat ?_ | refine o_bin ?_ | refine o_lenq ?_ | refine o_len ?_ | refine o_loadsA ?_ | refine o_loadpA ?_ | refine o_box ?_ | refine o_pickt ?_ | refine o_pickf ?_ | refine o_build ?_ | refine o_iaddrA ?_ | refine o_eqb ?_ | refine o_lenS ?_ | refine skF ?_ | refine skU ?_
      exact ct_ret ⟨.inr rfl, oB rfl⟩
    · have hle : ble x y = true := by
        rw [ble_iff]
        cases hb : Op.bytesLess x y with
        | true => exact .inl rfl
        | false => rw [hb] at hg; exact .inr (by simpa using hg)
      have hab := hmono hle
      repeat first | refine o_copy ?_ | refine nl ?_ | refine ct_seq ?_ | refine rg ?_ | refine ct_block ?_ | refine bq ?_ | refine o_loads ?_ | refine o_loadp ?_ | refine o_iaddr ?_ | refine o_iaddrO ?_ | refine o_iaddrR ?_ | refine o_add ?_ | refine o_cat ?_ | refine o_bin ?_ | refine o_lenq ?_ | refine o_len ?_ | refine o_loadsA ?_ | refine o_loadpA ?_ | refine o_box ?_ | refine o_pickt ?_ | refine o_pickf ?_ | refine o_build ?_ | refine o_iaddrA ?_ | refine o_eqb ?_ | refine o_lenS ?_ | refine skF ?_ | refine skU ?_
      refine glook (fun hg3 => ?_) (fun hg3 => ?_)
      · repeat first | refine o_copy ?_ | refine nl ?_ | refine ct_seq ?_ | refine rg ?_ | refine ct_block ?_ | refine bq ?_ | refine o_loads ?_ | refine o_loadp ?_ | refine o_iaddr ?_ | refine o_iaddrO ?_ | refine o_iaddrR ?_ | refine o_add ?_ | refine o_cat ?_ | refine o_bin ?_ | refine o_lenq ?_ | refine o_len ?_ | refine o_loadsA ?_ | refine o_loadpA ?_ | refine o_box ?_ | refine o_pickt ?_ | refine o_pickf ?_ | refine o_build ?_ | refine o_iaddrA ?_ | refine o_eqb ?_ | refine o_lenS ?_ | refine skF ?_ | refine skU ?_
        exact ct_ret ⟨.inr rfl, oB rfl⟩
      · exact absurd (of_decide_eq_false hg3) (by omega)
theorem routeKids_in (l0 : List (List PV)) (i0 : InTy (.sl [.str]) (.sh false l0)) (q1 : List PV) (n1 : q1.length = [CTy.str, .str].length) (i1 : ∀ (j : Nat) (c : CTy) (q : PV), [CTy.str, .str][j]? = some c → q1[j]? = some q → InTy c q) : VC Tryz.prog 4 [.sh false l0, .agg q1] [] (.bool true) [] := by
  obtain ⟨l, rfl, hl⟩ := decT i0
  obtain ⟨x, y, rfl, _, _⟩ := dec2s n1 i1
  exact kids_law_vc x y Sl.sh hl
end Go.Proofs
