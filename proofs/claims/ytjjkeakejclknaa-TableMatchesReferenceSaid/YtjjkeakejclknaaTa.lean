/- Ta -/
import Derived.Test.YtjjkeakejclknaaProg
import Derived.Test.YtjjkeakejclknaaVD
import Derived.Test.YtjjkeakejclknaaPu
open Go.V Go.Pu
set_option linter.unusedVariables false
set_option linter.unusedSimpArgs false
set_option maxRecDepth 20000
namespace Go.Proofs
/-- downspout/downspoutref04.Put -/
def vc12 : VCode :=
 (.seq
 (.region 0 false [
 ⟨(some 3), .box (.t 1), none, 0, []⟩,
 ⟨(some 4), .copy (.c .nils), none, 8, []⟩])
 (.seq
 (.region 1 false [
 ⟨(some 8), .bslice 3 [(.str []), (.str []), (.int .i64 0)] 0 [], none, 8192, []⟩,
 ⟨(some 5), .copy (.t 8), none, 8200, [0]⟩,
 ⟨(some 6), .copy (.c (.bool false)), none, 8208, [1, 0]⟩])
 (.seq
 (.seq
 (.region 2 false [
 ⟨(some 7), .copy (.c (.int .i64 0)), none, 16384, []⟩])
 (.block 0
 (.loop
 (.seq
 (.seq
 (.region 3 false [
 ⟨(some 9), .copy (.t 7), none, 24576, []⟩,
 ⟨(some 10), .copy (.t 0), none, 24584, []⟩,
 ⟨(some 11), .len (.t 10), none, 24592, [1]⟩,
 ⟨(some 12), .bin .lss (.t 9) (.t 11), none, 24600, [0, 2, 1]⟩])
 (.cond (.t 12)
 .skip
 (.exit 0)))
 (.seq
 (.block 1
 (.seq
 (.seq
 (.region 5 true [
 ⟨(some 15), .copy (.t 6), none, 40960, []⟩,
 ⟨(some 16), .not (.t 15), none, 40968, [0]⟩,
 ⟨(some 17), .copy (.t 16), none, 40976, [1, 0]⟩,
 ⟨(some 18), .copy (.t 0), (some (2, 17, true)), 40984, [2, 1, 0]⟩,
 ⟨(some 19), .copy (.t 7), (some (2, 17, true)), 40992, [2, 1, 0]⟩,
 ⟨(some 20), .iaddr 3 (.t 18) (.t 19), (some (2, 17, true)), 41000, [3, 2, 1, 0, 4]⟩,
 ⟨(some 21), .faddr 0 (.t 20), (some (2, 17, true)), 41008, [5, 3, 2, 1, 0, 4]⟩,
 ⟨(some 22), .load false 1 (.t 21), (some (2, 17, true)), 41016, [6, 5, 3, 2, 1, 0, 4]⟩,
 ⟨(some 23), .faddr 0 (.t 3), (some (2, 17, true)), 41024, [2, 1, 0]⟩,
 ⟨(some 24), .load false 1 (.t 23), (some (2, 17, true)), 41032, [8, 2, 1, 0]⟩,
 ⟨(some 25), .bin .geq (.t 22) (.t 24), (some (2, 17, true)), 41040, [7, 6, 5, 3, 2, 1, 0, 4, 9, 8]⟩,
 ⟨(some 26), .pick (.t 17) (.t 25) (.c (.bool false)), none, 41048, [2, 1, 0, 10, 7, 6, 5, 3, 4, 9, 8]⟩])
 (.cond (.t 26)
 (.region 6 false [
 ⟨(some 27), .copy (.t 5), none, 49152, []⟩,
 ⟨(some 28), .load true 3 (.t 3), none, 49160, []⟩,
 ⟨(some 29), .bslice 3 [(.str []), (.str []), (.int .i64 0)] 1 [(0, (.t 28))], none, 49168, [1]⟩,
 ⟨(some 30), .append 3 40 [(.str []), (.str []), (.int .i64 0)] (.t 27) (.t 29), none, 49176, [0, 2, 1]⟩,
 ⟨(some 5), .copy (.t 30), none, 49184, [3, 0, 2, 1]⟩,
 ⟨(some 6), .copy (.c (.bool true)), none, 49192, [4, 3, 0, 2, 1]⟩])
 .skip))
 (.seq
 (.region 7 true [
 ⟨(some 31), .copy (.t 0), none, 57344, []⟩,
 ⟨(some 32), .copy (.t 7), none, 57352, []⟩,
 ⟨(some 33), .iaddr 3 (.t 31) (.t 32), none, 57360, [0, 1]⟩,
 ⟨(some 34), .faddr 0 (.t 33), none, 57368, [2, 0, 1]⟩,
 ⟨(some 35), .load false 1 (.t 34), none, 57376, [3, 2, 0, 1]⟩,
 ⟨(some 36), .faddr 0 (.t 3), none, 57384, []⟩,
 ⟨(some 37), .load false 1 (.t 36), none, 57392, [5]⟩,
 ⟨(some 38), .bin .neq (.t 35) (.t 37), none, 57400, [4, 3, 2, 0, 1, 6, 5]⟩])
 (.cond (.t 38)
 (.region 8 false [
 ⟨(some 39), .copy (.t 5), none, 65536, []⟩,
 ⟨(some 40), .copy (.t 0), none, 65544, []⟩,
 ⟨(some 41), .copy (.t 7), none, 65552, []⟩,
 ⟨(some 42), .iaddr 3 (.t 40) (.t 41), none, 65560, [1, 2]⟩,
 ⟨(some 43), .load true 3 (.t 42), none, 65568, [3, 1, 2]⟩,
 ⟨(some 44), .bslice 3 [(.str []), (.str []), (.int .i64 0)] 1 [(0, (.t 43))], none, 65576, [4, 3, 1, 2]⟩,
 ⟨(some 45), .append 3 40 [(.str []), (.str []), (.int .i64 0)] (.t 39) (.t 44), none, 65584, [0, 5, 4, 3, 1, 2]⟩,
 ⟨(some 5), .copy (.t 45), none, 65592, [6, 0, 5, 4, 3, 1, 2]⟩])
 .skip))))
 (.region 4 false [
 ⟨(some 13), .copy (.t 7), none, 32768, []⟩,
 ⟨(some 14), .bin .add (.t 13) (.c (.int .i64 1)), none, 32776, [0]⟩,
 ⟨(some 7), .copy (.t 14), none, 32784, [1, 0]⟩]))))))
 (.seq
 (.seq
 (.region 9 false [
 ⟨(some 46), .copy (.t 6), none, 73728, []⟩,
 ⟨(some 47), .not (.t 46), none, 73736, [0]⟩])
 (.cond (.t 47)
 (.region 10 false [
 ⟨(some 48), .copy (.t 5), none, 81920, []⟩,
 ⟨(some 49), .load true 3 (.t 3), none, 81928, []⟩,
 ⟨(some 50), .bslice 3 [(.str []), (.str []), (.int .i64 0)] 1 [(0, (.t 49))], none, 81936, [1]⟩,
 ⟨(some 51), .append 3 40 [(.str []), (.str []), (.int .i64 0)] (.t 48) (.t 50), none, 81944, [0, 2, 1]⟩,
 ⟨(some 5), .copy (.t 51), none, 81952, [3, 0, 2, 1]⟩])
 .skip))
 (.seq
 (.region 11 false [
 ⟨(some 52), .copy (.t 5), none, 90112, []⟩,
 ⟨(some 4), .copy (.t 52), none, 90120, [0]⟩])
 .ret)))))
theorem vf12 : VF Try.prog 12 = some (53, vc12, [.tmp 4]) := by kernel_rfl
abbrev encP (p : PairL) : List PV := [.str p.key, .str p.val, .int .i64 p.stamp]

set_option maxHeartbeats 1000000 in
theorem put_vc {q : PV} {xs : List PairL} {p : PairL} (hq : Sl q (xs.map encP)) (hl : xs.length ≤ 1000000000) : VC Try.prog 12 [q, .agg (encP p)] [] (ownV ⟨0, 0⟩ ((putL xs p).map encP)) [blkV 3 ((putL xs p).map encP)] := by
  refine vc_of vf12 ?_ (Nat.le_of_ble_eq_true rfl) (by intro vs h; cases h)
  repeat first | refine o_copy ?_ | refine nl ?_ | refine ct_seq ?_ | refine rg ?_ | refine ct_block ?_ | refine bq ?_ | refine o_loads ?_ | refine o_loadp ?_ | refine o_faddr ?_ | refine o_iaddr ?_ | refine o_iaddrO ?_ | refine o_iaddrR ?_ | refine o_add ?_ | refine o_cat ?_ | refine o_bin ?_ | refine o_lenq ?_ | refine o_len ?_ | refine o_loadsA ?_ | refine o_loadpA ?_ | refine o_box ?_ | refine o_bslice ?_ | refine o_not ?_ | refine o_pickt ?_ | refine o_pickf ?_ | refine skF ?_ | refine skU ?_
  refine ct_loopG (fun (g : Nat × List PairL × Bool) => [(0, q), (3, .ptr ⟨1, 0⟩ 1 0 0), (5, ownV ⟨1, 8192⟩ (g.2.1.map encP)), (6, .bool g.2.2), (7, .int .i64 g.1)])
    (fun g => [(⟨1, 0⟩, ⟨true, false, 3, [encP p]⟩), (⟨1, 8192⟩, blkV 3 (g.2.1.map encP))]) (fun g => xs.length - g.1)
    (fun g => g.1 ≤ xs.length ∧ g.2.1.length ≤ 2 * g.1 ∧ (xs.drop g.1).foldl (putStep p) g.2 = xs.foldl (putStep p) ([], false)) (0, [], false) goes ⟨by simp, by simp, rfl⟩ ?_
  rintro ⟨i, o, b⟩ ⟨hil, hol, hv⟩
  dsimp only at hil hol hv ⊢
  repeat first | refine o_copy ?_ | refine nl ?_ | refine ct_seq ?_ | refine rg ?_ | refine ct_block ?_ | refine bq ?_ | refine o_loads ?_ | refine o_loadp ?_ | refine o_faddr ?_ | refine o_iaddr ?_ | refine o_iaddrO ?_ | refine o_iaddrR ?_ | refine o_add ?_ | refine o_cat ?_ | refine o_bin ?_ | refine o_lenq ?_ | refine o_len ?_ | refine o_loadsA ?_ | refine o_loadpA ?_ | refine o_box ?_ | refine o_bslice ?_ | refine o_not ?_ | refine o_pickt ?_ | refine o_pickf ?_ | refine skF ?_ | refine skU ?_
  refine cnd (fun h => ct_skip ?_) (fun h => ct_exit ?_)
  · have hlt : i < xs.length := by simpa using h
    obtain ⟨x, hx⟩ : ∃ x, xs[i]? = some x := ⟨_, List.getElem?_eq_getElem hlt⟩
    have hxe := gm (enc := encP) (n := (i : Int)) hx (by omega)
    rw [drop_get hx, List.foldl_cons] at hv
    repeat first | refine o_copy ?_ | refine nl ?_ | refine ct_seq ?_ | refine rg ?_ | refine ct_block ?_ | refine bq ?_ | refine o_loads ?_ | refine o_loadp ?_ | refine o_faddr ?_ | refine o_iaddr ?_ | refine o_iaddrO ?_ | refine o_iaddrR ?_ | refine o_add ?_ | refine o_cat ?_ | refine o_bin ?_ | refine o_lenq ?_ | refine o_len ?_ | refine o_loadsA ?_ | refine o_loadpA ?_ | refine o_box ?_ | refine o_bslice ?_ | refine o_not ?_ | refine o_pickt ?_ | refine o_pickf ?_ | refine skF ?_ | refine skU ?_
    refine glook (fun hg => ?_) (fun hg => ?_)
    · repeat first | refine o_copy ?_ | refine nl ?_ | refine ct_seq ?_ | refine rg ?_ | refine ct_block ?_ | refine bq ?_ | refine o_loads ?_ | refine o_loadp ?_ | refine o_faddr ?_ | refine o_iaddr ?_ | refine o_iaddrO ?_ | refine o_iaddrR ?_ | refine o_add ?_ | refine o_cat ?_ | refine o_bin ?_ | refine o_lenq ?_ | refine o_len ?_ | refine o_loadsA ?_ | refine o_loadpA ?_ | refine o_box ?_ | refine o_bslice ?_ | refine o_not ?_ | refine o_pickt ?_ | refine o_pickf ?_ | refine skF ?_ | refine skU ?_
      refine cnd (fun hc => ?_) (fun hc => ct_skip ?_)
      · repeat first | refine o_copy ?_ | refine nl ?_ | refine ct_seq ?_ | refine rg ?_ | refine ct_block ?_ | refine bq ?_ | refine o_v (vap encP p) ?_ | refine o_loads ?_ | refine o_loadp ?_ | refine o_faddr ?_ | refine o_iaddr ?_ | refine o_iaddrO ?_ | refine o_iaddrR ?_ | refine o_add ?_ | refine o_cat ?_ | refine o_bin ?_ | refine o_lenq ?_ | refine o_len ?_ | refine o_loadsA ?_ | refine o_loadpA ?_ | refine o_box ?_ | refine o_bslice ?_ | refine o_not ?_ | refine o_pickt ?_ | refine o_pickf ?_ | refine skF ?_ | refine skU ?_
        refine cnd (fun hd => ?_) (fun hd => ct_skip ?_)
        · repeat first | refine o_copy ?_ | refine nl ?_ | refine ct_seq ?_ | refine rg ?_ | refine ct_block ?_ | refine bq ?_ | refine o_v (vap encP x) ?_ | refine o_loads ?_ | refine o_loadp ?_ | refine o_faddr ?_ | refine o_iaddr ?_ | refine o_iaddrO ?_ | refine o_iaddrR ?_ | refine o_add ?_ | refine o_cat ?_ | refine o_bin ?_ | refine o_lenq ?_ | refine o_len ?_ | refine o_loadsA ?_ | refine o_loadpA ?_ | refine o_box ?_ | refine o_bslice ?_ | refine o_not ?_ | refine o_pickt ?_ | refine o_pickf ?_ | refine skF ?_ | refine skU ?_
          refine again (i + 1, o ++ [p] ++ [x], true) (by simp only; omega) ⟨by simp only; omega, by simp only [List.length_append, List.length_cons, List.length_nil]; omega, ?_⟩ goes
          rw [← hv]
          simp only [putStep, hg, hc, hd, Bool.and_self, if_true]
        · repeat first | refine o_copy ?_ | refine nl ?_ | refine ct_seq ?_ | refine rg ?_ | refine ct_block ?_ | refine bq ?_ | refine o_loads ?_ | refine o_loadp ?_ | refine o_faddr ?_ | refine o_iaddr ?_ | refine o_iaddrO ?_ | refine o_iaddrR ?_ | refine o_add ?_ | refine o_cat ?_ | refine o_bin ?_ | refine o_lenq ?_ | refine o_len ?_ | refine o_loadsA ?_ | refine o_loadpA ?_ | refine o_box ?_ | refine o_bslice ?_ | refine o_not ?_ | refine o_pickt ?_ | refine o_pickf ?_ | refine skF ?_ | refine skU ?_
          refine again (i + 1, o ++ [p], true) (by simp only; omega) ⟨by simp only; omega, by simp only [List.length_append, List.length_cons, List.length_nil]; omega, ?_⟩ goes
          rw [← hv]
          simp only [putStep, hg, hc, hd, Bool.and_self, if_true, Bool.false_eq_true, if_false]
      · repeat first | refine o_copy ?_ | refine nl ?_ | refine ct_seq ?_ | refine rg ?_ | refine ct_block ?_ | refine bq ?_ | refine o_loads ?_ | refine o_loadp ?_ | refine o_faddr ?_ | refine o_iaddr ?_ | refine o_iaddrO ?_ | refine o_iaddrR ?_ | refine o_add ?_ | refine o_cat ?_ | refine o_bin ?_ | refine o_lenq ?_ | refine o_len ?_ | refine o_loadsA ?_ | refine o_loadpA ?_ | refine o_box ?_ | refine o_bslice ?_ | refine o_not ?_ | refine o_pickt ?_ | refine o_pickf ?_ | refine skF ?_ | refine skU ?_
        refine cnd (fun hd => ?_) (fun hd => ct_skip ?_)
        · repeat first | refine o_copy ?_ | refine nl ?_ | refine ct_seq ?_ | refine rg ?_ | refine ct_block ?_ | refine bq ?_ | refine o_v (vap encP x) ?_ | refine o_loads ?_ | refine o_loadp ?_ | refine o_faddr ?_ | refine o_iaddr ?_ | refine o_iaddrO ?_ | refine o_iaddrR ?_ | refine o_add ?_ | refine o_cat ?_ | refine o_bin ?_ | refine o_lenq ?_ | refine o_len ?_ | refine o_loadsA ?_ | refine o_loadpA ?_ | refine o_box ?_ | refine o_bslice ?_ | refine o_not ?_ | refine o_pickt ?_ | refine o_pickf ?_ | refine skF ?_ | refine skU ?_
          refine again (i + 1, o ++ [x], b) (by simp only; omega) ⟨by simp only; omega, by simp only [List.length_append, List.length_cons, List.length_nil]; omega, ?_⟩ goes
          rw [← hv]
          simp only [putStep, hg, hc, hd, Bool.and_false, if_true, Bool.false_eq_true, if_false]
        · repeat first | refine o_copy ?_ | refine nl ?_ | refine ct_seq ?_ | refine rg ?_ | refine ct_block ?_ | refine bq ?_ | refine o_loads ?_ | refine o_loadp ?_ | refine o_faddr ?_ | refine o_iaddr ?_ | refine o_iaddrO ?_ | refine o_iaddrR ?_ | refine o_add ?_ | refine o_cat ?_ | refine o_bin ?_ | refine o_lenq ?_ | refine o_len ?_ | refine o_loadsA ?_ | refine o_loadpA ?_ | refine o_box ?_ | refine o_bslice ?_ | refine o_not ?_ | refine o_pickt ?_ | refine o_pickf ?_ | refine skF ?_ | refine skU ?_
          refine again (i + 1, o, b) (by simp only; omega) ⟨by simp only; omega, by simp only; omega, ?_⟩ goes
          rw [← hv]
          simp only [putStep, hg, hc, hd, Bool.and_false, Bool.false_eq_true, if_false]
    · repeat first | refine o_copy ?_ | refine nl ?_ | refine ct_seq ?_ | refine rg ?_ | refine ct_block ?_ | refine bq ?_ | refine o_loads ?_ | refine o_loadp ?_ | refine o_faddr ?_ | refine o_iaddr ?_ | refine o_iaddrO ?_ | refine o_iaddrR ?_ | refine o_add ?_ | refine o_cat ?_ | refine o_bin ?_ | refine o_lenq ?_ | refine o_len ?_ | refine o_loadsA ?_ | refine o_loadpA ?_ | refine o_box ?_ | refine o_bslice ?_ | refine o_not ?_ | refine o_pickt ?_ | refine o_pickf ?_ | refine skF ?_ | refine skU ?_
      refine cndf (ct_skip ?_)
      repeat first | refine o_copy ?_ | refine nl ?_ | refine ct_seq ?_ | refine rg ?_ | refine ct_block ?_ | refine bq ?_ | refine o_loads ?_ | refine o_loadp ?_ | refine o_faddr ?_ | refine o_iaddr ?_ | refine o_iaddrO ?_ | refine o_iaddrR ?_ | refine o_add ?_ | refine o_cat ?_ | refine o_bin ?_ | refine o_lenq ?_ | refine o_len ?_ | refine o_loadsA ?_ | refine o_loadpA ?_ | refine o_box ?_ | refine o_bslice ?_ | refine o_not ?_ | refine o_pickt ?_ | refine o_pickf ?_ | refine skF ?_ | refine skU ?_
      refine cnd (fun hd => ?_) (fun hd => ct_skip ?_)
      · repeat first | refine o_copy ?_ | refine nl ?_ | refine ct_seq ?_ | refine rg ?_ | refine ct_block ?_ | refine bq ?_ | refine o_v (vap encP x) ?_ | refine o_loads ?_ | refine o_loadp ?_ | refine o_faddr ?_ | refine o_iaddr ?_ | refine o_iaddrO ?_ | refine o_iaddrR ?_ | refine o_add ?_ | refine o_cat ?_ | refine o_bin ?_ | refine o_lenq ?_ | refine o_len ?_ | refine o_loadsA ?_ | refine o_loadpA ?_ | refine o_box ?_ | refine o_bslice ?_ | refine o_not ?_ | refine o_pickt ?_ | refine o_pickf ?_ | refine skF ?_ | refine skU ?_
        refine again (i + 1, o ++ [x], b) (by simp only; omega) ⟨by simp only; omega, by simp only [List.length_append, List.length_cons, List.length_nil]; omega, ?_⟩ goes
        rw [← hv]
        simp only [putStep, hg, hd, Bool.false_and, if_true, Bool.false_eq_true, if_false]
      · repeat first | refine o_copy ?_ | refine nl ?_ | refine ct_seq ?_ | refine rg ?_ | refine ct_block ?_ | refine bq ?_ | refine o_loads ?_ | refine o_loadp ?_ | refine o_faddr ?_ | refine o_iaddr ?_ | refine o_iaddrO ?_ | refine o_iaddrR ?_ | refine o_add ?_ | refine o_cat ?_ | refine o_bin ?_ | refine o_lenq ?_ | refine o_len ?_ | refine o_loadsA ?_ | refine o_loadpA ?_ | refine o_box ?_ | refine o_bslice ?_ | refine o_not ?_ | refine o_pickt ?_ | refine o_pickf ?_ | refine skF ?_ | refine skU ?_
        refine again (i + 1, o, b) (by simp only; omega) ⟨by simp only; omega, by simp only; omega, ?_⟩ goes
        rw [← hv]
        simp only [putStep, hg, hd, Bool.false_and, if_true, Bool.false_eq_true, if_false]
  · have : i = xs.length := by have : ¬ i < xs.length := by simpa using h
                               omega
    subst this
    rw [List.drop_length] at hv
    simp only [List.foldl_nil] at hv
    repeat first | refine o_copy ?_ | refine nl ?_ | refine ct_seq ?_ | refine rg ?_ | refine ct_block ?_ | refine bq ?_ | refine o_loads ?_ | refine o_loadp ?_ | refine o_faddr ?_ | refine o_iaddr ?_ | refine o_iaddrO ?_ | refine o_iaddrR ?_ | refine o_add ?_ | refine o_cat ?_ | refine o_bin ?_ | refine o_lenq ?_ | refine o_len ?_ | refine o_loadsA ?_ | refine o_loadpA ?_ | refine o_box ?_ | refine o_bslice ?_ | refine o_not ?_ | refine o_pickt ?_ | refine o_pickf ?_ | refine skF ?_ | refine skU ?_
    refine cnd (fun hb => ?_) (fun hb => ct_skip ?_)
    · repeat first | refine o_copy ?_ | refine nl ?_ | refine ct_seq ?_ | refine rg ?_ | refine ct_block ?_ | refine bq ?_ | refine o_v (vap encP p) ?_ | refine o_loads ?_ | refine o_loadp ?_ | refine o_faddr ?_ | refine o_iaddr ?_ | refine o_iaddrO ?_ | refine o_iaddrR ?_ | refine o_add ?_ | refine o_cat ?_ | refine o_bin ?_ | refine o_lenq ?_ | refine o_len ?_ | refine o_loadsA ?_ | refine o_loadpA ?_ | refine o_box ?_ | refine o_bslice ?_ | refine o_not ?_ | refine o_pickt ?_ | refine o_pickf ?_ | refine skF ?_ | refine skU ?_
      refine ct_ret ⟨.inr rfl, oOwn ?_⟩
      simp only [putL, ← hv, (by simpa using hb : b = false), Bool.false_eq_true, if_false]
    · repeat first | refine o_copy ?_ | refine nl ?_ | refine ct_seq ?_ | refine rg ?_ | refine ct_block ?_ | refine bq ?_ | refine o_loads ?_ | refine o_loadp ?_ | refine o_faddr ?_ | refine o_iaddr ?_ | refine o_iaddrO ?_ | refine o_iaddrR ?_ | refine o_add ?_ | refine o_cat ?_ | refine o_bin ?_ | refine o_lenq ?_ | refine o_len ?_ | refine o_loadsA ?_ | refine o_loadpA ?_ | refine o_box ?_ | refine o_bslice ?_ | refine o_not ?_ | refine o_pickt ?_ | refine o_pickf ?_ | refine skF ?_ | refine skU ?_
      refine ct_ret ⟨.inr rfl, oOwn ?_⟩
      simp only [putL, ← hv, (by simpa using hb : b = true), if_true]
end Go.Proofs
open Go.V Go.Pu
set_option linter.unusedVariables false
set_option linter.unusedSimpArgs false
set_option maxRecDepth 20000
namespace Go.Proofs
/-- downspout/downspoutref04.Made -/
def vc11 : VCode :=
 (.seq
 (.region 0 false [
 ⟨(some 2), .copy (.c .nils), none, 0, []⟩])
 (.seq
 (.region 1 false [
 ⟨(some 5), .bslice 3 [(.str []), (.str []), (.int .i64 0)] 0 [], none, 8192, []⟩,
 ⟨(some 3), .copy (.t 5), none, 8200, [0]⟩])
 (.seq
 (.seq
 (.region 2 false [
 ⟨(some 4), .copy (.c (.int .i64 0)), none, 16384, []⟩])
 (.block 0
 (.loop
 (.seq
 (.seq
 (.region 3 false [
 ⟨(some 6), .copy (.t 4), none, 24576, []⟩,
 ⟨(some 7), .copy (.t 0), none, 24584, []⟩,
 ⟨(some 8), .len (.t 7), none, 24592, [1]⟩,
 ⟨(some 9), .bin .lss (.t 6) (.t 8), none, 24600, [0, 2, 1]⟩,
 ⟨(some 10), .copy (.t 9), none, 24608, [3, 0, 2, 1]⟩,
 ⟨(some 11), .copy (.t 4), (some (4, 10, true)), 24616, [4, 3, 0, 2, 1]⟩,
 ⟨(some 12), .bin .lss (.t 11) (.c (.int .i64 40)), (some (4, 10, true)), 24624, [5, 4, 3, 0, 2, 1]⟩,
 ⟨(some 13), .pick (.t 10) (.t 12) (.c (.bool false)), none, 24632, [4, 3, 0, 2, 1, 6, 5]⟩])
 (.cond (.t 13)
 .skip
 (.exit 0)))
 (.seq
 (.block 1
 (.region 5 false [
 ⟨(some 16), .copy (.t 3), none, 40960, []⟩,
 ⟨(some 17), .copy (.t 0), none, 40968, []⟩,
 ⟨(some 18), .copy (.t 4), none, 40976, []⟩,
 ⟨(some 19), .iaddr 3 (.t 17) (.t 18), none, 40984, [1, 2]⟩,
 ⟨(some 20), .load true 3 (.t 19), none, 40992, [3, 1, 2]⟩,
 ⟨(some 21), .call (.c (.fn 32 [])) [(.t 20)], none, 41000, [4, 3, 1, 2]⟩,
 ⟨(some 22), .call (.c (.fn 12 [])) [(.t 16), (.t 21)], none, 41008, [0, 5, 4, 3, 1, 2]⟩,
 ⟨(some 3), .copy (.t 22), none, 41016, [6, 0, 5, 4, 3, 1, 2]⟩]))
 (.region 4 false [
 ⟨(some 14), .copy (.t 4), none, 32768, []⟩,
 ⟨(some 15), .bin .add (.t 14) (.c (.int .i64 1)), none, 32776, [0]⟩,
 ⟨(some 4), .copy (.t 15), none, 32784, [1, 0]⟩]))))))
 (.seq
 (.region 6 false [
 ⟨(some 23), .copy (.t 3), none, 49152, []⟩,
 ⟨(some 2), .copy (.t 23), none, 49160, [0]⟩])
 .ret))))
theorem vf11 : VF Try.prog 11 = some (24, vc11, [.tmp 2]) := by kernel_rfl
/-- downspout/downspoutref04.Pair -/
def vc32 : VCode :=
 (.seq
 (.region 0 false [
 ⟨(some 1), .box (.t 0), none, 0, []⟩,
 ⟨(some 2), .alloc [(.str []), (.str []), (.int .i64 0)], none, 8, []⟩])
 (.seq
 (.region 1 true [
 ⟨(some 3), .iaddrA 3 1 (.t 1) (.c (.int .i64 0)), none, 8192, []⟩,
 ⟨(some 4), .load false 1 (.t 3), none, 8200, [0]⟩,
 ⟨(some 5), .call (.c (.fn 15 [])) [(.t 4)], none, 8208, [1, 0]⟩,
 ⟨(some 6), .bslice 1 [(.str [])] 4 [(0, (.c (.str []))), (1, (.c (.str [118]))), (2, (.c (.str [119, 120]))), (3, (.c (.str [120, 121, 122])))], none, 8216, []⟩,
 ⟨(some 7), .iaddrA 3 1 (.t 1) (.c (.int .i64 1)), none, 8224, []⟩,
 ⟨(some 8), .load false 1 (.t 7), none, 8232, [4]⟩,
 ⟨(some 9), .bin .rem (.t 8) (.c (.int .u8 4)), none, 8240, [5, 4]⟩,
 ⟨(some 10), .iaddr 1 (.t 6) (.t 9), none, 8248, [3, 6, 5, 4]⟩,
 ⟨(some 11), .load false 1 (.t 10), none, 8256, [7, 3, 6, 5, 4]⟩,
 ⟨(some 12), .iaddrA 3 1 (.t 1) (.c (.int .i64 2)), none, 8264, []⟩,
 ⟨(some 13), .load false 1 (.t 12), none, 8272, [9]⟩,
 ⟨(some 14), .bin .rem (.t 13) (.c (.int .u8 4)), none, 8280, [10, 9]⟩,
 ⟨(some 15), .conv .i64 (.t 14), none, 8288, [11, 10, 9]⟩,
 ⟨(some 16), .build [(.str []), (.str []), (.int .i64 0)] [(0, 1, (.t 5)), (1, 1, (.t 11)), (2, 1, (.t 15))], none, 8296, [2, 1, 0, 8, 7, 3, 6, 5, 4, 12, 11, 10, 9]⟩,
 ⟨none, .store 3 (.t 2) (.t 16), none, 8304, [13, 2, 1, 0, 8, 7, 3, 6, 5, 4, 12, 11, 10, 9]⟩])
 .ret))
theorem vf32 : VF Try.prog 32 = some (17, vc32, [.cell true 3 2]) := by kernel_rfl
/-! Key -/
def pathsL : List (List UInt8) := [[97, 47], [98, 47], [97, 47, 98, 47], [99, 47]]
def endsL : List (List UInt8) := [[1], [2, 0, 0], [2, 0, 1], [2, 0, 2], [3, 120]]
def restL : List (List UInt8) := [[1], [5, 48, 48, 48, 48, 48, 48, 48, 49, 47, 1], [6, 97, 47, 1], [97, 47, 98, 47, 99, 47, 1]]
def keyL (n : Nat) : List UInt8 := if n % 24 < 20 then pathsL.getD (n % 24 / 5) [] ++ endsL.getD (n % 24 % 5) [] else restL.getD (n % 24 - 20) []
theorem key_vc {n : Nat} (hn : n < 256) : VC Try.prog 15 [.int .u8 n] [] (.str (keyL n)) [] := vc_byte noCall_good noX_good (fuel := 10) (d := 3) (F := keyL) (by kernel_rfl) hn

/-! Pair -/
def valsL : List (List UInt8) := [[], [118], [119, 120], [120, 121, 122]]
structure RawL where
  x : Nat
  y : Nat
  z : Nat
  hx : x < 256
  hy : y < 256
  hz : z < 256
abbrev encR (r : RawL) : List PV := [.int .u8 r.x, .int .u8 r.y, .int .u8 r.z]
def pairL (r : RawL) : PairL := ⟨keyL r.x, valsL.getD (r.y % 4) [], r.z % 4⟩
theorem pair_vc (r : RawL) : VC Try.prog 32 [.agg (encR r)] [] (.agg (encP (pairL r))) [] := by
  obtain ⟨x, y, z, hx, hy, hz⟩ := r
  refine vc_of vf32 ?_ (Nat.le_of_ble_eq_true rfl) (by intro vs h; cases h)
  have hk := key_vc hx
  have h1 : (z : Int).tmod 4 = ((z % 4 : Nat) : Int) := rfl
  have h0 : (y : Int).tmod 4 = ((y % 4 : Nat) : Int) := rfl
  have h2 : IntKind.i64.wrap ((z % 4 : Nat) : Int) = ((z % 4 : Nat) : Int) := wrap64 (by omega) (by omega)
  have h3 : y % 4 = 0 ∨ y % 4 = 1 ∨ y % 4 = 2 ∨ y % 4 = 3 := by omega
  rcases h3 with h3 | h3 | h3 | h3
  · have h4 : (y : Int).tmod 4 = 0 := by rw [h0, h3]; rfl
    repeat first | refine o_copy ?_ | refine nl ?_ | refine ct_seq ?_ | refine rg ?_ | refine ct_block ?_ | refine bq ?_ | refine cv0 hk ?_ | refine o_rem ?_ | refine o_convE ?_ | refine o_loads ?_ | refine o_loadp ?_ | refine o_iaddr ?_ | refine o_iaddrO ?_ | refine o_iaddrR ?_ | refine o_bin ?_ | refine o_box ?_ | refine o_alloc ?_ | refine o_bslice ?_ | refine o_store ?_ | refine o_build ?_ | refine o_iaddrA ?_
    refine ct_ret ⟨.inr rfl, oAny ?_⟩
    simp only [pairL, h3]
    rfl
  · have h4 : (y : Int).tmod 4 = 1 := by rw [h0, h3]; rfl
    repeat first | refine o_copy ?_ | refine nl ?_ | refine ct_seq ?_ | refine rg ?_ | refine ct_block ?_ | refine bq ?_ | refine cv0 hk ?_ | refine o_rem ?_ | refine o_convE ?_ | refine o_loads ?_ | refine o_loadp ?_ | refine o_iaddr ?_ | refine o_iaddrO ?_ | refine o_iaddrR ?_ | refine o_bin ?_ | refine o_box ?_ | refine o_alloc ?_ | refine o_bslice ?_ | refine o_store ?_ | refine o_build ?_ | refine o_iaddrA ?_
    refine ct_ret ⟨.inr rfl, oAny ?_⟩
    simp only [pairL, h3]
    rfl
  · have h4 : (y : Int).tmod 4 = 2 := by rw [h0, h3]; rfl
    repeat first | refine o_copy ?_ | refine nl ?_ | refine ct_seq ?_ | refine rg ?_ | refine ct_block ?_ | refine bq ?_ | refine cv0 hk ?_ | refine o_rem ?_ | refine o_convE ?_ | refine o_loads ?_ | refine o_loadp ?_ | refine o_iaddr ?_ | refine o_iaddrO ?_ | refine o_iaddrR ?_ | refine o_bin ?_ | refine o_box ?_ | refine o_alloc ?_ | refine o_bslice ?_ | refine o_store ?_ | refine o_build ?_ | refine o_iaddrA ?_
    refine ct_ret ⟨.inr rfl, oAny ?_⟩
    simp only [pairL, h3]
    rfl
  · have h4 : (y : Int).tmod 4 = 3 := by rw [h0, h3]; rfl
    repeat first | refine o_copy ?_ | refine nl ?_ | refine ct_seq ?_ | refine rg ?_ | refine ct_block ?_ | refine bq ?_ | refine cv0 hk ?_ | refine o_rem ?_ | refine o_convE ?_ | refine o_loads ?_ | refine o_loadp ?_ | refine o_iaddr ?_ | refine o_iaddrO ?_ | refine o_iaddrR ?_ | refine o_bin ?_ | refine o_box ?_ | refine o_alloc ?_ | refine o_bslice ?_ | refine o_store ?_ | refine o_build ?_ | refine o_iaddrA ?_
    refine ct_ret ⟨.inr rfl, oAny ?_⟩
    simp only [pairL, h3]
    rfl

/-! Made -/
def madeL (l : List RawL) : List PairL := (l.take 40).foldl (fun t x => putL t (pairL x)) []
theorem made_vc {q : PV} {xs : List RawL} (hq : Sl q (xs.map encR)) : VC Try.prog 11 [q] [] (ownV ⟨0, 0⟩ ((madeL xs).map encP)) [blkV 3 ((madeL xs).map encP)] := by
  refine vc_of vf11 ?_ (Nat.le_of_ble_eq_true rfl) (by intro vs h; cases h)
  repeat first | refine o_copy ?_ | refine nl ?_ | refine ct_seq ?_ | refine rg ?_ | refine ct_block ?_ | refine bq ?_ | refine o_iaddr ?_ | refine o_iaddrO ?_ | refine o_iaddrR ?_ | refine o_add ?_ | refine o_cat ?_ | refine o_bin ?_ | refine o_lenq ?_ | refine o_len ?_ | refine o_loadsA ?_ | refine o_loadpA ?_ | refine o_bslice ?_ | refine o_pickt ?_ | refine o_pickf ?_ | refine skF ?_ | refine skU ?_
  refine ct_loopG (fun (g : Nat × List PairL) => [(0, q), (3, ownV ⟨1, 8192⟩ (g.2.map encP)), (4, .int .i64 g.1)])
    (fun g => [(⟨1, 8192⟩, blkV 3 (g.2.map encP))]) (fun g => 40 - g.1)
    (fun g => g.1 ≤ 40 ∧ g.1 ≤ xs.length ∧ g.2.length ≤ g.1 ∧ ((xs.take 40).drop g.1).foldl (fun t x => putL t (pairL x)) g.2 = madeL xs) (0, []) goes ⟨by simp, by simp, by simp, rfl⟩ ?_
  rintro ⟨i, o⟩ ⟨hi40, hil, hol, hv⟩
  dsimp only at hi40 hil hol hv ⊢
  repeat first | refine o_copy ?_ | refine nl ?_ | refine ct_seq ?_ | refine rg ?_ | refine ct_block ?_ | refine bq ?_ | refine o_iaddr ?_ | refine o_iaddrO ?_ | refine o_iaddrR ?_ | refine o_add ?_ | refine o_cat ?_ | refine o_bin ?_ | refine o_lenq ?_ | refine o_len ?_ | refine o_loadsA ?_ | refine o_loadpA ?_ | refine o_bslice ?_ | refine o_pickt ?_ | refine o_pickf ?_ | refine skF ?_ | refine skU ?_
  refine glook (fun hg => ?_) (fun hg => ?_)
  · repeat first | refine o_copy ?_ | refine nl ?_ | refine ct_seq ?_ | refine rg ?_ | refine ct_block ?_ | refine bq ?_ | refine o_iaddr ?_ | refine o_iaddrO ?_ | refine o_iaddrR ?_ | refine o_add ?_ | refine o_cat ?_ | refine o_bin ?_ | refine o_lenq ?_ | refine o_len ?_ | refine o_loadsA ?_ | refine o_loadpA ?_ | refine o_bslice ?_ | refine o_pickt ?_ | refine o_pickf ?_ | refine skF ?_ | refine skU ?_
    have hlt : i < xs.length := by simpa using hg
    refine cnd (fun h => ct_skip ?_) (fun h => ct_exit ?_)
    · have hlt4 : i < 40 := by
        have : (i : Int) < 40 := by simpa using h
        omega
      obtain ⟨x, hx⟩ : ∃ x, xs[i]? = some x := ⟨_, List.getElem?_eq_getElem hlt⟩
      have hx4 : (xs.take 40)[i]? = some x := by rw [List.getElem?_take, if_pos hlt4, hx]
      have hxe := gm (enc := encR) (n := (i : Int)) hx (by omega)
      rw [drop_get hx4, List.foldl_cons] at hv
      repeat first | refine o_copy ?_ | refine nl ?_ | refine ct_seq ?_ | refine rg ?_ | refine ct_block ?_ | refine bq ?_ | refine cv0 (pair_vc x) ?_ | refine cv (put_vc (xs := o) (p := pairL x) Sl.sh (by omega)) ?_ | refine o_iaddr ?_ | refine o_iaddrO ?_ | refine o_iaddrR ?_ | refine o_add ?_ | refine o_cat ?_ | refine o_bin ?_ | refine o_lenq ?_ | refine o_len ?_ | refine o_loadsA ?_ | refine o_loadpA ?_ | refine o_bslice ?_ | refine o_pickt ?_ | refine o_pickf ?_ | refine skF ?_ | refine skU ?_
      have hl := putL_len o (pairL x)
      refine again (i + 1, putL o (pairL x)) (by simp only; omega) ⟨by simp only; omega, by simp only; omega, by simp only; omega, hv⟩ (goesR ⟨1, 41008⟩ ⟨1, 8192⟩)
    · have : i = 40 := by
        have : ¬ (i : Int) < 40 := by simpa using h
        omega
      subst this
      rw [List.drop_of_length_le (by simp; omega)] at hv
      repeat first | refine o_copy ?_ | refine nl ?_ | refine ct_seq ?_ | refine rg ?_ | refine ct_block ?_ | refine bq ?_ | refine o_iaddr ?_ | refine o_iaddrO ?_ | refine o_iaddrR ?_ | refine o_add ?_ | refine o_cat ?_ | refine o_bin ?_ | refine o_lenq ?_ | refine o_len ?_ | refine o_loadsA ?_ | refine o_loadpA ?_ | refine o_bslice ?_ | refine o_pickt ?_ | refine o_pickf ?_ | refine skF ?_ | refine skU ?_
      refine ct_ret ⟨.inr rfl, oOwn ?_⟩
      rw [← hv]; rfl
  · repeat first | refine o_copy ?_ | refine nl ?_ | refine ct_seq ?_ | refine rg ?_ | refine ct_block ?_ | refine bq ?_ | refine o_iaddr ?_ | refine o_iaddrO ?_ | refine o_iaddrR ?_ | refine o_add ?_ | refine o_cat ?_ | refine o_bin ?_ | refine o_lenq ?_ | refine o_len ?_ | refine o_loadsA ?_ | refine o_loadpA ?_ | refine o_bslice ?_ | refine o_pickt ?_ | refine o_pickf ?_ | refine skF ?_ | refine skU ?_
    have hlt : i = xs.length := by
      have : ¬ i < xs.length := by simpa using hg
      omega
    subst hlt
    refine cndf (ct_exit ?_)
    rw [List.drop_of_length_le (by simp; omega)] at hv
    repeat first | refine o_copy ?_ | refine nl ?_ | refine ct_seq ?_ | refine rg ?_ | refine ct_block ?_ | refine bq ?_ | refine o_iaddr ?_ | refine o_iaddrO ?_ | refine o_iaddrR ?_ | refine o_add ?_ | refine o_cat ?_ | refine o_bin ?_ | refine o_lenq ?_ | refine o_len ?_ | refine o_loadsA ?_ | refine o_loadpA ?_ | refine o_bslice ?_ | refine o_pickt ?_ | refine o_pickf ?_ | refine skF ?_ | refine skU ?_
    refine ct_ret ⟨.inr rfl, oOwn ?_⟩
    rw [← hv]; rfl
end Go.Proofs
open Go.V
namespace Go.Proofs
theorem xgood : XGood Try.prog (xcCmp 51) := @xcCmp_good Try.prog 51 Try.f51 Try.func51 (by kernel_rfl) (by kernel_rfl) (by kernel_rfl) (by kernel_rfl)
theorem sanity_run : run Try.prog noCall (xcCmp 51) 200 20 10 [] [] = some (.bool true, []) := by kernel_rfl
theorem sanity_vc : VC Try.prog 10 [] [] (.bool true) [] := run_ok noCall_good xgood 20 _ _ _ _ _ sanity_run
end Go.Proofs
