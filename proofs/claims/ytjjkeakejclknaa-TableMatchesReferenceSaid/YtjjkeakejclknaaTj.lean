/- Tj -/
import Derived.Test.YtjjkeakejclknaaTh
open Go.V Go.Pu
set_option linter.unusedVariables false
set_option linter.unusedSimpArgs false
set_option maxRecDepth 20000
namespace Go.Proofs
/-- downspout/downspoutref04.Range -/
def vc19 : VCode :=
 (.seq
 (.region 0 false [
 ⟨(some 3), .box (.t 1), none, 0, []⟩,
 ⟨(some 4), .copy (.c .nils), none, 8, []⟩])
 (.seq
 (.region 1 false [
 ⟨(some 7), .bslice 3 [(.str []), (.str []), (.int .i64 0)] 0 [], none, 8192, []⟩,
 ⟨(some 5), .copy (.t 7), none, 8200, [0]⟩])
 (.seq
 (.seq
 (.region 2 false [
 ⟨(some 6), .copy (.c (.int .i64 0)), none, 16384, []⟩])
 (.block 0
 (.loop
 (.seq
 (.seq
 (.region 3 false [
 ⟨(some 8), .copy (.t 6), none, 24576, []⟩,
 ⟨(some 9), .copy (.t 0), none, 24584, []⟩,
 ⟨(some 10), .len (.t 9), none, 24592, [1]⟩,
 ⟨(some 11), .bin .lss (.t 8) (.t 10), none, 24600, [0, 2, 1]⟩])
 (.cond (.t 11)
 .skip
 (.exit 0)))
 (.seq
 (.block 1
 (.seq
 (.region 5 true [
 ⟨(some 14), .load true 2 (.t 3), none, 40960, []⟩,
 ⟨(some 15), .copy (.t 0), none, 40968, []⟩,
 ⟨(some 16), .copy (.t 6), none, 40976, []⟩,
 ⟨(some 17), .iaddr 3 (.t 15) (.t 16), none, 40984, [1, 2]⟩,
 ⟨(some 18), .faddr 0 (.t 17), none, 40992, [3, 1, 2]⟩,
 ⟨(some 19), .load false 1 (.t 18), none, 41000, [4, 3, 1, 2]⟩,
 ⟨(some 20), .call (.c (.fn 33 [])) [(.t 14), (.t 19)], none, 41008, [0, 5, 4, 3, 1, 2]⟩])
 (.cond (.t 20)
 (.region 6 false [
 ⟨(some 21), .copy (.t 5), none, 49152, []⟩,
 ⟨(some 22), .copy (.t 0), none, 49160, []⟩,
 ⟨(some 23), .copy (.t 6), none, 49168, []⟩,
 ⟨(some 24), .iaddr 3 (.t 22) (.t 23), none, 49176, [1, 2]⟩,
 ⟨(some 25), .load true 3 (.t 24), none, 49184, [3, 1, 2]⟩,
 ⟨(some 26), .bslice 3 [(.str []), (.str []), (.int .i64 0)] 1 [(0, (.t 25))], none, 49192, [4, 3, 1, 2]⟩,
 ⟨(some 27), .append 3 40 [(.str []), (.str []), (.int .i64 0)] (.t 21) (.t 26), none, 49200, [0, 5, 4, 3, 1, 2]⟩,
 ⟨(some 5), .copy (.t 27), none, 49208, [6, 0, 5, 4, 3, 1, 2]⟩])
 .skip)))
 (.region 4 false [
 ⟨(some 12), .copy (.t 6), none, 32768, []⟩,
 ⟨(some 13), .bin .add (.t 12) (.c (.int .i64 1)), none, 32776, [0]⟩,
 ⟨(some 6), .copy (.t 13), none, 32784, [1, 0]⟩]))))))
 (.seq
 (.region 7 false [
 ⟨(some 28), .copy (.t 5), none, 57344, []⟩,
 ⟨(some 4), .copy (.t 28), none, 57352, [0]⟩])
 .ret))))
theorem vf19 : VF Try.prog 19 = some (29, vc19, [.tmp 4]) := by kernel_rfl
/-- downspout/downspoutref04.Drop -/
def vc21 : VCode :=
 (.seq
 (.region 0 false [
 ⟨(some 3), .box (.t 1), none, 0, []⟩,
 ⟨(some 4), .copy (.c .nils), none, 8, []⟩])
 (.seq
 (.region 1 false [
 ⟨(some 7), .bslice 3 [(.str []), (.str []), (.int .i64 0)] 0 [], none, 8192, []⟩,
 ⟨(some 5), .copy (.t 7), none, 8200, [0]⟩])
 (.seq
 (.seq
 (.region 2 false [
 ⟨(some 6), .copy (.c (.int .i64 0)), none, 16384, []⟩])
 (.block 0
 (.loop
 (.seq
 (.seq
 (.region 3 false [
 ⟨(some 8), .copy (.t 6), none, 24576, []⟩,
 ⟨(some 9), .copy (.t 0), none, 24584, []⟩,
 ⟨(some 10), .len (.t 9), none, 24592, [1]⟩,
 ⟨(some 11), .bin .lss (.t 8) (.t 10), none, 24600, [0, 2, 1]⟩])
 (.cond (.t 11)
 .skip
 (.exit 0)))
 (.seq
 (.block 1
 (.seq
 (.region 5 true [
 ⟨(some 14), .load true 2 (.t 3), none, 40960, []⟩,
 ⟨(some 15), .copy (.t 0), none, 40968, []⟩,
 ⟨(some 16), .copy (.t 6), none, 40976, []⟩,
 ⟨(some 17), .iaddr 3 (.t 15) (.t 16), none, 40984, [1, 2]⟩,
 ⟨(some 18), .faddr 0 (.t 17), none, 40992, [3, 1, 2]⟩,
 ⟨(some 19), .load false 1 (.t 18), none, 41000, [4, 3, 1, 2]⟩,
 ⟨(some 20), .call (.c (.fn 33 [])) [(.t 14), (.t 19)], none, 41008, [0, 5, 4, 3, 1, 2]⟩,
 ⟨(some 21), .not (.t 20), none, 41016, [6, 0, 5, 4, 3, 1, 2]⟩])
 (.cond (.t 21)
 (.region 6 false [
 ⟨(some 22), .copy (.t 5), none, 49152, []⟩,
 ⟨(some 23), .copy (.t 0), none, 49160, []⟩,
 ⟨(some 24), .copy (.t 6), none, 49168, []⟩,
 ⟨(some 25), .iaddr 3 (.t 23) (.t 24), none, 49176, [1, 2]⟩,
 ⟨(some 26), .load true 3 (.t 25), none, 49184, [3, 1, 2]⟩,
 ⟨(some 27), .bslice 3 [(.str []), (.str []), (.int .i64 0)] 1 [(0, (.t 26))], none, 49192, [4, 3, 1, 2]⟩,
 ⟨(some 28), .append 3 40 [(.str []), (.str []), (.int .i64 0)] (.t 22) (.t 27), none, 49200, [0, 5, 4, 3, 1, 2]⟩,
 ⟨(some 5), .copy (.t 28), none, 49208, [6, 0, 5, 4, 3, 1, 2]⟩])
 .skip)))
 (.region 4 false [
 ⟨(some 12), .copy (.t 6), none, 32768, []⟩,
 ⟨(some 13), .bin .add (.t 12) (.c (.int .i64 1)), none, 32776, [0]⟩,
 ⟨(some 6), .copy (.t 13), none, 32784, [1, 0]⟩]))))))
 (.seq
 (.region 7 false [
 ⟨(some 29), .copy (.t 5), none, 57344, []⟩,
 ⟨(some 4), .copy (.t 29), none, 57352, [0]⟩])
 .ret))))
theorem vf21 : VF Try.prog 21 = some (30, vc21, [.tmp 4]) := by kernel_rfl
/-- downspout/downspoutref04.Del -/
def vc24 : VCode :=
 (.seq
 (.region 0 false [
 ⟨(some 4), .copy (.c .nils), none, 0, []⟩])
 (.seq
 (.region 1 false [
 ⟨(some 7), .bslice 3 [(.str []), (.str []), (.int .i64 0)] 0 [], none, 8192, []⟩,
 ⟨(some 5), .copy (.t 7), none, 8200, [0]⟩])
 (.seq
 (.seq
 (.region 2 false [
 ⟨(some 6), .copy (.c (.int .i64 0)), none, 16384, []⟩])
 (.block 0
 (.loop
 (.seq
 (.seq
 (.region 3 false [
 ⟨(some 8), .copy (.t 6), none, 24576, []⟩,
 ⟨(some 9), .copy (.t 0), none, 24584, []⟩,
 ⟨(some 10), .len (.t 9), none, 24592, [1]⟩,
 ⟨(some 11), .bin .lss (.t 8) (.t 10), none, 24600, [0, 2, 1]⟩])
 (.cond (.t 11)
 .skip
 (.exit 0)))
 (.seq
 (.block 1
 (.seq
 (.region 5 false [
 ⟨(some 14), .copy (.t 0), none, 40960, []⟩,
 ⟨(some 15), .copy (.t 6), none, 40968, []⟩,
 ⟨(some 16), .iaddr 3 (.t 14) (.t 15), none, 40976, [0, 1]⟩,
 ⟨(some 17), .faddr 0 (.t 16), none, 40984, [2, 0, 1]⟩,
 ⟨(some 18), .load false 1 (.t 17), none, 40992, [3, 2, 0, 1]⟩,
 ⟨(some 19), .copy (.t 1), none, 41000, []⟩,
 ⟨(some 20), .bin .neq (.t 18) (.t 19), none, 41008, [4, 3, 2, 0, 1, 5]⟩])
 (.cond (.t 20)
 (.region 6 false [
 ⟨(some 21), .copy (.t 5), none, 49152, []⟩,
 ⟨(some 22), .copy (.t 0), none, 49160, []⟩,
 ⟨(some 23), .copy (.t 6), none, 49168, []⟩,
 ⟨(some 24), .iaddr 3 (.t 22) (.t 23), none, 49176, [1, 2]⟩,
 ⟨(some 25), .load true 3 (.t 24), none, 49184, [3, 1, 2]⟩,
 ⟨(some 26), .bslice 3 [(.str []), (.str []), (.int .i64 0)] 1 [(0, (.t 25))], none, 49192, [4, 3, 1, 2]⟩,
 ⟨(some 27), .append 3 40 [(.str []), (.str []), (.int .i64 0)] (.t 21) (.t 26), none, 49200, [0, 5, 4, 3, 1, 2]⟩,
 ⟨(some 5), .copy (.t 27), none, 49208, [6, 0, 5, 4, 3, 1, 2]⟩])
 .skip)))
 (.region 4 false [
 ⟨(some 12), .copy (.t 6), none, 32768, []⟩,
 ⟨(some 13), .bin .add (.t 12) (.c (.int .i64 1)), none, 32776, [0]⟩,
 ⟨(some 6), .copy (.t 13), none, 32784, [1, 0]⟩]))))))
 (.seq
 (.region 7 false [
 ⟨(some 28), .copy (.t 5), none, 57344, []⟩,
 ⟨(some 4), .copy (.t 28), none, 57352, [0]⟩])
 .ret))))
theorem vf24 : VF Try.prog 24 = some (29, vc24, [.tmp 4]) := by kernel_rfl
/-! The reference's functions of tables -/
theorem filt_step {t : List PairL} {i : Nat} {y : PairL} (f : PairL → Bool) (hy : t[i]? = some y) : (t.take (i + 1)).filter f = if f y = true then (t.take i).filter f ++ [y] else (t.take i).filter f := by
  rw [List.take_add_one, hy]
  simp only [List.filter_append, Option.toList_some, List.filter_cons, List.filter_nil]
  cases f y <;> simp
set_option maxHeartbeats 1000000 in
theorem rrange_vc {q : PV} {t : List PairL} (s : SpanL) (hq : Sl q (t.map encP)) (hl : t.length ≤ 1000000) : VC Try.prog 19 [q, .agg (encS s)] [] (ownV ⟨0, 0⟩ ((rangeL t s).map encP)) [blkV 3 ((rangeL t s).map encP)] := by
  refine vc_of vf19 ?_ (Nat.le_of_ble_eq_true rfl) (by intro vs h; cases h)
  have hmt : (t.map encP).length = t.length := List.length_map ..
  repeat first | refine o_copy ?_ | refine nl ?_ | refine ct_seq ?_ | refine rg ?_ | refine ct_block ?_ | refine bq ?_ | refine o_loads ?_ | refine o_loadp ?_ | refine o_faddr ?_ | refine o_iaddr ?_ | refine o_iaddrO ?_ | refine o_iaddrR ?_ | refine o_add ?_ | refine o_cat ?_ | refine o_bin ?_ | refine o_lenq ?_ | refine o_len ?_ | refine o_loadsA ?_ | refine o_loadpA ?_ | refine o_box ?_ | refine o_bslice ?_
  refine ct_loopG (fun (g : Nat × List PairL) => [(0, q), (3, .ptr ⟨1, 0⟩ 1 0 0), (5, ownV ⟨1, 8192⟩ (g.2.map encP)), (6, .int .i64 g.1)])
    (fun g => [(⟨1, 0⟩, ⟨true, false, 2, [encS s]⟩), (⟨1, 8192⟩, blkV 3 (g.2.map encP))]) (fun g => t.length - g.1)
    (fun g => g.1 ≤ t.length ∧ g.2.length ≤ g.1 ∧ g.2 = rangeL (t.take g.1) s) (0, []) goes ⟨Nat.zero_le _, Nat.le_refl _, rfl⟩ ?_
  rintro ⟨i, o⟩ ⟨hi, hol, ho⟩
  dsimp only at hi hol ho ⊢
  repeat first | refine o_copy ?_ | refine nl ?_ | refine ct_seq ?_ | refine rg ?_ | refine ct_block ?_ | refine bq ?_ | refine o_loads ?_ | refine o_loadp ?_ | refine o_faddr ?_ | refine o_iaddr ?_ | refine o_iaddrO ?_ | refine o_iaddrR ?_ | refine o_add ?_ | refine o_cat ?_ | refine o_bin ?_ | refine o_lenq ?_ | refine o_len ?_ | refine o_loadsA ?_ | refine o_loadpA ?_ | refine o_box ?_ | refine o_bslice ?_
  refine cnd (fun h => ct_skip ?_) (fun h => ct_exit ?_)
  · have hlt : i < t.length := by have h' := of_decide_eq_true h; omega
    obtain ⟨y, hy⟩ : ∃ x, t[i]? = some x := ⟨_, List.getElem?_eq_getElem hlt⟩
    have hye := gm (enc := encP) (n := (i : Int)) hy (by omega)
    have hst := filt_step (fun p => hasL s p.key) hy
    have ho' : o = (t.take i).filter (fun p => hasL s p.key) := ho
    rw [← ho'] at hst
    repeat first | refine o_copy ?_ | refine nl ?_ | refine ct_seq ?_ | refine rg ?_ | refine ct_block ?_ | refine bq ?_ | refine cv0 (has_vc s y.key) ?_ | refine o_loads ?_ | refine o_loadp ?_ | refine o_faddr ?_ | refine o_iaddr ?_ | refine o_iaddrO ?_ | refine o_iaddrR ?_ | refine o_add ?_ | refine o_cat ?_ | refine o_bin ?_ | refine o_lenq ?_ | refine o_len ?_ | refine o_loadsA ?_ | refine o_loadpA ?_ | refine o_box ?_ | refine o_bslice ?_
    refine cnd (fun h2 => ?_) (fun h2 => ct_skip ?_)
    · rw [if_pos h2] at hst
      repeat first | refine o_copy ?_ | refine nl ?_ | refine ct_seq ?_ | refine rg ?_ | refine ct_block ?_ | refine bq ?_ | refine o_v (vap encP y) ?_ | refine o_loads ?_ | refine o_loadp ?_ | refine o_faddr ?_ | refine o_iaddr ?_ | refine o_iaddrO ?_ | refine o_iaddrR ?_ | refine o_add ?_ | refine o_cat ?_ | refine o_bin ?_ | refine o_lenq ?_ | refine o_len ?_ | refine o_loadsA ?_ | refine o_loadpA ?_ | refine o_box ?_ | refine o_bslice ?_
      exact agn (i + 1, o ++ [y]) ⟨by simp only; omega, by simp only [List.length_append, List.length_cons, List.length_nil]; omega, hst.symm⟩ goes
    · rw [if_neg (by simp [h2])] at hst
      repeat first | refine o_copy ?_ | refine nl ?_ | refine ct_seq ?_ | refine rg ?_ | refine ct_block ?_ | refine bq ?_ | refine o_loads ?_ | refine o_loadp ?_ | refine o_faddr ?_ | refine o_iaddr ?_ | refine o_iaddrO ?_ | refine o_iaddrR ?_ | refine o_add ?_ | refine o_cat ?_ | refine o_bin ?_ | refine o_lenq ?_ | refine o_len ?_ | refine o_loadsA ?_ | refine o_loadpA ?_ | refine o_box ?_ | refine o_bslice ?_
      exact agn (i + 1, o) ⟨by simp only; omega, by simp only; omega, hst.symm⟩ goes
  · have hge : i = t.length := by have h' := of_decide_eq_false h; omega
    subst hge
    rw [List.take_length] at ho
    subst ho
    repeat first | refine o_copy ?_ | refine nl ?_ | refine ct_seq ?_ | refine rg ?_ | refine ct_block ?_ | refine bq ?_ | refine o_loads ?_ | refine o_loadp ?_ | refine o_faddr ?_ | refine o_iaddr ?_ | refine o_iaddrO ?_ | refine o_iaddrR ?_ | refine o_add ?_ | refine o_cat ?_ | refine o_bin ?_ | refine o_lenq ?_ | refine o_len ?_ | refine o_loadsA ?_ | refine o_loadpA ?_ | refine o_box ?_ | refine o_bslice ?_
    exact ct_ret ⟨.inr rfl, oOwn rfl⟩
set_option maxHeartbeats 1000000 in
theorem rdrop_vc {q : PV} {t : List PairL} (s : SpanL) (hq : Sl q (t.map encP)) (hl : t.length ≤ 1000000) : VC Try.prog 21 [q, .agg (encS s)] [] (ownV ⟨0, 0⟩ ((dropL t s).map encP)) [blkV 3 ((dropL t s).map encP)] := by
  refine vc_of vf21 ?_ (Nat.le_of_ble_eq_true rfl) (by intro vs h; cases h)
  have hmt : (t.map encP).length = t.length := List.length_map ..
  repeat first | refine o_copy ?_ | refine nl ?_ | refine ct_seq ?_ | refine rg ?_ | refine ct_block ?_ | refine bq ?_ | refine o_loads ?_ | refine o_loadp ?_ | refine o_faddr ?_ | refine o_iaddr ?_ | refine o_iaddrO ?_ | refine o_iaddrR ?_ | refine o_add ?_ | refine o_cat ?_ | refine o_bin ?_ | refine o_lenq ?_ | refine o_len ?_ | refine o_loadsA ?_ | refine o_loadpA ?_ | refine o_box ?_ | refine o_bslice ?_ | refine o_not ?_
  refine ct_loopG (fun (g : Nat × List PairL) => [(0, q), (3, .ptr ⟨1, 0⟩ 1 0 0), (5, ownV ⟨1, 8192⟩ (g.2.map encP)), (6, .int .i64 g.1)])
    (fun g => [(⟨1, 0⟩, ⟨true, false, 2, [encS s]⟩), (⟨1, 8192⟩, blkV 3 (g.2.map encP))]) (fun g => t.length - g.1)
    (fun g => g.1 ≤ t.length ∧ g.2.length ≤ g.1 ∧ g.2 = dropL (t.take g.1) s) (0, []) goes ⟨Nat.zero_le _, Nat.le_refl _, rfl⟩ ?_
  rintro ⟨i, o⟩ ⟨hi, hol, ho⟩
  dsimp only at hi hol ho ⊢
  repeat first | refine o_copy ?_ | refine nl ?_ | refine ct_seq ?_ | refine rg ?_ | refine ct_block ?_ | refine bq ?_ | refine o_loads ?_ | refine o_loadp ?_ | refine o_faddr ?_ | refine o_iaddr ?_ | refine o_iaddrO ?_ | refine o_iaddrR ?_ | refine o_add ?_ | refine o_cat ?_ | refine o_bin ?_ | refine o_lenq ?_ | refine o_len ?_ | refine o_loadsA ?_ | refine o_loadpA ?_ | refine o_box ?_ | refine o_bslice ?_ | refine o_not ?_
  refine cnd (fun h => ct_skip ?_) (fun h => ct_exit ?_)
  · have hlt : i < t.length := by have h' := of_decide_eq_true h; omega
    obtain ⟨y, hy⟩ : ∃ x, t[i]? = some x := ⟨_, List.getElem?_eq_getElem hlt⟩
    have hye := gm (enc := encP) (n := (i : Int)) hy (by omega)
    have hst := filt_step (fun p => !hasL s p.key) hy
    have ho' : o = (t.take i).filter (fun p => !hasL s p.key) := ho
    rw [← ho'] at hst
    repeat first | refine o_copy ?_ | refine nl ?_ | refine ct_seq ?_ | refine rg ?_ | refine ct_block ?_ | refine bq ?_ | refine cv0 (has_vc s y.key) ?_ | refine o_loads ?_ | refine o_loadp ?_ | refine o_faddr ?_ | refine o_iaddr ?_ | refine o_iaddrO ?_ | refine o_iaddrR ?_ | refine o_add ?_ | refine o_cat ?_ | refine o_bin ?_ | refine o_lenq ?_ | refine o_len ?_ | refine o_loadsA ?_ | refine o_loadpA ?_ | refine o_box ?_ | refine o_bslice ?_ | refine o_not ?_
    refine cnd (fun h2 => ?_) (fun h2 => ct_skip ?_)
    · rw [if_pos h2] at hst
      repeat first | refine o_copy ?_ | refine nl ?_ | refine ct_seq ?_ | refine rg ?_ | refine ct_block ?_ | refine bq ?_ | refine o_v (vap encP y) ?_ | refine o_loads ?_ | refine o_loadp ?_ | refine o_faddr ?_ | refine o_iaddr ?_ | refine o_iaddrO ?_ | refine o_iaddrR ?_ | refine o_add ?_ | refine o_cat ?_ | refine o_bin ?_ | refine o_lenq ?_ | refine o_len ?_ | refine o_loadsA ?_ | refine o_loadpA ?_ | refine o_box ?_ | refine o_bslice ?_ | refine o_not ?_
      exact agn (i + 1, o ++ [y]) ⟨by simp only; omega, by simp only [List.length_append, List.length_cons, List.length_nil]; omega, hst.symm⟩ goes
    · rw [if_neg (by simp [h2])] at hst
      repeat first | refine o_copy ?_ | refine nl ?_ | refine ct_seq ?_ | refine rg ?_ | refine ct_block ?_ | refine bq ?_ | refine o_loads ?_ | refine o_loadp ?_ | refine o_faddr ?_ | refine o_iaddr ?_ | refine o_iaddrO ?_ | refine o_iaddrR ?_ | refine o_add ?_ | refine o_cat ?_ | refine o_bin ?_ | refine o_lenq ?_ | refine o_len ?_ | refine o_loadsA ?_ | refine o_loadpA ?_ | refine o_box ?_ | refine o_bslice ?_ | refine o_not ?_
      exact agn (i + 1, o) ⟨by simp only; omega, by simp only; omega, hst.symm⟩ goes
  · have hge : i = t.length := by have h' := of_decide_eq_false h; omega
    subst hge
    rw [List.take_length] at ho
    subst ho
    repeat first | refine o_copy ?_ | refine nl ?_ | refine ct_seq ?_ | refine rg ?_ | refine ct_block ?_ | refine bq ?_ | refine o_loads ?_ | refine o_loadp ?_ | refine o_faddr ?_ | refine o_iaddr ?_ | refine o_iaddrO ?_ | refine o_iaddrR ?_ | refine o_add ?_ | refine o_cat ?_ | refine o_bin ?_ | refine o_lenq ?_ | refine o_len ?_ | refine o_loadsA ?_ | refine o_loadpA ?_ | refine o_box ?_ | refine o_bslice ?_ | refine o_not ?_
    exact ct_ret ⟨.inr rfl, oOwn rfl⟩
set_option maxHeartbeats 1000000 in
theorem rdel_vc {q : PV} {t : List PairL} (k : Str) (hq : Sl q (t.map encP)) (hl : t.length ≤ 1000000) : VC Try.prog 24 [q, .str k] [] (ownV ⟨0, 0⟩ ((delL t k).map encP)) [blkV 3 ((delL t k).map encP)] := by
  refine vc_of vf24 ?_ (Nat.le_of_ble_eq_true rfl) (by intro vs h; cases h)
  have hmt : (t.map encP).length = t.length := List.length_map ..
  repeat first | refine o_copy ?_ | refine nl ?_ | refine ct_seq ?_ | refine rg ?_ | refine ct_block ?_ | refine bq ?_ | refine o_loads ?_ | refine o_loadp ?_ | refine o_faddr ?_ | refine o_iaddr ?_ | refine o_iaddrO ?_ | refine o_iaddrR ?_ | refine o_add ?_ | refine o_cat ?_ | refine o_bin ?_ | refine o_lenq ?_ | refine o_len ?_ | refine o_loadsA ?_ | refine o_loadpA ?_ | refine o_bslice ?_
  refine ct_loopG (fun (g : Nat × List PairL) => [(0, q), (1, .str k), (5, ownV ⟨1, 8192⟩ (g.2.map encP)), (6, .int .i64 g.1)])
    (fun g => [(⟨1, 8192⟩, blkV 3 (g.2.map encP))]) (fun g => t.length - g.1)
    (fun g => g.1 ≤ t.length ∧ g.2.length ≤ g.1 ∧ g.2 = delL (t.take g.1) k) (0, []) goes ⟨Nat.zero_le _, Nat.le_refl _, rfl⟩ ?_
  rintro ⟨i, o⟩ ⟨hi, hol, ho⟩
  dsimp only at hi hol ho ⊢
  repeat first | refine o_copy ?_ | refine nl ?_ | refine ct_seq ?_ | refine rg ?_ | refine ct_block ?_ | refine bq ?_ | refine o_loads ?_ | refine o_loadp ?_ | refine o_faddr ?_ | refine o_iaddr ?_ | refine o_iaddrO ?_ | refine o_iaddrR ?_ | refine o_add ?_ | refine o_cat ?_ | refine o_bin ?_ | refine o_lenq ?_ | refine o_len ?_ | refine o_loadsA ?_ | refine o_loadpA ?_ | refine o_bslice ?_
  refine cnd (fun h => ct_skip ?_) (fun h => ct_exit ?_)
  · have hlt : i < t.length := by have h' := of_decide_eq_true h; omega
    obtain ⟨y, hy⟩ : ∃ x, t[i]? = some x := ⟨_, List.getElem?_eq_getElem hlt⟩
    have hye := gm (enc := encP) (n := (i : Int)) hy (by omega)
    have hst := filt_step (fun p => !(p.key == k)) hy
    have ho' : o = (t.take i).filter (fun p => !(p.key == k)) := ho
    rw [← ho'] at hst
    repeat first | refine o_copy ?_ | refine nl ?_ | refine ct_seq ?_ | refine rg ?_ | refine ct_block ?_ | refine bq ?_ | refine o_loads ?_ | refine o_loadp ?_ | refine o_faddr ?_ | refine o_iaddr ?_ | refine o_iaddrO ?_ | refine o_iaddrR ?_ | refine o_add ?_ | refine o_cat ?_ | refine o_bin ?_ | refine o_lenq ?_ | refine o_len ?_ | refine o_loadsA ?_ | refine o_loadpA ?_ | refine o_bslice ?_
    refine cnd (fun h2 => ?_) (fun h2 => ct_skip ?_)
    · rw [if_pos h2] at hst
      repeat first | refine o_copy ?_ | refine nl ?_ | refine ct_seq ?_ | refine rg ?_ | refine ct_block ?_ | refine bq ?_ | refine o_v (vap encP y) ?_ | refine o_loads ?_ | refine o_loadp ?_ | refine o_faddr ?_ | refine o_iaddr ?_ | refine o_iaddrO ?_ | refine o_iaddrR ?_ | refine o_add ?_ | refine o_cat ?_ | refine o_bin ?_ | refine o_lenq ?_ | refine o_len ?_ | refine o_loadsA ?_ | refine o_loadpA ?_ | refine o_bslice ?_
      exact agn (i + 1, o ++ [y]) ⟨by simp only; omega, by simp only [List.length_append, List.length_cons, List.length_nil]; omega, hst.symm⟩ goes
    · rw [if_neg (by rw [h2]; decide)] at hst
      repeat first | refine o_copy ?_ | refine nl ?_ | refine ct_seq ?_ | refine rg ?_ | refine ct_block ?_ | refine bq ?_ | refine o_loads ?_ | refine o_loadp ?_ | refine o_faddr ?_ | refine o_iaddr ?_ | refine o_iaddrO ?_ | refine o_iaddrR ?_ | refine o_add ?_ | refine o_cat ?_ | refine o_bin ?_ | refine o_lenq ?_ | refine o_len ?_ | refine o_loadsA ?_ | refine o_loadpA ?_ | refine o_bslice ?_
      exact agn (i + 1, o) ⟨by simp only; omega, by simp only; omega, hst.symm⟩ goes
  · have hge : i = t.length := by have h' := of_decide_eq_false h; omega
    subst hge
    rw [List.take_length] at ho
    subst ho
    repeat first | refine o_copy ?_ | refine nl ?_ | refine ct_seq ?_ | refine rg ?_ | refine ct_block ?_ | refine bq ?_ | refine o_loads ?_ | refine o_loadp ?_ | refine o_faddr ?_ | refine o_iaddr ?_ | refine o_iaddrO ?_ | refine o_iaddrR ?_ | refine o_add ?_ | refine o_cat ?_ | refine o_bin ?_ | refine o_lenq ?_ | refine o_len ?_ | refine o_loadsA ?_ | refine o_loadpA ?_ | refine o_bslice ?_
    exact ct_ret ⟨.inr rfl, oOwn rfl⟩
end Go.Proofs
open Go.V Go.Pu
set_option linter.unusedVariables false
set_option linter.unusedSimpArgs false
set_option maxRecDepth 20000
namespace Go.Proofs
/-- downspout/downspoutref04.Union -/
def vc26 : VCode :=
 (.seq
 (.region 0 false [
 ⟨(some 4), .copy (.c .nils), none, 0, []⟩])
 (.seq
 (.region 1 false [
 ⟨(some 7), .bslice 3 [(.str []), (.str []), (.int .i64 0)] 0 [], none, 8192, []⟩,
 ⟨(some 8), .copy (.t 0), none, 8200, []⟩,
 ⟨(some 9), .append 3 40 [(.str []), (.str []), (.int .i64 0)] (.t 7) (.t 8), none, 8208, [0, 1]⟩,
 ⟨(some 5), .copy (.t 9), none, 8216, [2, 0, 1]⟩])
 (.seq
 (.seq
 (.region 2 false [
 ⟨(some 6), .copy (.c (.int .i64 0)), none, 16384, []⟩])
 (.block 0
 (.loop
 (.seq
 (.seq
 (.region 3 false [
 ⟨(some 10), .copy (.t 6), none, 24576, []⟩,
 ⟨(some 11), .copy (.t 1), none, 24584, []⟩,
 ⟨(some 12), .len (.t 11), none, 24592, [1]⟩,
 ⟨(some 13), .bin .lss (.t 10) (.t 12), none, 24600, [0, 2, 1]⟩])
 (.cond (.t 13)
 .skip
 (.exit 0)))
 (.seq
 (.block 1
 (.region 5 false [
 ⟨(some 16), .copy (.t 5), none, 40960, []⟩,
 ⟨(some 17), .copy (.t 1), none, 40968, []⟩,
 ⟨(some 18), .copy (.t 6), none, 40976, []⟩,
 ⟨(some 19), .iaddr 3 (.t 17) (.t 18), none, 40984, [1, 2]⟩,
 ⟨(some 20), .load true 3 (.t 19), none, 40992, [3, 1, 2]⟩,
 ⟨(some 21), .call (.c (.fn 12 [])) [(.t 16), (.t 20)], none, 41000, [0, 4, 3, 1, 2]⟩,
 ⟨(some 5), .copy (.t 21), none, 41008, [5, 0, 4, 3, 1, 2]⟩]))
 (.region 4 false [
 ⟨(some 14), .copy (.t 6), none, 32768, []⟩,
 ⟨(some 15), .bin .add (.t 14) (.c (.int .i64 1)), none, 32776, [0]⟩,
 ⟨(some 6), .copy (.t 15), none, 32784, [1, 0]⟩]))))))
 (.seq
 (.region 6 false [
 ⟨(some 22), .copy (.t 5), none, 49152, []⟩,
 ⟨(some 4), .copy (.t 22), none, 49160, [0]⟩])
 .ret))))
theorem vf26 : VF Try.prog 26 = some (23, vc26, [.tmp 4]) := by kernel_rfl
/-- downspout/downspoutref04.Moved -/
def vc29 : VCode :=
 (.seq
 (.region 0 false [
 ⟨(some 6), .copy (.c .nils), none, 0, []⟩])
 (.seq
 (.region 1 false [
 ⟨(some 9), .bslice 3 [(.str []), (.str []), (.int .i64 0)] 0 [], none, 8192, []⟩,
 ⟨(some 7), .copy (.t 9), none, 8200, [0]⟩])
 (.seq
 (.seq
 (.region 2 false [
 ⟨(some 8), .copy (.c (.int .i64 0)), none, 16384, []⟩])
 (.block 0
 (.loop
 (.seq
 (.seq
 (.region 3 false [
 ⟨(some 10), .copy (.t 8), none, 24576, []⟩,
 ⟨(some 11), .copy (.t 0), none, 24584, []⟩,
 ⟨(some 12), .len (.t 11), none, 24592, [1]⟩,
 ⟨(some 13), .bin .lss (.t 10) (.t 12), none, 24600, [0, 2, 1]⟩])
 (.cond (.t 13)
 .skip
 (.exit 0)))
 (.seq
 (.block 1
 (.seq
 (.region 5 false [
 ⟨(some 16), .copy (.t 0), none, 40960, []⟩,
 ⟨(some 17), .copy (.t 8), none, 40968, []⟩,
 ⟨(some 18), .iaddr 3 (.t 16) (.t 17), none, 40976, [0, 1]⟩,
 ⟨(some 19), .faddr 0 (.t 18), none, 40984, [2, 0, 1]⟩,
 ⟨(some 20), .load false 1 (.t 19), none, 40992, [3, 2, 0, 1]⟩,
 ⟨(some 21), .copy (.t 1), none, 41000, []⟩,
 ⟨(some 22), .call (.c (.fn 34 [])) [(.t 20), (.t 21)], none, 41008, [4, 3, 2, 0, 1, 5]⟩])
 (.cond (.t 22)
 (.region 6 true [
 ⟨(some 23), .copy (.t 7), none, 49152, []⟩,
 ⟨(some 24), .copy (.t 2), none, 49160, []⟩,
 ⟨(some 25), .copy (.t 0), none, 49168, []⟩,
 ⟨(some 26), .copy (.t 8), none, 49176, []⟩,
 ⟨(some 27), .iaddr 3 (.t 25) (.t 26), none, 49184, [2, 3]⟩,
 ⟨(some 28), .faddr 0 (.t 27), none, 49192, [4, 2, 3]⟩,
 ⟨(some 29), .load false 1 (.t 28), none, 49200, [5, 4, 2, 3]⟩,
 ⟨(some 30), .copy (.t 1), none, 49208, []⟩,
 ⟨(some 31), .lenS (.t 30), none, 49216, [7]⟩,
 ⟨(some 32), .slstr (.t 29) (some (.t 31)) none, none, 49224, [6, 5, 4, 2, 3, 8, 7]⟩,
 ⟨(some 33), .bin .add (.t 24) (.t 32), none, 49232, [1, 9, 6, 5, 4, 2, 3, 8, 7]⟩,
 ⟨(some 34), .copy (.t 0), none, 49240, []⟩,
 ⟨(some 35), .copy (.t 8), none, 49248, []⟩,
 ⟨(some 36), .iaddr 3 (.t 34) (.t 35), none, 49256, [11, 12]⟩,
 ⟨(some 37), .faddr 1 (.t 36), none, 49264, [13, 11, 12]⟩,
 ⟨(some 38), .load false 1 (.t 37), none, 49272, [14, 13, 11, 12]⟩,
 ⟨(some 39), .copy (.t 0), none, 49280, []⟩,
 ⟨(some 40), .copy (.t 8), none, 49288, []⟩,
 ⟨(some 41), .iaddr 3 (.t 39) (.t 40), none, 49296, [16, 17]⟩,
 ⟨(some 42), .faddr 2 (.t 41), none, 49304, [18, 16, 17]⟩,
 ⟨(some 43), .load false 1 (.t 42), none, 49312, [19, 18, 16, 17]⟩,
 ⟨(some 44), .build [(.str []), (.str []), (.int .i64 0)] [(0, 1, (.t 33)), (1, 1, (.t 38)), (2, 1, (.t 43))], none, 49320, [10, 1, 9, 6, 5, 4, 2, 3, 8, 7, 15, 14, 13, 11, 12, 20, 19, 18, 16, 17]⟩,
 ⟨(some 45), .bslice 3 [(.str []), (.str []), (.int .i64 0)] 1 [(0, (.t 44))], none, 49328, [21, 10, 1, 9, 6, 5, 4, 2, 3, 8, 7, 15, 14, 13, 11, 12, 20, 19, 18, 16, 17]⟩,
 ⟨(some 46), .append 3 40 [(.str []), (.str []), (.int .i64 0)] (.t 23) (.t 45), none, 49336, [0, 22, 21, 10, 1, 9, 6, 5, 4, 2, 3, 8, 7, 15, 14, 13, 11, 12, 20, 19, 18, 16, 17]⟩,
 ⟨(some 7), .copy (.t 46), none, 49344, [23, 0, 22, 21, 10, 1, 9, 6, 5, 4, 2, 3, 8, 7, 15, 14, 13, 11, 12, 20, 19, 18, 16, 17]⟩])
 .skip)))
 (.region 4 false [
 ⟨(some 14), .copy (.t 8), none, 32768, []⟩,
 ⟨(some 15), .bin .add (.t 14) (.c (.int .i64 1)), none, 32776, [0]⟩,
 ⟨(some 8), .copy (.t 15), none, 32784, [1, 0]⟩]))))))
 (.seq
 (.region 7 false [
 ⟨(some 47), .copy (.t 7), none, 57344, []⟩,
 ⟨(some 6), .copy (.t 47), none, 57352, [0]⟩])
 .ret))))
theorem vf29 : VF Try.prog 29 = some (48, vc29, [.tmp 6]) := by kernel_rfl
set_option maxHeartbeats 1000000 in
theorem runion_vc0 {a b : List PairL} (ha : a.length ≤ 1000000) (hb : b.length ≤ 1000000) : VC Try.prog 26 [.sh false (a.map encP), .sh false (b.map encP)] [] (ownV ⟨0, 0⟩ ((b.foldl putL a).map encP)) [blkV 3 ((b.foldl putL a).map encP)] := by
  refine vc_of vf26 ?_ (Nat.le_of_ble_eq_true rfl) (by intro vs h; cases h)
  have hmb : (b.map encP).length = b.length := List.length_map ..
  repeat first | refine o_copy ?_ | refine nl ?_ | refine ct_seq ?_ | refine rg ?_ | refine ct_block ?_ | refine bq ?_ | refine o_v (vaps encP [] a) ?_ | refine o_iaddr ?_ | refine o_iaddrO ?_ | refine o_iaddrR ?_ | refine o_add ?_ | refine o_cat ?_ | refine o_bin ?_ | refine o_lenq ?_ | refine o_len ?_ | refine o_loadsA ?_ | refine o_loadpA ?_ | refine o_bslice ?_
  refine ct_loopG (fun (g : Nat × List PairL) => [(1, .sh false (b.map encP)), (5, ownV ⟨1, 8192⟩ (g.2.map encP)), (6, .int .i64 g.1)])
    (fun g => [(⟨1, 8192⟩, blkV 3 (g.2.map encP))]) (fun g => b.length - g.1)
    (fun g => g.1 ≤ b.length ∧ g.2.length ≤ a.length + g.1 ∧ (b.drop g.1).foldl putL g.2 = b.foldl putL a) (0, a) goes ⟨Nat.zero_le _, Nat.le_refl _, rfl⟩ ?_
  rintro ⟨i, o⟩ ⟨hi, hol, hv⟩
  dsimp only at hi hol hv ⊢
  repeat first | refine o_copy ?_ | refine nl ?_ | refine ct_seq ?_ | refine rg ?_ | refine ct_block ?_ | refine bq ?_ | refine o_iaddr ?_ | refine o_iaddrO ?_ | refine o_iaddrR ?_ | refine o_add ?_ | refine o_cat ?_ | refine o_bin ?_ | refine o_lenq ?_ | refine o_len ?_ | refine o_loadsA ?_ | refine o_loadpA ?_ | refine o_bslice ?_
  refine cnd (fun h => ct_skip ?_) (fun h => ct_exit ?_)
  · have hlt : i < b.length := by have h' := of_decide_eq_true h; omega
    obtain ⟨x, hx⟩ : ∃ x, b[i]? = some x := ⟨_, List.getElem?_eq_getElem hlt⟩
    have hxe := gm (enc := encP) (n := (i : Int)) hx (by omega)
    rw [drop_get hx, List.foldl_cons] at hv
    repeat first | refine o_copy ?_ | refine nl ?_ | refine ct_seq ?_ | refine rg ?_ | refine ct_block ?_ | refine bq ?_ | refine cv (put_vc (xs := o) (p := x) Sl.sh (by omega)) ?_ | refine o_iaddr ?_ | refine o_iaddrO ?_ | refine o_iaddrR ?_ | refine o_add ?_ | refine o_cat ?_ | refine o_bin ?_ | refine o_lenq ?_ | refine o_len ?_ | refine o_loadsA ?_ | refine o_loadpA ?_ | refine o_bslice ?_
    have hl := putL_len o x
    exact agn (i + 1, putL o x) ⟨by simp only; omega, by simp only; omega, hv⟩ (goesR ⟨1, 41000⟩ ⟨1, 8192⟩)
  · have hge : i = b.length := by have h' := of_decide_eq_false h; omega
    subst hge
    rw [List.drop_length] at hv
    repeat first | refine o_copy ?_ | refine nl ?_ | refine ct_seq ?_ | refine rg ?_ | refine ct_block ?_ | refine bq ?_ | refine o_iaddr ?_ | refine o_iaddrO ?_ | refine o_iaddrR ?_ | refine o_add ?_ | refine o_cat ?_ | refine o_bin ?_ | refine o_lenq ?_ | refine o_len ?_ | refine o_loadsA ?_ | refine o_loadpA ?_ | refine o_bslice ?_
    exact ct_ret ⟨.inr rfl, oOwn (congrArg (List.map encP) hv)⟩
theorem runion_vc {q p : PV} {a b : List PairL} (hq : Sl q (a.map encP)) (hp : Sl p (b.map encP)) (ha : a.length ≤ 1000000) (hb : b.length ≤ 1000000) : VC Try.prog 26 [q, p] [] (ownV ⟨0, 0⟩ ((b.foldl putL a).map encP)) [blkV 3 ((b.foldl putL a).map encP)] :=
  vc_weak (runion_vc0 ha hb) (.cons (PLe.sl hq) (.cons (PLe.sl hp) .nil)) (PLe.refl _)
set_option maxHeartbeats 1000000 in
theorem rmoved_vc {q : PV} {t : List PairL} (f to : Str) (hq : Sl q (t.map encP)) (hl : t.length ≤ 100000) (hk : ∀ p ∈ t, p.key.length ≤ 100000) (hf : f.length ≤ 100000) (hto : to.length ≤ 100000) : VC Try.prog 29 [q, .str f, .str to] [] (ownV ⟨0, 0⟩ ((movedT t f to).map encP)) [blkV 3 ((movedT t f to).map encP)] := by
  refine vc_of vf29 ?_ (Nat.le_of_ble_eq_true rfl) (by intro vs h; cases h)
  have hmt : (t.map encP).length = t.length := List.length_map ..
  repeat first | refine o_copy ?_ | refine nl ?_ | refine ct_seq ?_ | refine rg ?_ | refine ct_block ?_ | refine bq ?_ | refine o_loads ?_ | refine o_loadp ?_ | refine o_faddr ?_ | refine o_iaddr ?_ | refine o_iaddrO ?_ | refine o_iaddrR ?_ | refine o_add ?_ | refine o_cat ?_ | refine o_bin ?_ | refine o_lenq ?_ | refine o_len ?_ | refine o_bslice ?_ | refine o_build ?_ | refine o_lenS ?_
  refine ct_loopG (fun (g : Nat × List PairL) => [(0, q), (1, .str f), (2, .str to), (7, ownV ⟨1, 8192⟩ (g.2.map encP)), (8, .int .i64 g.1)])
    (fun g => [(⟨1, 8192⟩, blkV 3 (g.2.map encP))]) (fun g => t.length - g.1)
    (fun g => g.1 ≤ t.length ∧ g.2.length ≤ g.1 ∧ g.2 = movedT (t.take g.1) f to) (0, []) goes ⟨Nat.zero_le _, Nat.le_refl _, rfl⟩ ?_
  rintro ⟨i, o⟩ ⟨hi, hol, ho⟩
  dsimp only at hi hol ho ⊢
  repeat first | refine o_copy ?_ | refine nl ?_ | refine ct_seq ?_ | refine rg ?_ | refine ct_block ?_ | refine bq ?_ | refine o_loads ?_ | refine o_loadp ?_ | refine o_faddr ?_ | refine o_iaddr ?_ | refine o_iaddrO ?_ | refine o_iaddrR ?_ | refine o_add ?_ | refine o_cat ?_ | refine o_bin ?_ | refine o_lenq ?_ | refine o_len ?_ | refine o_bslice ?_ | refine o_build ?_ | refine o_lenS ?_
  refine cnd (fun h => ct_skip ?_) (fun h => ct_exit ?_)
  · have hlt : i < t.length := by have h' := of_decide_eq_true h; omega
    obtain ⟨y, hy⟩ : ∃ x, t[i]? = some x := ⟨_, List.getElem?_eq_getElem hlt⟩
    have hye := gm (enc := encP) (n := (i : Int)) hy (by omega)
    have hyk := hk y (List.mem_of_getElem? hy)
    have hst : movedT (t.take (i + 1)) f to = if beginsL y.key f = true then o ++ [mvP f to y] else o := by
      have := filt_step (fun p => beginsL p.key f) hy
      unfold movedT srcL at ho ⊢
      rw [this, ho]
      split <;> simp
    have hb := begins_vc y.key f (by omega) (by omega)
    repeat first | refine o_copy ?_ | refine nl ?_ | refine ct_seq ?_ | refine rg ?_ | refine ct_block ?_ | refine bq ?_ | refine cv0 hb ?_ | refine o_loads ?_ | refine o_loadp ?_ | refine o_faddr ?_ | refine o_iaddr ?_ | refine o_iaddrO ?_ | refine o_iaddrR ?_ | refine o_add ?_ | refine o_cat ?_ | refine o_bin ?_ | refine o_lenq ?_ | refine o_len ?_ | refine o_bslice ?_ | refine o_build ?_ | refine o_lenS ?_
    refine cnd (fun h2 => ?_) (fun h2 => ct_skip ?_)
    · rw [if_pos h2] at hst
      obtain ⟨r, hr⟩ := begins_iff.1 h2
      have hfp : f.length ≤ y.key.length := by rw [hr, List.length_append]; omega
      have hdl : (y.key.drop f.length).length ≤ 100000 := by rw [List.length_drop]; omega
      repeat first | refine o_copy ?_ | refine nl ?_ | refine ct_seq ?_ | refine rg ?_ | refine ct_block ?_ | refine bq ?_ | refine o_v0 (vslD f.length hfp) ?_ | refine o_v (vap encP (mvP f to y)) ?_ | refine o_loads ?_ | refine o_loadp ?_ | refine o_faddr ?_ | refine o_iaddr ?_ | refine o_iaddrO ?_ | refine o_iaddrR ?_ | refine o_add ?_ | refine o_cat ?_ | refine o_bin ?_ | refine o_lenq ?_ | refine o_len ?_ | refine o_bslice ?_ | refine o_build ?_ | refine o_lenS ?_
      exact agn (i + 1, o ++ [mvP f to y]) ⟨by simp only; omega, by simp only [List.length_append, List.length_cons, List.length_nil]; omega, hst.symm⟩ goes
    · rw [if_neg (by simp [h2])] at hst
      repeat first | refine o_copy ?_ | refine nl ?_ | refine ct_seq ?_ | refine rg ?_ | refine ct_block ?_ | refine bq ?_ | refine o_loads ?_ | refine o_loadp ?_ | refine o_faddr ?_ | refine o_iaddr ?_ | refine o_iaddrO ?_ | refine o_iaddrR ?_ | refine o_add ?_ | refine o_cat ?_ | refine o_bin ?_ | refine o_lenq ?_ | refine o_len ?_ | refine o_bslice ?_ | refine o_build ?_ | refine o_lenS ?_
      exact agn (i + 1, o) ⟨by simp only; omega, by simp only; omega, hst.symm⟩ goes
  · have hge : i = t.length := by have h' := of_decide_eq_false h; omega
    subst hge
    rw [List.take_length] at ho
    subst ho
    repeat first | refine o_copy ?_ | refine nl ?_ | refine ct_seq ?_ | refine rg ?_ | refine ct_block ?_ | refine bq ?_ | refine o_loads ?_ | refine o_loadp ?_ | refine o_faddr ?_ | refine o_iaddr ?_ | refine o_iaddrO ?_ | refine o_iaddrR ?_ | refine o_add ?_ | refine o_cat ?_ | refine o_bin ?_ | refine o_lenq ?_ | refine o_len ?_ | refine o_bslice ?_ | refine o_build ?_ | refine o_lenS ?_
    exact ct_ret ⟨.inr rfl, oOwn rfl⟩
end Go.Proofs
