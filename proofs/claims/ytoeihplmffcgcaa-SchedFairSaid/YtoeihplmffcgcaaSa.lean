/- Sa -/
import Derived.Test.YtoeihplmffcgcaaProg
import Derived.Test.YtoeihplmffcgcaaVD
import Derived.Test.YtoeihplmffcgcaaVC
import Derived.Test.YtoeihplmffcgcaaPu
open Go.V Go.Pu
set_option linter.unusedVariables false
set_option linter.unusedSimpArgs false
set_option maxRecDepth 20000
namespace Go.Proofs
/-- downspout/downspoutref31.SameJobs -/
def vc17 : VCode :=
 (.seq
 (.region 0 false [
 ⟨(some 4), .copy (.c (.bool false)), none, 0, []⟩])
 (.seq
 (.seq
 (.region 1 false [
 ⟨(some 6), .copy (.t 0), none, 8192, []⟩,
 ⟨(some 7), .len (.t 6), none, 8200, [0]⟩,
 ⟨(some 8), .copy (.t 1), none, 8208, []⟩,
 ⟨(some 9), .len (.t 8), none, 8216, [2]⟩,
 ⟨(some 10), .bin .neq (.t 7) (.t 9), none, 8224, [1, 0, 3, 2]⟩])
 (.cond (.t 10)
 (.seq
 (.region 2 false [
 ⟨(some 4), .copy (.c (.bool false)), none, 16384, []⟩])
 .ret)
 .skip))
 (.seq
 (.seq
 (.region 3 false [
 ⟨(some 5), .copy (.c (.int .i64 0)), none, 24576, []⟩])
 (.block 0
 (.loop
 (.seq
 (.seq
 (.region 4 false [
 ⟨(some 11), .copy (.t 5), none, 32768, []⟩,
 ⟨(some 12), .copy (.t 0), none, 32776, []⟩,
 ⟨(some 13), .len (.t 12), none, 32784, [1]⟩,
 ⟨(some 14), .bin .lss (.t 11) (.t 13), none, 32792, [0, 2, 1]⟩])
 (.cond (.t 14)
 .skip
 (.exit 0)))
 (.seq
 (.block 1
 (.seq
 (.region 6 true [
 ⟨(some 17), .copy (.t 0), none, 49152, []⟩,
 ⟨(some 18), .copy (.t 5), none, 49160, []⟩,
 ⟨(some 19), .iaddr 3 (.t 17) (.t 18), none, 49168, [0, 1]⟩,
 ⟨(some 20), .load true 3 (.t 19), none, 49176, [2, 0, 1]⟩,
 ⟨(some 21), .copy (.t 1), none, 49184, []⟩,
 ⟨(some 22), .copy (.t 5), none, 49192, []⟩,
 ⟨(some 23), .iaddr 3 (.t 21) (.t 22), none, 49200, [4, 5]⟩,
 ⟨(some 24), .load true 3 (.t 23), none, 49208, [6, 4, 5]⟩,
 ⟨(some 25), .eqc true [1, 1, 1] (.t 20) (.t 24), none, 49216, [3, 2, 0, 1, 7, 6, 4, 5]⟩])
 (.cond (.t 25)
 (.seq
 (.region 7 false [
 ⟨(some 4), .copy (.c (.bool false)), none, 57344, []⟩])
 .ret)
 .skip)))
 (.region 5 false [
 ⟨(some 15), .copy (.t 5), none, 40960, []⟩,
 ⟨(some 16), .bin .add (.t 15) (.c (.int .i64 1)), none, 40968, [0]⟩,
 ⟨(some 5), .copy (.t 16), none, 40976, [1, 0]⟩]))))))
 (.seq
 (.region 8 false [
 ⟨(some 4), .copy (.c (.bool true)), none, 65536, []⟩])
 .ret))))
theorem vf17 : VF Try.prog 17 = some (26, vc17, [.tmp 4]) := by kernel_rfl
/-- downspout/sched.Idle -/
def vc18 : VCode :=
 (.seq
 (.region 0 false [
 ⟨(some 1), .box (.t 0), none, 0, []⟩,
 ⟨(some 2), .copy (.c (.bool false)), none, 8, []⟩])
 (.seq
 (.region 1 false [
 ⟨(some 3), .load true 4 (.t 1), none, 8192, []⟩,
 ⟨(some 4), .call (.c (.fn 29 [])) [(.t 3)], none, 8200, [0]⟩,
 ⟨(some 5), .bin .eql (.t 4) (.c (.int .i64 0)), none, 8208, [1, 0]⟩,
 ⟨(some 2), .copy (.t 5), none, 8216, [2, 1, 0]⟩])
 .ret))
theorem vf18 : VF Try.prog 18 = some (6, vc18, [.tmp 2]) := by kernel_rfl
/-- downspout/downspoutref31.Waiting -/
def vc19 : VCode :=
 (.seq
 (.region 0 false [
 ⟨(some 1), .box (.t 0), none, 0, []⟩,
 ⟨(some 2), .copy (.c (.int .i64 0)), none, 8, []⟩])
 (.seq
 (.region 1 false [
 ⟨(some 3), .copy (.c (.int .i64 0)), none, 8192, []⟩])
 (.seq
 (.seq
 (.region 2 false [
 ⟨(some 4), .copy (.c (.int .i64 0)), none, 16384, []⟩])
 (.block 0
 (.loop
 (.seq
 (.seq
 (.region 3 false [
 ⟨(some 5), .copy (.t 4), none, 24576, []⟩,
 ⟨(some 6), .faddr 3 (.t 1), none, 24584, []⟩,
 ⟨(some 7), .load false 1 (.t 6), none, 24592, [1]⟩,
 ⟨(some 8), .len (.t 7), none, 24600, [2, 1]⟩,
 ⟨(some 9), .bin .lss (.t 5) (.t 8), none, 24608, [0, 3, 2, 1]⟩])
 (.cond (.t 9)
 .skip
 (.exit 0)))
 (.seq
 (.block 1
 (.region 5 false [
 ⟨(some 12), .copy (.t 3), none, 40960, []⟩,
 ⟨(some 13), .faddr 3 (.t 1), none, 40968, []⟩,
 ⟨(some 14), .load false 1 (.t 13), none, 40976, [1]⟩,
 ⟨(some 15), .copy (.t 4), none, 40984, []⟩,
 ⟨(some 16), .iaddr 1 (.t 14) (.t 15), none, 40992, [2, 1, 3]⟩,
 ⟨(some 17), .load false 1 (.t 16), none, 41000, [4, 2, 1, 3]⟩,
 ⟨(some 18), .len (.t 17), none, 41008, [5, 4, 2, 1, 3]⟩,
 ⟨(some 19), .bin .add (.t 12) (.t 18), none, 41016, [0, 6, 5, 4, 2, 1, 3]⟩,
 ⟨(some 3), .copy (.t 19), none, 41024, [7, 0, 6, 5, 4, 2, 1, 3]⟩]))
 (.region 4 false [
 ⟨(some 10), .copy (.t 4), none, 32768, []⟩,
 ⟨(some 11), .bin .add (.t 10) (.c (.int .i64 1)), none, 32776, [0]⟩,
 ⟨(some 4), .copy (.t 11), none, 32784, [1, 0]⟩]))))))
 (.seq
 (.region 6 false [
 ⟨(some 20), .copy (.t 3), none, 49152, []⟩,
 ⟨(some 2), .copy (.t 20), none, 49160, [0]⟩])
 .ret))))
theorem vf19 : VF Try.prog 19 = some (21, vc19, [.tmp 2]) := by kernel_rfl
/-- downspout/downspoutref31.Of -/
def vc22 : VCode :=
 (.seq
 (.region 0 false [
 ⟨(some 4), .copy (.c .nils), none, 0, []⟩])
 (.seq
 (.region 1 false [
 ⟨(some 7), .bslice 3 [(.int .i64 0), (.int .i64 0), (.int .i64 0)] 0 [], none, 8192, []⟩,
 ⟨(some 5), .copy (.t 7), none, 8200, [0]⟩])
 (.seq
 (.seq
 (.region 2 false [
 ⟨(some 6), .copy (.c (.int .i64 0)), none, 16384, []⟩])
 (.block 0
 (.loop
 (.seq
 (.seq
 (.region 3 false [
 ⟨(some 8), .copy (.t 6), none, 24576, []⟩,
 ⟨(some 9), .copy (.t 0), none, 24584, []⟩,
 ⟨(some 10), .len (.t 9), none, 24592, [1]⟩,
 ⟨(some 11), .bin .lss (.t 8) (.t 10), none, 24600, [0, 2, 1]⟩])
 (.cond (.t 11)
 .skip
 (.exit 0)))
 (.seq
 (.block 1
 (.seq
 (.region 5 false [
 ⟨(some 14), .copy (.t 0), none, 40960, []⟩,
 ⟨(some 15), .copy (.t 6), none, 40968, []⟩,
 ⟨(some 16), .iaddr 3 (.t 14) (.t 15), none, 40976, [0, 1]⟩,
 ⟨(some 17), .faddr 0 (.t 16), none, 40984, [2, 0, 1]⟩,
 ⟨(some 18), .load false 1 (.t 17), none, 40992, [3, 2, 0, 1]⟩,
 ⟨(some 19), .copy (.t 1), none, 41000, []⟩,
 ⟨(some 20), .bin .eql (.t 18) (.t 19), none, 41008, [4, 3, 2, 0, 1, 5]⟩])
 (.cond (.t 20)
 (.region 6 false [
 ⟨(some 21), .copy (.t 5), none, 49152, []⟩,
 ⟨(some 22), .copy (.t 0), none, 49160, []⟩,
 ⟨(some 23), .copy (.t 6), none, 49168, []⟩,
 ⟨(some 24), .iaddr 3 (.t 22) (.t 23), none, 49176, [1, 2]⟩,
 ⟨(some 25), .load true 3 (.t 24), none, 49184, [3, 1, 2]⟩,
 ⟨(some 26), .bslice 3 [(.int .i64 0), (.int .i64 0), (.int .i64 0)] 1 [(0, (.t 25))], none, 49192, [4, 3, 1, 2]⟩,
 ⟨(some 27), .append 3 24 [(.int .i64 0), (.int .i64 0), (.int .i64 0)] (.t 21) (.t 26), none, 49200, [0, 5, 4, 3, 1, 2]⟩,
 ⟨(some 5), .copy (.t 27), none, 49208, [6, 0, 5, 4, 3, 1, 2]⟩])
 .skip)))
 (.region 4 false [
 ⟨(some 12), .copy (.t 6), none, 32768, []⟩,
 ⟨(some 13), .bin .add (.t 12) (.c (.int .i64 1)), none, 32776, [0]⟩,
 ⟨(some 6), .copy (.t 13), none, 32784, [1, 0]⟩]))))))
 (.seq
 (.region 7 false [
 ⟨(some 28), .copy (.t 5), none, 57344, []⟩,
 ⟨(some 4), .copy (.t 28), none, 57352, [0]⟩])
 .ret))))
theorem vf22 : VF Try.prog 22 = some (29, vc22, [.tmp 4]) := by kernel_rfl
/-- downspout/downspoutref31.Total -/
def vc23 : VCode :=
 (.seq
 (.region 0 false [
 ⟨(some 2), .copy (.c (.int .i64 0)), none, 0, []⟩])
 (.seq
 (.region 1 false [
 ⟨(some 3), .copy (.c (.int .i64 0)), none, 8192, []⟩])
 (.seq
 (.seq
 (.region 2 false [
 ⟨(some 4), .copy (.c (.int .i64 0)), none, 16384, []⟩])
 (.block 0
 (.loop
 (.seq
 (.seq
 (.region 3 false [
 ⟨(some 5), .copy (.t 4), none, 24576, []⟩,
 ⟨(some 6), .copy (.t 0), none, 24584, []⟩,
 ⟨(some 7), .len (.t 6), none, 24592, [1]⟩,
 ⟨(some 8), .bin .lss (.t 5) (.t 7), none, 24600, [0, 2, 1]⟩])
 (.cond (.t 8)
 .skip
 (.exit 0)))
 (.seq
 (.block 1
 (.region 5 false [
 ⟨(some 11), .copy (.t 3), none, 40960, []⟩,
 ⟨(some 12), .copy (.t 0), none, 40968, []⟩,
 ⟨(some 13), .copy (.t 4), none, 40976, []⟩,
 ⟨(some 14), .iaddr 3 (.t 12) (.t 13), none, 40984, [1, 2]⟩,
 ⟨(some 15), .faddr 2 (.t 14), none, 40992, [3, 1, 2]⟩,
 ⟨(some 16), .load false 1 (.t 15), none, 41000, [4, 3, 1, 2]⟩,
 ⟨(some 17), .bin .add (.t 11) (.t 16), none, 41008, [0, 5, 4, 3, 1, 2]⟩,
 ⟨(some 3), .copy (.t 17), none, 41016, [6, 0, 5, 4, 3, 1, 2]⟩]))
 (.region 4 false [
 ⟨(some 9), .copy (.t 4), none, 32768, []⟩,
 ⟨(some 10), .bin .add (.t 9) (.c (.int .i64 1)), none, 32776, [0]⟩,
 ⟨(some 4), .copy (.t 10), none, 32784, [1, 0]⟩]))))))
 (.seq
 (.region 6 false [
 ⟨(some 18), .copy (.t 3), none, 49152, []⟩,
 ⟨(some 2), .copy (.t 18), none, 49160, [0]⟩])
 .ret))))
theorem vf23 : VF Try.prog 23 = some (19, vc23, [.tmp 2]) := by kernel_rfl
/-- downspout/downspoutref31.Ints -/
def vc24 : VCode :=
 (.seq
 (.region 0 false [
 ⟨(some 4), .copy (.c (.bool false)), none, 0, []⟩])
 (.seq
 (.seq
 (.region 1 false [
 ⟨(some 6), .copy (.t 0), none, 8192, []⟩,
 ⟨(some 7), .len (.t 6), none, 8200, [0]⟩,
 ⟨(some 8), .copy (.t 1), none, 8208, []⟩,
 ⟨(some 9), .len (.t 8), none, 8216, [2]⟩,
 ⟨(some 10), .bin .neq (.t 7) (.t 9), none, 8224, [1, 0, 3, 2]⟩])
 (.cond (.t 10)
 (.seq
 (.region 2 false [
 ⟨(some 4), .copy (.c (.bool false)), none, 16384, []⟩])
 .ret)
 .skip))
 (.seq
 (.seq
 (.region 3 false [
 ⟨(some 5), .copy (.c (.int .i64 0)), none, 24576, []⟩])
 (.block 0
 (.loop
 (.seq
 (.seq
 (.region 4 false [
 ⟨(some 11), .copy (.t 5), none, 32768, []⟩,
 ⟨(some 12), .copy (.t 0), none, 32776, []⟩,
 ⟨(some 13), .len (.t 12), none, 32784, [1]⟩,
 ⟨(some 14), .bin .lss (.t 11) (.t 13), none, 32792, [0, 2, 1]⟩])
 (.cond (.t 14)
 .skip
 (.exit 0)))
 (.seq
 (.block 1
 (.seq
 (.region 6 true [
 ⟨(some 17), .copy (.t 0), none, 49152, []⟩,
 ⟨(some 18), .copy (.t 5), none, 49160, []⟩,
 ⟨(some 19), .iaddr 1 (.t 17) (.t 18), none, 49168, [0, 1]⟩,
 ⟨(some 20), .load false 1 (.t 19), none, 49176, [2, 0, 1]⟩,
 ⟨(some 21), .copy (.t 1), none, 49184, []⟩,
 ⟨(some 22), .copy (.t 5), none, 49192, []⟩,
 ⟨(some 23), .iaddr 1 (.t 21) (.t 22), none, 49200, [4, 5]⟩,
 ⟨(some 24), .load false 1 (.t 23), none, 49208, [6, 4, 5]⟩,
 ⟨(some 25), .bin .neq (.t 20) (.t 24), none, 49216, [3, 2, 0, 1, 7, 6, 4, 5]⟩])
 (.cond (.t 25)
 (.seq
 (.region 7 false [
 ⟨(some 4), .copy (.c (.bool false)), none, 57344, []⟩])
 .ret)
 .skip)))
 (.region 5 false [
 ⟨(some 15), .copy (.t 5), none, 40960, []⟩,
 ⟨(some 16), .bin .add (.t 15) (.c (.int .i64 1)), none, 40968, [0]⟩,
 ⟨(some 5), .copy (.t 16), none, 40976, [1, 0]⟩]))))))
 (.seq
 (.region 8 false [
 ⟨(some 4), .copy (.c (.bool true)), none, 65536, []⟩])
 .ret))))
theorem vf24 : VF Try.prog 24 = some (26, vc24, [.tmp 4]) := by kernel_rfl
/-- downspout/sched.waiting -/
def vc29 : VCode :=
 (.seq
 (.region 0 false [
 ⟨(some 1), .box (.t 0), none, 0, []⟩,
 ⟨(some 2), .copy (.c (.int .i64 0)), none, 8, []⟩])
 (.seq
 (.region 1 false [
 ⟨(some 3), .copy (.c (.int .i64 0)), none, 8192, []⟩])
 (.seq
 (.seq
 (.region 2 false [
 ⟨(some 6), .faddr 3 (.t 1), none, 16384, []⟩,
 ⟨(some 7), .load false 1 (.t 6), none, 16392, [0]⟩,
 ⟨(some 8), .len (.t 7), none, 16400, [1, 0]⟩,
 ⟨(some 9), .copy (.c (.int .i64 0)), none, 16408, []⟩])
 (.block 0
 (.loop
 (.seq
 (.region 3 false [
 ⟨(some 10), .bin .lss (.t 9) (.t 8), none, 24576, []⟩])
 (.seq
 (.cond (.t 10)
 .skip
 (.exit 0))
 (.seq
 (.block 1
 (.seq
 (.region 4 false [
 ⟨(some 11), .iaddr 1 (.t 7) (.t 9), none, 32768, []⟩,
 ⟨(some 12), .load false 1 (.t 11), none, 32776, [0]⟩,
 ⟨(some 5), .copy (.t 12), none, 32784, [1, 0]⟩])
 (.region 5 false [
 ⟨(some 13), .copy (.t 3), none, 40960, []⟩,
 ⟨(some 14), .copy (.t 5), none, 40968, []⟩,
 ⟨(some 15), .len (.t 14), none, 40976, [1]⟩,
 ⟨(some 16), .bin .add (.t 13) (.t 15), none, 40984, [0, 2, 1]⟩,
 ⟨(some 3), .copy (.t 16), none, 40992, [3, 0, 2, 1]⟩])))
 (.region 6 false [
 ⟨(some 17), .bin .add (.t 9) (.c (.int .i64 1)), none, 49152, []⟩,
 ⟨(some 9), .copy (.t 17), none, 49160, [0]⟩])))))))
 (.seq
 (.region 7 false [
 ⟨(some 18), .copy (.t 3), none, 57344, []⟩,
 ⟨(some 2), .copy (.t 18), none, 57352, [0]⟩])
 .ret))))
theorem vf29 : VF Try.prog 29 = some (19, vc29, [.tmp 2]) := by kernel_rfl
abbrev encI (n : Int) : List PV := [.int .i64 n]
abbrev encJ (j : JobL) : List PV := [.int .i64 j.t, .int .i64 j.k, .int .i64 j.c]
abbrev encQ (l : List JobL) : List PV := [.sh false (l.map encJ)]
abbrev encSc (s : SchL) : List PV := [.sh false (s.w.map encI), .sh false (s.c.map encI), .int .i64 s.turn, .sh false (s.q.map encQ)]
theorem drop_get {α : Type} {l : List α} {i : Nat} {x : α} (h : l[i]? = some x) : l.drop i = x :: l.drop (i + 1) := by
  obtain ⟨h1, h2⟩ := List.getElem?_eq_some_iff.1 h
  rw [List.drop_eq_getElem_cons h1, h2]

theorem waiting_vc {s : SchL} (hq : s.q.length ≤ 1000000) (hw : waitL s.q ≤ 1000000) : VC Try.prog 29 [.agg (encSc s)] [] (.int .i64 (waitL s.q)) [] := by
  refine vc_of vf29 ?_ (Nat.le_of_ble_eq_true rfl) (by intro vs h; cases h)
  repeat first | refine o_copy ?_ | refine nl ?_ | refine ct_seq ?_ | refine rg ?_ | refine ct_block ?_ | refine bq ?_ | refine o_loads ?_ | refine o_loadp ?_ | refine o_faddr ?_ | refine o_iaddr ?_ | refine o_iaddrO ?_ | refine o_iaddrR ?_ | refine o_add ?_ | refine o_cat ?_ | refine o_bin ?_ | refine o_lenq ?_ | refine o_len ?_ | refine o_box ?_
  refine ct_loopG (fun (g : Nat) => [(3, .int .i64 (waitL (s.q.take g))), (7, .sh false (s.q.map encQ)), (8, .int .i64 (s.q.map encQ).length), (9, .int .i64 g)]) (fun g => []) (fun g => s.q.length - g)
    (fun g => g ≤ s.q.length) 0 goes (Nat.zero_le _) ?_
  intro i hi
  repeat first | refine o_copy ?_ | refine nl ?_ | refine ct_seq ?_ | refine rg ?_ | refine ct_block ?_ | refine bq ?_ | refine o_loads ?_ | refine o_loadp ?_ | refine o_faddr ?_ | refine o_iaddr ?_ | refine o_iaddrO ?_ | refine o_iaddrR ?_ | refine o_add ?_ | refine o_cat ?_ | refine o_bin ?_ | refine o_lenq ?_ | refine o_len ?_ | refine o_box ?_
  refine cnd (fun h => ct_skip ?_) (fun h => ct_exit ?_)
  · have hlt : i < s.q.length := by have h' := of_decide_eq_true h; simp only [List.length_map] at h'; omega
    obtain ⟨x, hx⟩ : ∃ x, s.q[i]? = some x := ⟨_, List.getElem?_eq_getElem hlt⟩
    have hxe := gm (enc := encQ) (n := (i : Int)) hx (by omega)
    have h1 := waitL_step hx
    have h2 := waitL_take s.q (i + 1)
    have hadd : IntKind.i64.wrap ((waitL (s.q.take i) : Int) + ((x.map encJ).length : Int)) = (waitL (s.q.take (i + 1)) : Int) := by
      rw [List.length_map, h1]
      exact (wrap64 (by omega) (by omega)).trans (by omega)
    repeat first | refine o_copy ?_ | refine nl ?_ | refine ct_seq ?_ | refine rg ?_ | refine ct_block ?_ | refine bq ?_ | refine o_addE ?_ | refine o_loads ?_ | refine o_loadp ?_ | refine o_faddr ?_ | refine o_iaddr ?_ | refine o_iaddrO ?_ | refine o_iaddrR ?_ | refine o_add ?_ | refine o_cat ?_ | refine o_bin ?_ | refine o_lenq ?_ | refine o_len ?_ | refine o_box ?_
    exact agn (i + 1) (by omega) goes
  · have hge : i = s.q.length := by have h' := of_decide_eq_false h; simp only [List.length_map] at h'; omega
    subst hge
    rw [List.take_length]
    repeat first | refine o_copy ?_ | refine nl ?_ | refine ct_seq ?_ | refine rg ?_ | refine ct_block ?_ | refine bq ?_ | refine o_loads ?_ | refine o_loadp ?_ | refine o_faddr ?_ | refine o_iaddr ?_ | refine o_iaddrO ?_ | refine o_iaddrR ?_ | refine o_add ?_ | refine o_cat ?_ | refine o_bin ?_ | refine o_lenq ?_ | refine o_len ?_ | refine o_box ?_
    exact ct_ret ⟨.inr rfl, oI rfl⟩
theorem rwaiting_vc {s : SchL} (hq : s.q.length ≤ 1000000) (hw : waitL s.q ≤ 1000000) : VC Try.prog 19 [.agg (encSc s)] [] (.int .i64 (waitL s.q)) [] := by
  refine vc_of vf19 ?_ (Nat.le_of_ble_eq_true rfl) (by intro vs h; cases h)
  repeat first | refine o_copy ?_ | refine nl ?_ | refine ct_seq ?_ | refine rg ?_ | refine ct_block ?_ | refine bq ?_ | refine o_loads ?_ | refine o_loadp ?_ | refine o_faddr ?_ | refine o_iaddr ?_ | refine o_iaddrO ?_ | refine o_iaddrR ?_ | refine o_add ?_ | refine o_cat ?_ | refine o_bin ?_ | refine o_lenq ?_ | refine o_len ?_ | refine o_box ?_
  refine ct_loopG (fun (g : Nat) => [(1, .ptr ⟨1, 0⟩ 1 0 0), (3, .int .i64 (waitL (s.q.take g))), (4, .int .i64 g)]) (fun g => [(⟨1, 0⟩, ⟨true, false, 4, [encSc s]⟩)]) (fun g => s.q.length - g)
    (fun g => g ≤ s.q.length) 0 goes (Nat.zero_le _) ?_
  intro i hi
  repeat first | refine o_copy ?_ | refine nl ?_ | refine ct_seq ?_ | refine rg ?_ | refine ct_block ?_ | refine bq ?_ | refine o_loads ?_ | refine o_loadp ?_ | refine o_faddr ?_ | refine o_iaddr ?_ | refine o_iaddrO ?_ | refine o_iaddrR ?_ | refine o_add ?_ | refine o_cat ?_ | refine o_bin ?_ | refine o_lenq ?_ | refine o_len ?_ | refine o_box ?_
  refine cnd (fun h => ct_skip ?_) (fun h => ct_exit ?_)
  · have hlt : i < s.q.length := by have h' := of_decide_eq_true h; simp only [List.length_map] at h'; omega
    obtain ⟨x, hx⟩ : ∃ x, s.q[i]? = some x := ⟨_, List.getElem?_eq_getElem hlt⟩
    have hxe := gm (enc := encQ) (n := (i : Int)) hx (by omega)
    have h1 := waitL_step hx
    have h2 := waitL_take s.q (i + 1)
    have hadd : IntKind.i64.wrap ((waitL (s.q.take i) : Int) + ((x.map encJ).length : Int)) = (waitL (s.q.take (i + 1)) : Int) := by
      rw [List.length_map, h1]
      exact (wrap64 (by omega) (by omega)).trans (by omega)
    repeat first | refine o_copy ?_ | refine nl ?_ | refine ct_seq ?_ | refine rg ?_ | refine ct_block ?_ | refine bq ?_ | refine o_addE ?_ | refine o_loads ?_ | refine o_loadp ?_ | refine o_faddr ?_ | refine o_iaddr ?_ | refine o_iaddrO ?_ | refine o_iaddrR ?_ | refine o_add ?_ | refine o_cat ?_ | refine o_bin ?_ | refine o_lenq ?_ | refine o_len ?_ | refine o_box ?_
    exact agn (i + 1) (by omega) goes
  · have hge : i = s.q.length := by have h' := of_decide_eq_false h; simp only [List.length_map] at h'; omega
    subst hge
    rw [List.take_length]
    repeat first | refine o_copy ?_ | refine nl ?_ | refine ct_seq ?_ | refine rg ?_ | refine ct_block ?_ | refine bq ?_ | refine o_loads ?_ | refine o_loadp ?_ | refine o_faddr ?_ | refine o_iaddr ?_ | refine o_iaddrO ?_ | refine o_iaddrR ?_ | refine o_add ?_ | refine o_cat ?_ | refine o_bin ?_ | refine o_lenq ?_ | refine o_len ?_ | refine o_box ?_
    exact ct_ret ⟨.inr rfl, oI rfl⟩
theorem idle_vc {s : SchL} (hq : s.q.length ≤ 1000000) (hw : waitL s.q ≤ 1000000) : VC Try.prog 18 [.agg (encSc s)] [] (.bool (decide (waitL s.q = 0))) [] := by
  refine vc_of vf18 ?_ (Nat.le_of_ble_eq_true rfl) (by intro vs h; cases h)
  repeat first | refine o_copy ?_ | refine nl ?_ | refine ct_seq ?_ | refine rg ?_ | refine ct_block ?_ | refine bq ?_ | refine cv0 (waiting_vc hq hw) ?_ | refine o_bin ?_ | refine o_loadsA ?_ | refine o_loadpA ?_ | refine o_box ?_
  refine ct_ret ⟨.inr rfl, oB ?_⟩
  by_cases h : waitL s.q = 0 <;> simp [h]
theorem ints_vc {a b : List Int} (ha : a.length ≤ 1000000) (hb : b.length ≤ 1000000) : VC Try.prog 24 [.sh false (a.map encI), .sh false (b.map encI)] [] (.bool (decide (a = b))) [] := by
  refine vc_of vf24 ?_ (Nat.le_of_ble_eq_true rfl) (by intro vs h; cases h)
  repeat first | refine o_copy ?_ | refine nl ?_ | refine ct_seq ?_ | refine rg ?_ | refine ct_block ?_ | refine bq ?_ | refine o_loads ?_ | refine o_loadp ?_ | refine o_iaddr ?_ | refine o_iaddrO ?_ | refine o_iaddrR ?_ | refine o_add ?_ | refine o_cat ?_ | refine o_bin ?_ | refine o_lenq ?_ | refine o_len ?_
  refine cnd (fun h => ?_) (fun h => ct_skip ?_)
  · repeat first | refine o_copy ?_ | refine nl ?_ | refine ct_seq ?_ | refine rg ?_ | refine ct_block ?_ | refine bq ?_ | refine o_loads ?_ | refine o_loadp ?_ | refine o_iaddr ?_ | refine o_iaddrO ?_ | refine o_iaddrR ?_ | refine o_add ?_ | refine o_cat ?_ | refine o_bin ?_ | refine o_lenq ?_ | refine o_len ?_
    refine ct_ret ⟨.inr rfl, oB ?_⟩
    symm
    rw [decide_eq_false_iff_not]
    rintro rfl
    simp at h
  have hl : a.length = b.length := by
    have : (a.length : Int) = b.length := by simpa using h
    omega
  repeat first | refine o_copy ?_ | refine nl ?_ | refine ct_seq ?_ | refine rg ?_ | refine ct_block ?_ | refine bq ?_ | refine o_loads ?_ | refine o_loadp ?_ | refine o_iaddr ?_ | refine o_iaddrO ?_ | refine o_iaddrR ?_ | refine o_add ?_ | refine o_cat ?_ | refine o_bin ?_ | refine o_lenq ?_ | refine o_len ?_
  refine ct_loopG (fun (g : Nat) => [(0, .sh false (a.map encI)), (1, .sh false (b.map encI)), (5, .int .i64 g)]) (fun g => []) (fun g => a.length - g)
    (fun g => g ≤ a.length ∧ a.take g = b.take g) 0 goes ⟨Nat.zero_le _, by simp⟩ ?_
  rintro i ⟨hi, he⟩
  repeat first | refine o_copy ?_ | refine nl ?_ | refine ct_seq ?_ | refine rg ?_ | refine ct_block ?_ | refine bq ?_ | refine o_loads ?_ | refine o_loadp ?_ | refine o_iaddr ?_ | refine o_iaddrO ?_ | refine o_iaddrR ?_ | refine o_add ?_ | refine o_cat ?_ | refine o_bin ?_ | refine o_lenq ?_ | refine o_len ?_
  refine cnd (fun h => ct_skip ?_) (fun h => ct_exit ?_)
  · have hlt : i < a.length := by have h' := of_decide_eq_true h; simp only [List.length_map] at h'; omega
    obtain ⟨x, hx⟩ : ∃ x, a[i]? = some x := ⟨_, List.getElem?_eq_getElem hlt⟩
    obtain ⟨y, hy⟩ : ∃ x, b[i]? = some x := ⟨_, List.getElem?_eq_getElem (by omega)⟩
    have hxe := gm (enc := encI) (n := (i : Int)) hx (by omega)
    have hye := gm (enc := encI) (n := (i : Int)) hy (by omega)
    repeat first | refine o_copy ?_ | refine nl ?_ | refine ct_seq ?_ | refine rg ?_ | refine ct_block ?_ | refine bq ?_ | refine o_loads ?_ | refine o_loadp ?_ | refine o_iaddr ?_ | refine o_iaddrO ?_ | refine o_iaddrR ?_ | refine o_add ?_ | refine o_cat ?_ | refine o_bin ?_ | refine o_lenq ?_ | refine o_len ?_
    refine cnd (fun h => ?_) (fun h => ct_skip ?_)
    · repeat first | refine o_copy ?_ | refine nl ?_ | refine ct_seq ?_ | refine rg ?_ | refine ct_block ?_ | refine bq ?_ | refine o_loads ?_ | refine o_loadp ?_ | refine o_iaddr ?_ | refine o_iaddrO ?_ | refine o_iaddrR ?_ | refine o_add ?_ | refine o_cat ?_ | refine o_bin ?_ | refine o_lenq ?_ | refine o_len ?_
      refine ct_ret ⟨.inr rfl, oB ?_⟩
      symm
      rw [decide_eq_false_iff_not]
      rintro rfl
      rw [hx] at hy
      cases hy
      simp at h
    · have hxy : x = y := by simpa using h
      repeat first | refine o_copy ?_ | refine nl ?_ | refine ct_seq ?_ | refine rg ?_ | refine ct_block ?_ | refine bq ?_ | refine o_loads ?_ | refine o_loadp ?_ | refine o_iaddr ?_ | refine o_iaddrO ?_ | refine o_iaddrR ?_ | refine o_add ?_ | refine o_cat ?_ | refine o_bin ?_ | refine o_lenq ?_ | refine o_len ?_
      refine agn (i + 1) ⟨by omega, ?_⟩ goes
      rw [List.take_add_one, List.take_add_one, he, hx, hy, hxy]
  · have hge : i = a.length := by have h' := of_decide_eq_false h; simp only [List.length_map] at h'; omega
    repeat first | refine o_copy ?_ | refine nl ?_ | refine ct_seq ?_ | refine rg ?_ | refine ct_block ?_ | refine bq ?_ | refine o_loads ?_ | refine o_loadp ?_ | refine o_iaddr ?_ | refine o_iaddrO ?_ | refine o_iaddrR ?_ | refine o_add ?_ | refine o_cat ?_ | refine o_bin ?_ | refine o_lenq ?_ | refine o_len ?_
    refine ct_ret ⟨.inr rfl, oB ?_⟩
    symm
    rw [decide_eq_true_eq]
    rw [hge, List.take_length, hl, List.take_length] at he
    exact he
theorem same_jobs_vc {a b : List JobL} (ha : a.length ≤ 1000000) (hb : b.length ≤ 1000000) : VC Try.prog 17 [.sh false (a.map encJ), .sh false (b.map encJ)] [] (.bool (decide (a = b))) [] := by
  refine vc_of vf17 ?_ (Nat.le_of_ble_eq_true rfl) (by intro vs h; cases h)
  repeat first | refine o_copy ?_ | refine nl ?_ | refine ct_seq ?_ | refine rg ?_ | refine ct_block ?_ | refine bq ?_ | refine o_iaddr ?_ | refine o_iaddrO ?_ | refine o_iaddrR ?_ | refine o_add ?_ | refine o_cat ?_ | refine o_bin ?_ | refine o_lenq ?_ | refine o_len ?_ | refine o_loadsA ?_ | refine o_loadpA ?_ | refine o_eqc ?_
  refine cnd (fun h => ?_) (fun h => ct_skip ?_)
  · repeat first | refine o_copy ?_ | refine nl ?_ | refine ct_seq ?_ | refine rg ?_ | refine ct_block ?_ | refine bq ?_ | refine o_iaddr ?_ | refine o_iaddrO ?_ | refine o_iaddrR ?_ | refine o_add ?_ | refine o_cat ?_ | refine o_bin ?_ | refine o_lenq ?_ | refine o_len ?_ | refine o_loadsA ?_ | refine o_loadpA ?_ | refine o_eqc ?_
    refine ct_ret ⟨.inr rfl, oB ?_⟩
    symm
    rw [decide_eq_false_iff_not]
    rintro rfl
    simp at h
  have hl : a.length = b.length := by
    have : (a.length : Int) = b.length := by simpa using h
    omega
  repeat first | refine o_copy ?_ | refine nl ?_ | refine ct_seq ?_ | refine rg ?_ | refine ct_block ?_ | refine bq ?_ | refine o_iaddr ?_ | refine o_iaddrO ?_ | refine o_iaddrR ?_ | refine o_add ?_ | refine o_cat ?_ | refine o_bin ?_ | refine o_lenq ?_ | refine o_len ?_ | refine o_loadsA ?_ | refine o_loadpA ?_ | refine o_eqc ?_
  refine ct_loopG (fun (g : Nat) => [(0, .sh false (a.map encJ)), (1, .sh false (b.map encJ)), (5, .int .i64 g)]) (fun g => []) (fun g => a.length - g)
    (fun g => g ≤ a.length ∧ a.take g = b.take g) 0 goes ⟨Nat.zero_le _, by simp⟩ ?_
  rintro i ⟨hi, he⟩
  repeat first | refine o_copy ?_ | refine nl ?_ | refine ct_seq ?_ | refine rg ?_ | refine ct_block ?_ | refine bq ?_ | refine o_iaddr ?_ | refine o_iaddrO ?_ | refine o_iaddrR ?_ | refine o_add ?_ | refine o_cat ?_ | refine o_bin ?_ | refine o_lenq ?_ | refine o_len ?_ | refine o_loadsA ?_ | refine o_loadpA ?_ | refine o_eqc ?_
  refine cnd (fun h => ct_skip ?_) (fun h => ct_exit ?_)
  · have hlt : i < a.length := by have h' := of_decide_eq_true h; simp only [List.length_map] at h'; omega
    obtain ⟨x, hx⟩ : ∃ x, a[i]? = some x := ⟨_, List.getElem?_eq_getElem hlt⟩
    obtain ⟨y, hy⟩ : ∃ x, b[i]? = some x := ⟨_, List.getElem?_eq_getElem (by omega)⟩
    have hxe := gm (enc := encJ) (n := (i : Int)) hx (by omega)
    have hye := gm (enc := encJ) (n := (i : Int)) hy (by omega)
    repeat first | refine o_copy ?_ | refine nl ?_ | refine ct_seq ?_ | refine rg ?_ | refine ct_block ?_ | refine bq ?_ | refine o_iaddr ?_ | refine o_iaddrO ?_ | refine o_iaddrR ?_ | refine o_add ?_ | refine o_cat ?_ | refine o_bin ?_ | refine o_lenq ?_ | refine o_len ?_ | refine o_loadsA ?_ | refine o_loadpA ?_ | refine o_eqc ?_
    refine cnd (fun h => ?_) (fun h => ct_skip ?_)
    · repeat first | refine o_copy ?_ | refine nl ?_ | refine ct_seq ?_ | refine rg ?_ | refine ct_block ?_ | refine bq ?_ | refine o_iaddr ?_ | refine o_iaddrO ?_ | refine o_iaddrR ?_ | refine o_add ?_ | refine o_cat ?_ | refine o_bin ?_ | refine o_lenq ?_ | refine o_len ?_ | refine o_loadsA ?_ | refine o_loadpA ?_ | refine o_eqc ?_
      refine ct_ret ⟨.inr rfl, oB ?_⟩
      symm
      rw [decide_eq_false_iff_not]
      rintro rfl
      rw [hx] at hy
      cases hy
      simp at h
    · have hxy : x = y := by
        cases x; cases y
        simpa [and_assoc] using h
      repeat first | refine o_copy ?_ | refine nl ?_ | refine ct_seq ?_ | refine rg ?_ | refine ct_block ?_ | refine bq ?_ | refine o_iaddr ?_ | refine o_iaddrO ?_ | refine o_iaddrR ?_ | refine o_add ?_ | refine o_cat ?_ | refine o_bin ?_ | refine o_lenq ?_ | refine o_len ?_ | refine o_loadsA ?_ | refine o_loadpA ?_ | refine o_eqc ?_
      refine agn (i + 1) ⟨by omega, ?_⟩ goes
      rw [List.take_add_one, List.take_add_one, he, hx, hy, hxy]
  · have hge : i = a.length := by have h' := of_decide_eq_false h; simp only [List.length_map] at h'; omega
    repeat first | refine o_copy ?_ | refine nl ?_ | refine ct_seq ?_ | refine rg ?_ | refine ct_block ?_ | refine bq ?_ | refine o_iaddr ?_ | refine o_iaddrO ?_ | refine o_iaddrR ?_ | refine o_add ?_ | refine o_cat ?_ | refine o_bin ?_ | refine o_lenq ?_ | refine o_len ?_ | refine o_loadsA ?_ | refine o_loadpA ?_ | refine o_eqc ?_
    refine ct_ret ⟨.inr rfl, oB ?_⟩
    symm
    rw [decide_eq_true_eq]
    rw [hge, List.take_length, hl, List.take_length] at he
    exact he
theorem of_vc {l : List JobL} {t : Int} (hl : l.length ≤ 1000000) : VC Try.prog 22 [.sh false (l.map encJ), .int .i64 t] [] (ownV ⟨0, 0⟩ ((ofL l t).map encJ)) [blkV 3 ((ofL l t).map encJ)] := by
  refine vc_of vf22 ?_ (Nat.le_of_ble_eq_true rfl) (by intro vs h; cases h)
  repeat first | refine o_copy ?_ | refine nl ?_ | refine ct_seq ?_ | refine rg ?_ | refine ct_block ?_ | refine bq ?_ | refine o_loads ?_ | refine o_loadp ?_ | refine o_faddr ?_ | refine o_iaddr ?_ | refine o_iaddrO ?_ | refine o_iaddrR ?_ | refine o_add ?_ | refine o_cat ?_ | refine o_bin ?_ | refine o_lenq ?_ | refine o_len ?_ | refine o_loadsA ?_ | refine o_loadpA ?_ | refine o_bslice ?_
  refine ct_loopG (fun (g : Nat) => [(0, .sh false (l.map encJ)), (1, .int .i64 t), (5, ownV ⟨1, 8192⟩ ((ofL (l.take g) t).map encJ)), (6, .int .i64 g)]) (fun g => [(⟨1, 8192⟩, blkV 3 ((ofL (l.take g) t).map encJ))]) (fun g => l.length - g)
    (fun g => g ≤ l.length) 0 goes (Nat.zero_le _) ?_
  intro i hi
  repeat first | refine o_copy ?_ | refine nl ?_ | refine ct_seq ?_ | refine rg ?_ | refine ct_block ?_ | refine bq ?_ | refine o_loads ?_ | refine o_loadp ?_ | refine o_faddr ?_ | refine o_iaddr ?_ | refine o_iaddrO ?_ | refine o_iaddrR ?_ | refine o_add ?_ | refine o_cat ?_ | refine o_bin ?_ | refine o_lenq ?_ | refine o_len ?_ | refine o_loadsA ?_ | refine o_loadpA ?_ | refine o_bslice ?_
  refine cnd (fun h => ct_skip ?_) (fun h => ct_exit ?_)
  · have hlt : i < l.length := by have h' := of_decide_eq_true h; simp only [List.length_map] at h'; omega
    obtain ⟨x, hx⟩ : ∃ x, l[i]? = some x := ⟨_, List.getElem?_eq_getElem hlt⟩
    have hxe := gm (enc := encJ) (n := (i : Int)) hx (by omega)
    have hol : (ofL (l.take i) t).length ≤ i := by
      have := List.length_filter_le (fun j : JobL => j.t == t) (l.take i)
      simp only [ofL, List.length_take] at this ⊢
      omega
    repeat first | refine o_copy ?_ | refine nl ?_ | refine ct_seq ?_ | refine rg ?_ | refine ct_block ?_ | refine bq ?_ | refine o_loads ?_ | refine o_loadp ?_ | refine o_faddr ?_ | refine o_iaddr ?_ | refine o_iaddrO ?_ | refine o_iaddrR ?_ | refine o_add ?_ | refine o_cat ?_ | refine o_bin ?_ | refine o_lenq ?_ | refine o_len ?_ | refine o_loadsA ?_ | refine o_loadpA ?_ | refine o_bslice ?_
    refine cnd (fun h => ?_) (fun h => ct_skip ?_)
    · have hs : ofL (l.take (i + 1)) t = ofL (l.take i) t ++ [x] := by
        rw [List.take_add_one, hx]
        simp [ofL, h]
      repeat first | refine o_copy ?_ | refine nl ?_ | refine ct_seq ?_ | refine rg ?_ | refine ct_block ?_ | refine bq ?_ | refine o_v (vap encJ x) ?_ | refine o_loads ?_ | refine o_loadp ?_ | refine o_faddr ?_ | refine o_iaddr ?_ | refine o_iaddrO ?_ | refine o_iaddrR ?_ | refine o_add ?_ | refine o_cat ?_ | refine o_bin ?_ | refine o_lenq ?_ | refine o_len ?_ | refine o_loadsA ?_ | refine o_loadpA ?_ | refine o_bslice ?_
      rw [← hs]
      exact agn (i + 1) (by omega) goes
    · have hs : ofL (l.take (i + 1)) t = ofL (l.take i) t := by
        rw [List.take_add_one, hx]
        simp only [ofL, List.filter_append]
        simp [h]
      rw [← hs]
      repeat first | refine o_copy ?_ | refine nl ?_ | refine ct_seq ?_ | refine rg ?_ | refine ct_block ?_ | refine bq ?_ | refine o_loads ?_ | refine o_loadp ?_ | refine o_faddr ?_ | refine o_iaddr ?_ | refine o_iaddrO ?_ | refine o_iaddrR ?_ | refine o_add ?_ | refine o_cat ?_ | refine o_bin ?_ | refine o_lenq ?_ | refine o_len ?_ | refine o_loadsA ?_ | refine o_loadpA ?_ | refine o_bslice ?_
      exact agn (i + 1) (by omega) goes
  · have hge : i = l.length := by have h' := of_decide_eq_false h; simp only [List.length_map] at h'; omega
    subst hge
    rw [List.take_length]
    repeat first | refine o_copy ?_ | refine nl ?_ | refine ct_seq ?_ | refine rg ?_ | refine ct_block ?_ | refine bq ?_ | refine o_loads ?_ | refine o_loadp ?_ | refine o_faddr ?_ | refine o_iaddr ?_ | refine o_iaddrO ?_ | refine o_iaddrR ?_ | refine o_add ?_ | refine o_cat ?_ | refine o_bin ?_ | refine o_lenq ?_ | refine o_len ?_ | refine o_loadsA ?_ | refine o_loadpA ?_ | refine o_bslice ?_
    exact ct_ret ⟨.inr rfl, oOwn rfl⟩
theorem total_vc {l : List JobL} (hl : l.length ≤ 1000000) (hc : ∀ j ∈ l, 0 ≤ j.c ∧ j.c ≤ 1000000) : VC Try.prog 23 [.sh false (l.map encJ)] [] (.int .i64 (totalL l)) [] := by
  have hb : ∀ g, g ≤ l.length → 0 ≤ totalL (l.take g) ∧ totalL (l.take g) ≤ 1000000 * g := by
    intro g
    induction g with
    | zero => intro _; simp [totalL]
    | succ g ih =>
      intro h
      have h1 := ih (by omega)
      obtain ⟨x, hx⟩ : ∃ x, l[g]? = some x := ⟨_, List.getElem?_eq_getElem (by omega)⟩
      have h2 := hc x (List.mem_of_getElem? hx)
      rw [List.take_add_one, hx, totalL_app]
      simp [totalL] at h1 ⊢
      omega
  refine vc_of vf23 ?_ (Nat.le_of_ble_eq_true rfl) (by intro vs h; cases h)
  repeat first | refine o_copy ?_ | refine nl ?_ | refine ct_seq ?_ | refine rg ?_ | refine ct_block ?_ | refine bq ?_ | refine o_loads ?_ | refine o_loadp ?_ | refine o_faddr ?_ | refine o_iaddr ?_ | refine o_iaddrO ?_ | refine o_iaddrR ?_ | refine o_add ?_ | refine o_cat ?_ | refine o_bin ?_ | refine o_lenq ?_ | refine o_len ?_
  refine ct_loopG (fun (g : Nat) => [(0, .sh false (l.map encJ)), (3, .int .i64 (totalL (l.take g))), (4, .int .i64 g)]) (fun g => []) (fun g => l.length - g)
    (fun g => g ≤ l.length) 0 goes (Nat.zero_le _) ?_
  intro i hi
  repeat first | refine o_copy ?_ | refine nl ?_ | refine ct_seq ?_ | refine rg ?_ | refine ct_block ?_ | refine bq ?_ | refine o_loads ?_ | refine o_loadp ?_ | refine o_faddr ?_ | refine o_iaddr ?_ | refine o_iaddrO ?_ | refine o_iaddrR ?_ | refine o_add ?_ | refine o_cat ?_ | refine o_bin ?_ | refine o_lenq ?_ | refine o_len ?_
  refine cnd (fun h => ct_skip ?_) (fun h => ct_exit ?_)
  · have hlt : i < l.length := by have h' := of_decide_eq_true h; simp only [List.length_map] at h'; omega
    obtain ⟨x, hx⟩ : ∃ x, l[i]? = some x := ⟨_, List.getElem?_eq_getElem hlt⟩
    have hxe := gm (enc := encJ) (n := (i : Int)) hx (by omega)
    have h1 := hb (i + 1) (by omega)
    have h2 := hb i (by omega)
    have h3 : totalL (l.take (i + 1)) = totalL (l.take i) + x.c := by
      rw [List.take_add_one, hx, totalL_app]
      simp [totalL]
    have hadd : IntKind.i64.wrap (totalL (l.take i) + x.c) = totalL (l.take (i + 1)) := by
      rw [h3] at h1 ⊢
      exact wrap64 (by omega) (by omega)
    repeat first | refine o_copy ?_ | refine nl ?_ | refine ct_seq ?_ | refine rg ?_ | refine ct_block ?_ | refine bq ?_ | refine o_addE ?_ | refine o_loads ?_ | refine o_loadp ?_ | refine o_faddr ?_ | refine o_iaddr ?_ | refine o_iaddrO ?_ | refine o_iaddrR ?_ | refine o_add ?_ | refine o_cat ?_ | refine o_bin ?_ | refine o_lenq ?_ | refine o_len ?_
    exact agn (i + 1) (by omega) goes
  · have hge : i = l.length := by have h' := of_decide_eq_false h; simp only [List.length_map] at h'; omega
    subst hge
    rw [List.take_length]
    repeat first | refine o_copy ?_ | refine nl ?_ | refine ct_seq ?_ | refine rg ?_ | refine ct_block ?_ | refine bq ?_ | refine o_loads ?_ | refine o_loadp ?_ | refine o_faddr ?_ | refine o_iaddr ?_ | refine o_iaddrO ?_ | refine o_iaddrR ?_ | refine o_add ?_ | refine o_cat ?_ | refine o_bin ?_ | refine o_lenq ?_ | refine o_len ?_
    exact ct_ret ⟨.inr rfl, oI rfl⟩
end Go.Proofs
open Go.V Go.Pu
set_option linter.unusedVariables false
set_option linter.unusedSimpArgs false
set_option maxRecDepth 20000
namespace Go.Proofs
/-- downspout/sched.Add -/
def vc14 : VCode :=
 (.seq
 (.region 0 false [
 ⟨(some 2), .box (.t 0), none, 0, []⟩,
 ⟨(some 3), .box (.t 1), none, 8, []⟩,
 ⟨(some 4), .alloc [.nils, .nils, (.int .i64 0), .nils], none, 16, []⟩,
 ⟨(some 5), .copy (.c (.int .i64 0)), none, 24, []⟩])
 (.seq
 (.block 0
 (.seq
 (.region 1 false [
 ⟨(some 8), .faddr 0 (.t 3), none, 8192, []⟩,
 ⟨(some 9), .load false 1 (.t 8), none, 8200, [0]⟩,
 ⟨(some 10), .bin .lss (.t 9) (.c (.int .i64 0)), none, 8208, [1, 0]⟩,
 ⟨(some 11), .copy (.t 10), none, 8216, [2, 1, 0]⟩,
 ⟨(some 12), .faddr 0 (.t 3), (some (3, 11, false)), 8224, [3, 2, 1, 0]⟩,
 ⟨(some 13), .load false 1 (.t 12), (some (3, 11, false)), 8232, [4, 3, 2, 1, 0]⟩,
 ⟨(some 14), .faddr 0 (.t 2), (some (3, 11, false)), 8240, [3, 2, 1, 0]⟩,
 ⟨(some 15), .load false 1 (.t 14), (some (3, 11, false)), 8248, [6, 3, 2, 1, 0]⟩,
 ⟨(some 16), .len (.t 15), (some (3, 11, false)), 8256, [7, 6, 3, 2, 1, 0]⟩,
 ⟨(some 17), .bin .geq (.t 13) (.t 16), (some (3, 11, false)), 8264, [5, 4, 3, 2, 1, 0, 8, 7, 6]⟩,
 ⟨(some 18), .pick (.t 11) (.c (.bool true)) (.t 17), none, 8272, [3, 2, 1, 0, 9, 5, 4, 8, 7, 6]⟩,
 ⟨(some 7), .copy (.t 18), none, 8280, [10, 3, 2, 1, 0, 9, 5, 4, 8, 7, 6]⟩])
 (.cond (.t 7)
 (.seq
 (.region 2 false [
 ⟨(some 19), .load true 4 (.t 2), none, 16384, []⟩,
 ⟨none, .store 4 (.t 4) (.t 19), none, 16392, [0]⟩,
 ⟨(some 5), .copy (.c (.int .i64 310)), none, 16400, [1, 0]⟩])
 .ret)
 (.seq
 (.region 3 false [
 ⟨(some 21), .faddr 2 (.t 3), none, 24576, []⟩,
 ⟨(some 22), .load false 1 (.t 21), none, 24584, [0]⟩,
 ⟨(some 23), .bin .lss (.t 22) (.c (.int .i64 1)), none, 24592, [1, 0]⟩,
 ⟨(some 24), .copy (.t 23), none, 24600, [2, 1, 0]⟩,
 ⟨(some 25), .faddr 2 (.t 3), (some (3, 24, false)), 24608, [3, 2, 1, 0]⟩,
 ⟨(some 26), .load false 1 (.t 25), (some (3, 24, false)), 24616, [4, 3, 2, 1, 0]⟩,
 ⟨(some 27), .bin .gtr (.t 26) (.c (.int .i64 1000)), (some (3, 24, false)), 24624, [5, 4, 3, 2, 1, 0]⟩,
 ⟨(some 28), .pick (.t 24) (.c (.bool true)) (.t 27), none, 24632, [3, 2, 1, 0, 6, 5, 4]⟩,
 ⟨(some 20), .copy (.t 28), none, 24640, [7, 3, 2, 1, 0, 6, 5, 4]⟩])
 (.cond (.t 20)
 (.seq
 (.region 4 false [
 ⟨(some 29), .load true 4 (.t 2), none, 32768, []⟩,
 ⟨none, .store 4 (.t 4) (.t 29), none, 32776, [0]⟩,
 ⟨(some 5), .copy (.c (.int .i64 1)), none, 32784, [1, 0]⟩])
 .ret)
 (.seq
 (.region 5 false [
 ⟨(some 31), .load true 4 (.t 2), none, 40960, []⟩,
 ⟨(some 32), .call (.c (.fn 29 [])) [(.t 31)], none, 40968, [0]⟩,
 ⟨(some 33), .bin .geq (.t 32) (.c (.int .i64 64)), none, 40976, [1, 0]⟩,
 ⟨(some 30), .copy (.t 33), none, 40984, [2, 1, 0]⟩])
 (.cond (.t 30)
 (.seq
 (.region 6 false [
 ⟨(some 34), .load true 4 (.t 2), none, 49152, []⟩,
 ⟨none, .store 4 (.t 4) (.t 34), none, 49160, [0]⟩,
 ⟨(some 5), .copy (.c (.int .i64 311)), none, 49168, [1, 0]⟩])
 .ret)
 .skip)))))))
 (.seq
 (.region 7 false [
 ⟨(some 35), .load true 4 (.t 2), none, 57344, []⟩,
 ⟨(some 36), .call (.c (.fn 25 [])) [(.t 35)], none, 57352, [0]⟩,
 ⟨(some 6), .alloc [.nils, .nils, (.int .i64 0), .nils], none, 57360, []⟩,
 ⟨none, .store 4 (.t 6) (.t 36), none, 57368, [2, 1, 0]⟩])
 (.seq
 (.region 8 true [
 ⟨(some 37), .faddr 3 (.t 6), none, 65536, []⟩,
 ⟨(some 38), .load false 1 (.t 37), none, 65544, [0]⟩,
 ⟨(some 39), .faddr 0 (.t 3), none, 65552, []⟩,
 ⟨(some 40), .load false 1 (.t 39), none, 65560, [2]⟩,
 ⟨(some 41), .faddr 3 (.t 2), none, 65568, []⟩,
 ⟨(some 42), .load false 1 (.t 41), none, 65576, [4]⟩,
 ⟨(some 43), .faddr 0 (.t 3), none, 65584, []⟩,
 ⟨(some 44), .load false 1 (.t 43), none, 65592, [6]⟩,
 ⟨(some 45), .iaddr 1 (.t 42) (.t 44), none, 65600, [5, 4, 7, 6]⟩,
 ⟨(some 46), .load false 1 (.t 45), none, 65608, [8, 5, 4, 7, 6]⟩,
 ⟨(some 47), .call (.c (.fn 30 [])) [(.t 46)], none, 65616, [9, 8, 5, 4, 7, 6]⟩,
 ⟨(some 48), .load true 3 (.t 3), none, 65624, []⟩,
 ⟨(some 49), .bslice 3 [(.int .i64 0), (.int .i64 0), (.int .i64 0)] 1 [(0, (.t 48))], none, 65632, [11]⟩,
 ⟨(some 50), .append 3 24 [(.int .i64 0), (.int .i64 0), (.int .i64 0)] (.t 47) (.t 49), none, 65640, [10, 9, 8, 5, 4, 7, 6, 12, 11]⟩,
 ⟨(some 51), .iaddr 1 (.t 38) (.t 40), none, 65648, [1, 0, 3, 2, 4, 5, 6, 7, 8, 9, 10, 11, 12, 13]⟩,
 ⟨none, .store 1 (.t 51) (.t 50), none, 65656, [14, 1, 0, 3, 2, 4, 5, 6, 7, 8, 9, 10, 11, 12, 13]⟩])
 (.seq
 (.region 9 false [
 ⟨(some 52), .load true 4 (.t 6), none, 73728, []⟩,
 ⟨none, .store 4 (.t 4) (.t 52), none, 73736, [0]⟩,
 ⟨(some 5), .copy (.c (.int .i64 0)), none, 73744, [1, 0]⟩])
 .ret)))))
theorem vf14 : VF Try.prog 14 = some (53, vc14, [.cell true 4 4, .tmp 5]) := by kernel_rfl
/-- downspout/downspoutref31.Add -/
def vc15 : VCode :=
 (.seq
 (.region 0 false [
 ⟨(some 2), .box (.t 0), none, 0, []⟩,
 ⟨(some 3), .box (.t 1), none, 8, []⟩,
 ⟨(some 4), .alloc [.nils, .nils, (.int .i64 0), .nils], none, 16, []⟩,
 ⟨(some 5), .copy (.c (.int .i64 0)), none, 24, []⟩])
 (.seq
 (.seq
 (.region 1 false [
 ⟨(some 8), .faddr 0 (.t 3), none, 8192, []⟩,
 ⟨(some 9), .load false 1 (.t 8), none, 8200, [0]⟩,
 ⟨(some 10), .bin .lss (.t 9) (.c (.int .i64 0)), none, 8208, [1, 0]⟩,
 ⟨(some 11), .copy (.t 10), none, 8216, [2, 1, 0]⟩,
 ⟨(some 12), .faddr 0 (.t 3), (some (3, 11, false)), 8224, [3, 2, 1, 0]⟩,
 ⟨(some 13), .load false 1 (.t 12), (some (3, 11, false)), 8232, [4, 3, 2, 1, 0]⟩,
 ⟨(some 14), .faddr 0 (.t 2), (some (3, 11, false)), 8240, [3, 2, 1, 0]⟩,
 ⟨(some 15), .load false 1 (.t 14), (some (3, 11, false)), 8248, [6, 3, 2, 1, 0]⟩,
 ⟨(some 16), .len (.t 15), (some (3, 11, false)), 8256, [7, 6, 3, 2, 1, 0]⟩,
 ⟨(some 17), .bin .geq (.t 13) (.t 16), (some (3, 11, false)), 8264, [5, 4, 3, 2, 1, 0, 8, 7, 6]⟩,
 ⟨(some 18), .pick (.t 11) (.c (.bool true)) (.t 17), none, 8272, [3, 2, 1, 0, 9, 5, 4, 8, 7, 6]⟩])
 (.cond (.t 18)
 (.seq
 (.region 2 false [
 ⟨(some 19), .load true 4 (.t 2), none, 16384, []⟩,
 ⟨none, .store 4 (.t 4) (.t 19), none, 16392, [0]⟩,
 ⟨(some 5), .copy (.c (.int .i64 310)), none, 16400, [1, 0]⟩])
 .ret)
 .skip))
 (.seq
 (.seq
 (.region 3 false [
 ⟨(some 20), .faddr 2 (.t 3), none, 24576, []⟩,
 ⟨(some 21), .load false 1 (.t 20), none, 24584, [0]⟩,
 ⟨(some 22), .bin .lss (.t 21) (.c (.int .i64 1)), none, 24592, [1, 0]⟩,
 ⟨(some 23), .copy (.t 22), none, 24600, [2, 1, 0]⟩,
 ⟨(some 24), .faddr 2 (.t 3), (some (3, 23, false)), 24608, [3, 2, 1, 0]⟩,
 ⟨(some 25), .load false 1 (.t 24), (some (3, 23, false)), 24616, [4, 3, 2, 1, 0]⟩,
 ⟨(some 26), .bin .gtr (.t 25) (.c (.int .i64 1000)), (some (3, 23, false)), 24624, [5, 4, 3, 2, 1, 0]⟩,
 ⟨(some 27), .pick (.t 23) (.c (.bool true)) (.t 26), none, 24632, [3, 2, 1, 0, 6, 5, 4]⟩])
 (.cond (.t 27)
 (.seq
 (.region 4 false [
 ⟨(some 28), .load true 4 (.t 2), none, 32768, []⟩,
 ⟨none, .store 4 (.t 4) (.t 28), none, 32776, [0]⟩,
 ⟨(some 5), .copy (.c (.int .i64 1)), none, 32784, [1, 0]⟩])
 .ret)
 .skip))
 (.seq
 (.seq
 (.region 5 false [
 ⟨(some 29), .load true 4 (.t 2), none, 40960, []⟩,
 ⟨(some 30), .call (.c (.fn 19 [])) [(.t 29)], none, 40968, [0]⟩,
 ⟨(some 31), .bin .geq (.t 30) (.c (.int .i64 64)), none, 40976, [1, 0]⟩])
 (.cond (.t 31)
 (.seq
 (.region 6 false [
 ⟨(some 32), .load true 4 (.t 2), none, 49152, []⟩,
 ⟨none, .store 4 (.t 4) (.t 32), none, 49160, [0]⟩,
 ⟨(some 5), .copy (.c (.int .i64 311)), none, 49168, [1, 0]⟩])
 .ret)
 .skip))
 (.seq
 (.region 7 false [
 ⟨(some 33), .load true 4 (.t 2), none, 57344, []⟩,
 ⟨(some 34), .call (.c (.fn 27 [])) [(.t 33)], none, 57352, [0]⟩,
 ⟨(some 6), .alloc [.nils, .nils, (.int .i64 0), .nils], none, 57360, []⟩,
 ⟨none, .store 4 (.t 6) (.t 34), none, 57368, [2, 1, 0]⟩])
 (.seq
 (.region 8 false [
 ⟨(some 35), .bslice 3 [(.int .i64 0), (.int .i64 0), (.int .i64 0)] 0 [], none, 65536, []⟩,
 ⟨(some 36), .faddr 3 (.t 2), none, 65544, []⟩,
 ⟨(some 37), .load false 1 (.t 36), none, 65552, [1]⟩,
 ⟨(some 38), .faddr 0 (.t 3), none, 65560, []⟩,
 ⟨(some 39), .load false 1 (.t 38), none, 65568, [3]⟩,
 ⟨(some 40), .iaddr 1 (.t 37) (.t 39), none, 65576, [2, 1, 4, 3]⟩,
 ⟨(some 41), .load false 1 (.t 40), none, 65584, [5, 2, 1, 4, 3]⟩,
 ⟨(some 42), .append 3 24 [(.int .i64 0), (.int .i64 0), (.int .i64 0)] (.t 35) (.t 41), none, 65592, [0, 6, 5, 2, 1, 4, 3]⟩,
 ⟨(some 7), .copy (.t 42), none, 65600, [7, 0, 6, 5, 2, 1, 4, 3]⟩])
 (.seq
 (.region 9 true [
 ⟨(some 43), .faddr 3 (.t 6), none, 73728, []⟩,
 ⟨(some 44), .load false 1 (.t 43), none, 73736, [0]⟩,
 ⟨(some 45), .faddr 0 (.t 3), none, 73744, []⟩,
 ⟨(some 46), .load false 1 (.t 45), none, 73752, [2]⟩,
 ⟨(some 47), .copy (.t 7), none, 73760, []⟩,
 ⟨(some 48), .load true 3 (.t 3), none, 73768, []⟩,
 ⟨(some 49), .bslice 3 [(.int .i64 0), (.int .i64 0), (.int .i64 0)] 1 [(0, (.t 48))], none, 73776, [5]⟩,
 ⟨(some 50), .append 3 24 [(.int .i64 0), (.int .i64 0), (.int .i64 0)] (.t 47) (.t 49), none, 73784, [4, 6, 5]⟩,
 ⟨(some 51), .iaddr 1 (.t 44) (.t 46), none, 73792, [1, 0, 3, 2, 4, 5, 6, 7]⟩,
 ⟨none, .store 1 (.t 51) (.t 50), none, 73800, [8, 1, 0, 3, 2, 4, 5, 6, 7]⟩])
 (.seq
 (.region 10 false [
 ⟨(some 52), .load true 4 (.t 6), none, 81920, []⟩,
 ⟨none, .store 4 (.t 4) (.t 52), none, 81928, [0]⟩,
 ⟨(some 5), .copy (.c (.int .i64 0)), none, 81936, [1, 0]⟩])
 .ret))))))))
theorem vf15 : VF Try.prog 15 = some (53, vc15, [.cell true 4 4, .tmp 5]) := by kernel_rfl
/-- downspout/downspoutref31.Same -/
def vc16 : VCode :=
 (.seq
 (.region 0 false [
 ⟨(some 2), .box (.t 0), none, 0, []⟩,
 ⟨(some 3), .box (.t 1), none, 8, []⟩,
 ⟨(some 4), .copy (.c (.bool false)), none, 16, []⟩])
 (.seq
 (.seq
 (.region 1 false [
 ⟨(some 6), .faddr 0 (.t 2), none, 8192, []⟩,
 ⟨(some 7), .load false 1 (.t 6), none, 8200, [0]⟩,
 ⟨(some 8), .faddr 0 (.t 3), none, 8208, []⟩,
 ⟨(some 9), .load false 1 (.t 8), none, 8216, [2]⟩,
 ⟨(some 10), .call (.c (.fn 24 [])) [(.t 7), (.t 9)], none, 8224, [1, 0, 3, 2]⟩,
 ⟨(some 11), .not (.t 10), none, 8232, [4, 1, 0, 3, 2]⟩,
 ⟨(some 12), .copy (.t 11), none, 8240, [5, 4, 1, 0, 3, 2]⟩,
 ⟨(some 13), .faddr 1 (.t 2), (some (6, 12, false)), 8248, [6, 5, 4, 1, 0, 3, 2]⟩,
 ⟨(some 14), .load false 1 (.t 13), (some (6, 12, false)), 8256, [7, 6, 5, 4, 1, 0, 3, 2]⟩,
 ⟨(some 15), .faddr 1 (.t 3), (some (6, 12, false)), 8264, [6, 5, 4, 1, 0, 3, 2]⟩,
 ⟨(some 16), .load false 1 (.t 15), (some (6, 12, false)), 8272, [9, 6, 5, 4, 1, 0, 3, 2]⟩,
 ⟨(some 17), .call (.c (.fn 24 [])) [(.t 14), (.t 16)], (some (6, 12, false)), 8280, [8, 7, 6, 5, 4, 1, 0, 3, 2, 10, 9]⟩,
 ⟨(some 18), .not (.t 17), (some (6, 12, false)), 8288, [11, 8, 7, 6, 5, 4, 1, 0, 3, 2, 10, 9]⟩,
 ⟨(some 19), .pick (.t 12) (.c (.bool true)) (.t 18), none, 8296, [6, 5, 4, 1, 0, 3, 2, 12, 11, 8, 7, 10, 9]⟩,
 ⟨(some 20), .copy (.t 19), none, 8304, [13, 6, 5, 4, 1, 0, 3, 2, 12, 11, 8, 7, 10, 9]⟩,
 ⟨(some 21), .faddr 2 (.t 2), (some (14, 20, false)), 8312, [14, 13, 6, 5, 4, 1, 0, 3, 2, 12, 11, 8, 7, 10, 9]⟩,
 ⟨(some 22), .load false 1 (.t 21), (some (14, 20, false)), 8320, [15, 14, 13, 6, 5, 4, 1, 0, 3, 2, 12, 11, 8, 7, 10, 9]⟩,
 ⟨(some 23), .faddr 2 (.t 3), (some (14, 20, false)), 8328, [14, 13, 6, 5, 4, 1, 0, 3, 2, 12, 11, 8, 7, 10, 9]⟩,
 ⟨(some 24), .load false 1 (.t 23), (some (14, 20, false)), 8336, [17, 14, 13, 6, 5, 4, 1, 0, 3, 2, 12, 11, 8, 7, 10, 9]⟩,
 ⟨(some 25), .bin .neq (.t 22) (.t 24), (some (14, 20, false)), 8344, [16, 15, 14, 13, 6, 5, 4, 1, 0, 3, 2, 12, 11, 8, 7, 10, 9, 18, 17]⟩,
 ⟨(some 26), .pick (.t 20) (.c (.bool true)) (.t 25), none, 8352, [14, 13, 6, 5, 4, 1, 0, 3, 2, 12, 11, 8, 7, 10, 9, 19, 16, 15, 18, 17]⟩,
 ⟨(some 27), .copy (.t 26), none, 8360, [20, 14, 13, 6, 5, 4, 1, 0, 3, 2, 12, 11, 8, 7, 10, 9, 19, 16, 15, 18, 17]⟩,
 ⟨(some 28), .faddr 3 (.t 2), (some (21, 27, false)), 8368, [21, 20, 14, 13, 6, 5, 4, 1, 0, 3, 2, 12, 11, 8, 7, 10, 9, 19, 16, 15, 18, 17]⟩,
 ⟨(some 29), .load false 1 (.t 28), (some (21, 27, false)), 8376, [22, 21, 20, 14, 13, 6, 5, 4, 1, 0, 3, 2, 12, 11, 8, 7, 10, 9, 19, 16, 15, 18, 17]⟩,
 ⟨(some 30), .len (.t 29), (some (21, 27, false)), 8384, [23, 22, 21, 20, 14, 13, 6, 5, 4, 1, 0, 3, 2, 12, 11, 8, 7, 10, 9, 19, 16, 15, 18, 17]⟩,
 ⟨(some 31), .faddr 3 (.t 3), (some (21, 27, false)), 8392, [21, 20, 14, 13, 6, 5, 4, 1, 0, 3, 2, 12, 11, 8, 7, 10, 9, 19, 16, 15, 18, 17]⟩,
 ⟨(some 32), .load false 1 (.t 31), (some (21, 27, false)), 8400, [25, 21, 20, 14, 13, 6, 5, 4, 1, 0, 3, 2, 12, 11, 8, 7, 10, 9, 19, 16, 15, 18, 17]⟩,
 ⟨(some 33), .len (.t 32), (some (21, 27, false)), 8408, [26, 25, 21, 20, 14, 13, 6, 5, 4, 1, 0, 3, 2, 12, 11, 8, 7, 10, 9, 19, 16, 15, 18, 17]⟩,
 ⟨(some 34), .bin .neq (.t 30) (.t 33), (some (21, 27, false)), 8416, [24, 23, 22, 21, 20, 14, 13, 6, 5, 4, 1, 0, 3, 2, 12, 11, 8, 7, 10, 9, 19, 16, 15, 18, 17, 27, 26, 25]⟩,
 ⟨(some 35), .pick (.t 27) (.c (.bool true)) (.t 34), none, 8424, [21, 20, 14, 13, 6, 5, 4, 1, 0, 3, 2, 12, 11, 8, 7, 10, 9, 19, 16, 15, 18, 17, 28, 24, 23, 22, 27, 26, 25]⟩])
 (.cond (.t 35)
 (.seq
 (.region 2 false [
 ⟨(some 4), .copy (.c (.bool false)), none, 16384, []⟩])
 .ret)
 .skip))
 (.seq
 (.seq
 (.region 3 false [
 ⟨(some 5), .copy (.c (.int .i64 0)), none, 24576, []⟩])
 (.block 0
 (.loop
 (.seq
 (.seq
 (.region 4 false [
 ⟨(some 36), .copy (.t 5), none, 32768, []⟩,
 ⟨(some 37), .faddr 3 (.t 2), none, 32776, []⟩,
 ⟨(some 38), .load false 1 (.t 37), none, 32784, [1]⟩,
 ⟨(some 39), .len (.t 38), none, 32792, [2, 1]⟩,
 ⟨(some 40), .bin .lss (.t 36) (.t 39), none, 32800, [0, 3, 2, 1]⟩])
 (.cond (.t 40)
 .skip
 (.exit 0)))
 (.seq
 (.block 1
 (.seq
 (.region 6 true [
 ⟨(some 43), .faddr 3 (.t 2), none, 49152, []⟩,
 ⟨(some 44), .load false 1 (.t 43), none, 49160, [0]⟩,
 ⟨(some 45), .copy (.t 5), none, 49168, []⟩,
 ⟨(some 46), .iaddr 1 (.t 44) (.t 45), none, 49176, [1, 0, 2]⟩,
 ⟨(some 47), .load false 1 (.t 46), none, 49184, [3, 1, 0, 2]⟩,
 ⟨(some 48), .faddr 3 (.t 3), none, 49192, []⟩,
 ⟨(some 49), .load false 1 (.t 48), none, 49200, [5]⟩,
 ⟨(some 50), .copy (.t 5), none, 49208, []⟩,
 ⟨(some 51), .iaddr 1 (.t 49) (.t 50), none, 49216, [6, 5, 7]⟩,
 ⟨(some 52), .load false 1 (.t 51), none, 49224, [8, 6, 5, 7]⟩,
 ⟨(some 53), .call (.c (.fn 17 [])) [(.t 47), (.t 52)], none, 49232, [4, 3, 1, 0, 2, 9, 8, 6, 5, 7]⟩,
 ⟨(some 54), .not (.t 53), none, 49240, [10, 4, 3, 1, 0, 2, 9, 8, 6, 5, 7]⟩])
 (.cond (.t 54)
 (.seq
 (.region 7 false [
 ⟨(some 4), .copy (.c (.bool false)), none, 57344, []⟩])
 .ret)
 .skip)))
 (.region 5 false [
 ⟨(some 41), .copy (.t 5), none, 40960, []⟩,
 ⟨(some 42), .bin .add (.t 41) (.c (.int .i64 1)), none, 40968, [0]⟩,
 ⟨(some 5), .copy (.t 42), none, 40976, [1, 0]⟩]))))))
 (.seq
 (.region 8 false [
 ⟨(some 4), .copy (.c (.bool true)), none, 65536, []⟩])
 .ret))))
theorem vf16 : VF Try.prog 16 = some (55, vc16, [.tmp 4]) := by kernel_rfl
/-- downspout/sched.copied -/
def vc25 : VCode :=
 (.seq
 (.region 0 false [
 ⟨(some 1), .box (.t 0), none, 0, []⟩,
 ⟨(some 2), .alloc [.nils, .nils, (.int .i64 0), .nils], none, 8, []⟩])
 (.seq
 (.region 1 true [
 ⟨(some 5), .faddr 1 (.t 1), none, 8192, []⟩,
 ⟨(some 6), .load false 1 (.t 5), none, 8200, [0]⟩,
 ⟨(some 7), .len (.t 6), none, 8208, [1, 0]⟩,
 ⟨(some 8), .mkslice 8 [(.int .i64 0)] (.t 7) (.t 7), none, 8216, [2, 1, 0]⟩,
 ⟨(some 9), .faddr 3 (.t 1), none, 8224, []⟩,
 ⟨(some 10), .load false 1 (.t 9), none, 8232, [4]⟩,
 ⟨(some 11), .len (.t 10), none, 8240, [5, 4]⟩,
 ⟨(some 12), .mkslice 24 [.nils] (.t 11) (.t 11), none, 8248, [6, 5, 4]⟩,
 ⟨(some 3), .copy (.t 8), none, 8256, [3, 2, 1, 0]⟩,
 ⟨(some 4), .copy (.t 12), none, 8264, [7, 6, 5, 4, 8, 3, 2, 1, 0]⟩])
 (.seq
 (.region 2 false [
 ⟨(some 13), .copy (.t 3), none, 16384, []⟩,
 ⟨(some 14), .faddr 1 (.t 1), none, 16392, []⟩,
 ⟨(some 15), .load false 1 (.t 14), none, 16400, [1]⟩,
 ⟨(some 16), .copyS 1 (.t 13) (.t 15), none, 16408, [0, 2, 1]⟩])
 (.seq
 (.region 3 false [
 ⟨(some 17), .copy (.t 4), none, 24576, []⟩,
 ⟨(some 18), .faddr 3 (.t 1), none, 24584, []⟩,
 ⟨(some 19), .load false 1 (.t 18), none, 24592, [1]⟩,
 ⟨(some 20), .copyS 1 (.t 17) (.t 19), none, 24600, [0, 2, 1]⟩])
 (.seq
 (.region 4 false [
 ⟨(some 21), .copy (.t 3), none, 32768, []⟩,
 ⟨(some 22), .copy (.t 4), none, 32776, []⟩,
 ⟨(some 23), .faddr 1 (.t 1), none, 32784, [0]⟩,
 ⟨none, .store 1 (.t 23) (.t 21), none, 32792, [2, 0]⟩,
 ⟨(some 24), .faddr 3 (.t 1), none, 32800, [0, 1, 2, 3]⟩,
 ⟨none, .store 1 (.t 24) (.t 22), none, 32808, [4, 0, 1, 2, 3]⟩])
 (.seq
 (.region 5 false [
 ⟨(some 25), .load true 4 (.t 1), none, 40960, []⟩,
 ⟨none, .store 4 (.t 2) (.t 25), none, 40968, [0]⟩])
 .ret))))))
theorem vf25 : VF Try.prog 25 = some (26, vc25, [.cell true 4 2]) := by kernel_rfl
/-- downspout/downspoutref31.copied -/
def vc27 : VCode :=
 (.seq
 (.region 0 false [
 ⟨(some 1), .box (.t 0), none, 0, []⟩,
 ⟨(some 2), .alloc [.nils, .nils, (.int .i64 0), .nils], none, 8, []⟩])
 (.seq
 (.region 1 false [
 ⟨(some 3), .bslice 1 [(.int .i64 0)] 0 [], none, 8192, []⟩,
 ⟨(some 4), .faddr 1 (.t 1), none, 8200, []⟩,
 ⟨(some 5), .load false 1 (.t 4), none, 8208, [1]⟩,
 ⟨(some 6), .append 1 8 [(.int .i64 0)] (.t 3) (.t 5), none, 8216, [0, 2, 1]⟩,
 ⟨(some 7), .faddr 1 (.t 1), none, 8224, [0, 1, 2, 3]⟩,
 ⟨none, .store 1 (.t 7) (.t 6), none, 8232, [4, 0, 1, 2, 3]⟩])
 (.seq
 (.region 2 false [
 ⟨(some 8), .bslice 1 [.nils] 0 [], none, 16384, []⟩,
 ⟨(some 9), .faddr 3 (.t 1), none, 16392, []⟩,
 ⟨(some 10), .load false 1 (.t 9), none, 16400, [1]⟩,
 ⟨(some 11), .append 1 24 [.nils] (.t 8) (.t 10), none, 16408, [0, 2, 1]⟩,
 ⟨(some 12), .faddr 3 (.t 1), none, 16416, [0, 1, 2, 3]⟩,
 ⟨none, .store 1 (.t 12) (.t 11), none, 16424, [4, 0, 1, 2, 3]⟩])
 (.seq
 (.region 3 false [
 ⟨(some 13), .load true 4 (.t 1), none, 24576, []⟩,
 ⟨none, .store 4 (.t 2) (.t 13), none, 24584, [0]⟩])
 .ret))))
theorem vf27 : VF Try.prog 27 = some (14, vc27, [.cell true 4 2]) := by kernel_rfl
/-- downspout/downspoutref31.on -/
def vc28 : VCode :=
 (.seq
 (.region 0 false [
 ⟨(some 1), .box (.t 0), none, 0, []⟩,
 ⟨(some 2), .alloc [.nils, .nils, (.int .i64 0), .nils], none, 8, []⟩])
 (.seq
 (.seq
 (.region 1 false [
 ⟨(some 3), .faddr 3 (.t 1), none, 8192, []⟩,
 ⟨(some 4), .load false 1 (.t 3), none, 8200, [0]⟩,
 ⟨(some 5), .faddr 2 (.t 1), none, 8208, []⟩,
 ⟨(some 6), .load false 1 (.t 5), none, 8216, [2]⟩,
 ⟨(some 7), .iaddr 1 (.t 4) (.t 6), none, 8224, [1, 0, 3, 2]⟩,
 ⟨(some 8), .load false 1 (.t 7), none, 8232, [4, 1, 0, 3, 2]⟩,
 ⟨(some 9), .len (.t 8), none, 8240, [5, 4, 1, 0, 3, 2]⟩,
 ⟨(some 10), .bin .eql (.t 9) (.c (.int .i64 0)), none, 8248, [6, 5, 4, 1, 0, 3, 2]⟩])
 (.cond (.t 10)
 (.region 2 false [
 ⟨(some 11), .faddr 1 (.t 1), none, 16384, []⟩,
 ⟨(some 12), .load false 1 (.t 11), none, 16392, [0]⟩,
 ⟨(some 13), .faddr 2 (.t 1), none, 16400, []⟩,
 ⟨(some 14), .load false 1 (.t 13), none, 16408, [2]⟩,
 ⟨(some 15), .iaddr 1 (.t 12) (.t 14), none, 16416, [1, 0, 3, 2]⟩,
 ⟨none, .store 1 (.t 15) (.c (.int .i64 0)), none, 16424, [4, 1, 0, 3, 2]⟩])
 .skip))
 (.seq
 (.region 3 false [
 ⟨(some 16), .faddr 2 (.t 1), none, 24576, []⟩,
 ⟨(some 17), .load false 1 (.t 16), none, 24584, [0]⟩,
 ⟨(some 18), .bin .add (.t 17) (.c (.int .i64 1)), none, 24592, [1, 0]⟩,
 ⟨(some 19), .faddr 0 (.t 1), none, 24600, []⟩,
 ⟨(some 20), .load false 1 (.t 19), none, 24608, [3]⟩,
 ⟨(some 21), .len (.t 20), none, 24616, [4, 3]⟩,
 ⟨(some 22), .bin .rem (.t 18) (.t 21), none, 24624, [2, 1, 0, 5, 4, 3]⟩,
 ⟨(some 23), .faddr 2 (.t 1), none, 24632, [0, 1, 2, 3, 4, 5, 6]⟩,
 ⟨none, .store 1 (.t 23) (.t 22), none, 24640, [7, 0, 1, 2, 3, 4, 5, 6]⟩])
 (.seq
 (.region 4 true [
 ⟨(some 24), .faddr 1 (.t 1), none, 32768, []⟩,
 ⟨(some 25), .load false 1 (.t 24), none, 32776, [0]⟩,
 ⟨(some 26), .faddr 2 (.t 1), none, 32784, []⟩,
 ⟨(some 27), .load false 1 (.t 26), none, 32792, [2]⟩,
 ⟨(some 28), .iaddr 1 (.t 25) (.t 27), none, 32800, [1, 0, 3, 2]⟩,
 ⟨(some 29), .load false 1 (.t 28), none, 32808, [4, 1, 0, 3, 2]⟩,
 ⟨(some 30), .faddr 0 (.t 1), none, 32816, []⟩,
 ⟨(some 31), .load false 1 (.t 30), none, 32824, [6]⟩,
 ⟨(some 32), .faddr 2 (.t 1), none, 32832, []⟩,
 ⟨(some 33), .load false 1 (.t 32), none, 32840, [8]⟩,
 ⟨(some 34), .iaddr 1 (.t 31) (.t 33), none, 32848, [7, 6, 9, 8]⟩,
 ⟨(some 35), .load false 1 (.t 34), none, 32856, [10, 7, 6, 9, 8]⟩,
 ⟨(some 36), .bin .add (.t 29) (.t 35), none, 32864, [5, 4, 1, 0, 3, 2, 11, 10, 7, 6, 9, 8]⟩,
 ⟨(some 37), .iaddr 1 (.t 25) (.t 27), none, 32872, [1, 0, 3, 2, 4, 5, 6, 7, 8, 9, 10, 11, 12]⟩,
 ⟨none, .store 1 (.t 37) (.t 36), none, 32880, [13, 1, 0, 3, 2, 4, 5, 6, 7, 8, 9, 10, 11, 12]⟩])
 (.seq
 (.region 5 false [
 ⟨(some 38), .load true 4 (.t 1), none, 40960, []⟩,
 ⟨none, .store 4 (.t 2) (.t 38), none, 40968, [0]⟩])
 .ret)))))
theorem vf28 : VF Try.prog 28 = some (39, vc28, [.cell true 4 2]) := by kernel_rfl
/-- slices.Clip[[]downspout/api.Job,downspout/api.Job] -/
def vc30 : VCode :=
 (.seq
 (.region 0 false [
 ⟨(some 2), .copy (.c .nils), none, 0, []⟩])
 (.seq
 (.region 1 false [
 ⟨(some 3), .copy (.t 0), none, 8192, []⟩,
 ⟨(some 4), .copy (.t 0), none, 8200, []⟩,
 ⟨(some 5), .len (.t 4), none, 8208, [1]⟩,
 ⟨(some 6), .copy (.t 0), none, 8216, []⟩,
 ⟨(some 7), .len (.t 6), none, 8224, [3]⟩,
 ⟨(some 8), .slsl 3 (.t 3) none (some (.t 5)) (some (.t 7)), none, 8232, [0, 2, 1, 4, 3]⟩,
 ⟨(some 2), .copy (.t 8), none, 8240, [5, 0, 2, 1, 4, 3]⟩])
 .ret))
theorem vf30 : VF Try.prog 30 = some (9, vc30, [.tmp 2]) := by kernel_rfl
/-- downspout/sched.New$1 -/
def vc31 : VCode :=
 (.seq
 (.region 0 false [
 ⟨(some 2), .copy (.c (.bool false)), none, 0, []⟩])
 (.seq
 (.region 1 false [
 ⟨(some 3), .copy (.t 0), none, 8192, []⟩,
 ⟨(some 4), .bin .lss (.t 3) (.c (.int .i64 1)), none, 8200, [0]⟩,
 ⟨(some 5), .copy (.t 4), none, 8208, [1, 0]⟩,
 ⟨(some 6), .copy (.t 0), (some (2, 5, false)), 8216, [2, 1, 0]⟩,
 ⟨(some 7), .bin .gtr (.t 6) (.c (.int .i64 100)), (some (2, 5, false)), 8224, [3, 2, 1, 0]⟩,
 ⟨(some 8), .pick (.t 5) (.c (.bool true)) (.t 7), none, 8232, [2, 1, 0, 4, 3]⟩,
 ⟨(some 2), .copy (.t 8), none, 8240, [5, 2, 1, 0, 4, 3]⟩])
 .ret))
theorem vf31 : VF Try.prog 31 = some (9, vc31, [.tmp 2]) := by kernel_rfl
/-- slices.ContainsFunc[[]int,int] -/
def vc32 : VCode :=
 (.seq
 (.region 0 false [
 ⟨(some 4), .copy (.c (.bool false)), none, 0, []⟩])
 (.seq
 (.region 1 false [
 ⟨(some 5), .copy (.t 0), none, 8192, []⟩,
 ⟨(some 6), .copy (.t 1), none, 8200, []⟩,
 ⟨(some 7), .call (.c (.fn 35 [])) [(.t 5), (.t 6)], none, 8208, [0, 1]⟩,
 ⟨(some 8), .bin .geq (.t 7) (.c (.int .i64 0)), none, 8216, [2, 0, 1]⟩,
 ⟨(some 4), .copy (.t 8), none, 8224, [3, 2, 0, 1]⟩])
 .ret))
theorem vf32 : VF Try.prog 32 = some (9, vc32, [.tmp 4]) := by kernel_rfl
/-- slices.Clone[[]int,int] -/
def vc33 : VCode :=
 (.seq
 (.region 0 false [
 ⟨(some 2), .copy (.c .nils), none, 0, []⟩])
 (.seq
 (.seq
 (.region 1 false [
 ⟨(some 3), .copy (.t 0), none, 8192, []⟩,
 ⟨(some 4), .isnil false (.t 3), none, 8200, [0]⟩])
 (.cond (.t 4)
 (.seq
 (.region 2 false [
 ⟨(some 2), .copy (.c .nils), none, 16384, []⟩])
 .ret)
 .skip))
 (.seq
 (.region 3 false [
 ⟨(some 5), .bslice 1 [(.int .i64 0)] 0 [], none, 24576, []⟩,
 ⟨(some 6), .copy (.t 0), none, 24584, []⟩,
 ⟨(some 7), .append 1 8 [(.int .i64 0)] (.t 5) (.t 6), none, 24592, [0, 1]⟩,
 ⟨(some 2), .copy (.t 7), none, 24600, [2, 0, 1]⟩])
 .ret)))
theorem vf33 : VF Try.prog 33 = some (8, vc33, [.tmp 2]) := by kernel_rfl
/-- slices.IndexFunc[[]int,int] -/
def vc35 : VCode :=
 (.seq
 (.region 0 false [
 ⟨(some 4), .copy (.c (.int .i64 0)), none, 0, []⟩])
 (.seq
 (.seq
 (.region 1 false [
 ⟨(some 6), .copy (.t 0), none, 8192, []⟩,
 ⟨(some 7), .len (.t 6), none, 8200, [0]⟩,
 ⟨(some 8), .copy (.c (.int .i64 0)), none, 8208, []⟩])
 (.block 0
 (.loop
 (.seq
 (.region 2 false [
 ⟨(some 9), .bin .lss (.t 8) (.t 7), none, 16384, []⟩])
 (.seq
 (.cond (.t 9)
 .skip
 (.exit 0))
 (.seq
 (.block 1
 (.seq
 (.region 3 false [
 ⟨(some 10), .copy (.t 8), none, 24576, []⟩,
 ⟨(some 5), .copy (.t 10), none, 24584, [0]⟩])
 (.seq
 (.region 4 false [
 ⟨(some 11), .copy (.t 1), none, 32768, []⟩,
 ⟨(some 12), .copy (.t 0), none, 32776, []⟩,
 ⟨(some 13), .copy (.t 5), none, 32784, []⟩,
 ⟨(some 14), .iaddr 1 (.t 12) (.t 13), none, 32792, [1, 2]⟩,
 ⟨(some 15), .load false 1 (.t 14), none, 32800, [3, 1, 2]⟩,
 ⟨(some 16), .call (.t 11) [(.t 15)], none, 32808, [0, 4, 3, 1, 2]⟩])
 (.cond (.t 16)
 (.seq
 (.region 5 false [
 ⟨(some 17), .copy (.t 5), none, 40960, []⟩,
 ⟨(some 4), .copy (.t 17), none, 40968, [0]⟩])
 .ret)
 .skip))))
 (.region 6 false [
 ⟨(some 18), .bin .add (.t 8) (.c (.int .i64 1)), none, 49152, []⟩,
 ⟨(some 8), .copy (.t 18), none, 49160, [0]⟩])))))))
 (.seq
 (.region 7 false [
 ⟨(some 4), .copy (.c (.int .i64 (-1))), none, 57344, []⟩])
 .ret)))
theorem vf35 : VF Try.prog 35 = some (19, vc35, [.tmp 4]) := by kernel_rfl
/-- A schedule with lists of its own. -/
abbrev schV (b c : Bid) (s : SchL) : PV := .agg [.sh false (s.w.map encI), ownV b (s.c.map encI), .int .i64 s.turn, ownV c (s.q.map encQ)]
theorem okI (l : List Int) : okEls 1 (l.map encI) := okEls.map fun a => by simp [closed]
theorem okQ (l : List (List JobL)) : okEls 1 (l.map encQ) := okEls.map fun a => by simp [closed]
theorem l_sch {hf : HF} {b c : Bid} {s : SchL} (hb : hf b = some (blkV 1 (s.c.map encI))) (hc : hf c = some (blkV 1 (s.q.map encQ))) : lendVs hf [] [schV b c s] = some ([b, c], [.agg (encSc s)]) := by
  have h1 : lendS hf [] (ownV b (s.c.map encI)) = some ([b], .sh false (s.c.map encI)) := l_own hb rfl
  have h2 : lendS hf [] (ownV c (s.q.map encQ)) = some ([c], .sh false (s.q.map encQ)) := l_own hc rfl
  simp only [schV, lendVs, lendV, lendSs]
  rw [h1, h2]
  rfl
set_option maxHeartbeats 1000000 in
theorem copied_vc {s : SchL} (hc : s.c.length ≤ 1000000) (hq : s.q.length ≤ 1000000) : VC Try.prog 25 [.agg (encSc s)] [] (schV ⟨0, 0⟩ ⟨0, 1⟩ s) [blkV 1 (s.c.map encI), blkV 1 (s.q.map encQ)] := by
  refine vc_of vf25 ?_ (Nat.le_of_ble_eq_true rfl) (by intro vs h; cases h)
  repeat first | refine o_copy ?_ | refine nl ?_ | refine ct_seq ?_ | refine rg ?_ | refine ct_block ?_ | refine bq ?_ | refine o_v (vmkn (n := (s.c.map encI).length)) ?_ | refine o_v (vmkn (n := (s.q.map encQ).length)) ?_ | refine o_v (vcpyA (els := List.replicate (s.c.map encI).length [.int .i64 0]) (ys := s.c.map encI) (by simp) (okI s.c)) ?_ | refine o_v (vcpyA (els := List.replicate (s.q.map encQ).length [.nils]) (ys := s.q.map encQ) (by simp) (okQ s.q)) ?_ | refine o_loads ?_ | refine o_loadp ?_ | refine o_faddr ?_ | refine o_lenq ?_ | refine o_len ?_ | refine o_loadsA ?_ | refine o_loadpA ?_ | refine o_box ?_ | refine o_alloc ?_ | refine o_store ?_
  refine ct_ret ⟨.inr rfl, ?_⟩
  exact oG [⟨1, 8216⟩, ⟨1, 8248⟩] (v' := .agg [.sh false (s.w.map encI), .own ⟨0, 0⟩ (s.c.map encI).length 0 (s.c.map encI).length, .int .i64 s.turn, .own ⟨0, 1⟩ (s.q.map encQ).length 0 (s.q.map encQ).length])
theorem rcopied_vc {s : SchL} (hc : s.c.length ≤ 1000000) (hq : s.q.length ≤ 1000000) : VC Try.prog 27 [.agg (encSc s)] [] (schV ⟨0, 0⟩ ⟨0, 1⟩ s) [blkV 1 (s.c.map encI), blkV 1 (s.q.map encQ)] := by
  refine vc_of vf27 ?_ (Nat.le_of_ble_eq_true rfl) (by intro vs h; cases h)
  repeat first | refine o_copy ?_ | refine nl ?_ | refine ct_seq ?_ | refine rg ?_ | refine ct_block ?_ | refine bq ?_ | refine o_v (vaps encI [] s.c) ?_ | refine o_v (vaps encQ [] s.q) ?_ | refine o_loads ?_ | refine o_loadp ?_ | refine o_faddr ?_ | refine o_loadsA ?_ | refine o_loadpA ?_ | refine o_box ?_ | refine o_alloc ?_ | refine o_bslice ?_ | refine o_store ?_
  refine ct_ret ⟨.inr rfl, ?_⟩
  exact oG [⟨1, 8192⟩, ⟨1, 16384⟩] (v' := schV ⟨0, 0⟩ ⟨0, 1⟩ s) (hout' := [blkV 1 (s.c.map encI), blkV 1 (s.q.map encQ)])
set_option maxHeartbeats 1000000 in
theorem on_vc1 {s : SchL} (hw : WF s) {j : JobL} {js : List JobL} (hx : s.q[s.turn]? = some ([])) : VC Try.prog 28 [schV ⟨0, 0⟩ ⟨0, 1⟩ s] [blkV 1 (s.c.map encI), blkV 1 (s.q.map encQ)] (schV ⟨0, 0⟩ ⟨0, 1⟩ (onL s)) [blkV 1 ((onL s).c.map encI), blkV 1 (s.q.map encQ)] := by
  have hn1 := hw.n1
  have hn8 := hw.n8
  have htn := hw.tn
  have hlc := hw.lc
  have hlq := hw.lq
  have hxe := gm (enc := encQ) (n := (s.turn : Int)) hx (by omega)
  have hm : (s.turn + 1) % s.w.length < s.w.length := Nat.mod_lt _ (by omega)
  have hmod : Int.tmod ((s.turn : Int) + 1) ((s.w.map encI).length : Int) = (((s.turn + 1) % s.w.length : Nat) : Int) := by
    rw [List.length_map, Int.tmod_eq_emod_of_nonneg (by omega)]
    push_cast
    rfl
  have hmz : ((s.w.map encI).length : Int) ≠ 0 := by rw [List.length_map]; omega
  have hlen : ((s.c.set s.turn 0)).length = s.w.length := by simp [hlc]
  obtain ⟨w0, hw0⟩ : ∃ x, s.w[(s.turn + 1) % s.w.length]? = some x := ⟨_, List.getElem?_eq_getElem hm⟩
  obtain ⟨c0, hc0⟩ : ∃ x, ((s.c.set s.turn 0))[(s.turn + 1) % s.w.length]? = some x := ⟨_, List.getElem?_eq_getElem (by rw [hlen]; exact hm)⟩
  have hw1 := hw.ws _ _ hw0
  have hcb : 0 ≤ c0 ∧ c0 < 1100 := by
    have := hc0
    first
      | (rw [List.getElem?_set] at this
         split at this
         · split at this
           · cases this; omega
           · cases this
         · have := hw.cs _ _ this; omega)
      | (have := hw.cs _ _ this; omega)
  have hwe := gm (enc := encI) (n := (((s.turn + 1) % s.w.length : Nat) : Int)) hw0 (by omega)
  have hce := gm (enc := encI) (n := (((s.turn + 1) % s.w.length : Nat) : Int)) hc0 (by omega)
  generalize hT : (s.turn + 1) % s.w.length = T at *
  have hon : (onL s).c = ((s.c.set s.turn 0)).set T (c0 + w0) ∧ (onL s).turn = T := by
    simp only [onL, hT, hx, hw0]
    simp [hc0]
  refine vc_of vf28 ?_ (Nat.le_of_ble_eq_true rfl) (by intro vs h; cases h)
  repeat first | refine o_copy ?_ | refine nl ?_ | refine ct_seq ?_ | refine rg ?_ | refine ct_block ?_ | refine bq ?_ | refine o_loads ?_ | refine o_loadp ?_ | refine o_faddr ?_ | refine o_iaddr ?_ | refine o_iaddrO ?_ | refine o_iaddrR ?_ | refine o_add ?_ | refine o_cat ?_ | refine o_bin ?_ | refine o_lenq ?_ | refine o_len ?_ | refine o_loadsA ?_ | refine o_loadpA ?_ | refine o_box ?_ | refine o_alloc ?_ | refine o_store ?_
  refine cndt ?_ rfl (by simp)
  repeat first | refine o_copy ?_ | refine nl ?_ | refine ct_seq ?_ | refine rg ?_ | refine ct_block ?_ | refine bq ?_ | refine o_v (vst encI (0 : Int)) ?_ | refine o_rem ?_ | refine o_v (vst encI (c0 + w0)) ?_ | refine o_loads ?_ | refine o_loadp ?_ | refine o_faddr ?_ | refine o_iaddr ?_ | refine o_iaddrO ?_ | refine o_iaddrR ?_ | refine o_add ?_ | refine o_cat ?_ | refine o_bin ?_ | refine o_lenq ?_ | refine o_len ?_ | refine o_loadsA ?_ | refine o_loadpA ?_ | refine o_box ?_ | refine o_alloc ?_ | refine o_store ?_
  refine ct_ret ⟨.inr rfl, ?_⟩
  rw [schV, hon.1, hon.2, onL_q, onL_w]
  exact oG [] (v' := .agg [.sh false (s.w.map encI), .own ⟨0, 0⟩ (s.c.map encI).length 0 (s.c.map encI).length, .int .i64 T, .own ⟨0, 1⟩ (s.q.map encQ).length 0 (s.q.map encQ).length]) (hv := by simp [ownV, onL_q, onL_w])
set_option maxHeartbeats 1000000 in
theorem on_vc2 {s : SchL} (hw : WF s) {j : JobL} {js : List JobL} (hx : s.q[s.turn]? = some ((j :: js))) : VC Try.prog 28 [schV ⟨0, 0⟩ ⟨0, 1⟩ s] [blkV 1 (s.c.map encI), blkV 1 (s.q.map encQ)] (schV ⟨0, 0⟩ ⟨0, 1⟩ (onL s)) [blkV 1 ((onL s).c.map encI), blkV 1 (s.q.map encQ)] := by
  have hn1 := hw.n1
  have hn8 := hw.n8
  have htn := hw.tn
  have hlc := hw.lc
  have hlq := hw.lq
  have hxe := gm (enc := encQ) (n := (s.turn : Int)) hx (by omega)
  have hm : (s.turn + 1) % s.w.length < s.w.length := Nat.mod_lt _ (by omega)
  have hmod : Int.tmod ((s.turn : Int) + 1) ((s.w.map encI).length : Int) = (((s.turn + 1) % s.w.length : Nat) : Int) := by
    rw [List.length_map, Int.tmod_eq_emod_of_nonneg (by omega)]
    push_cast
    rfl
  have hmz : ((s.w.map encI).length : Int) ≠ 0 := by rw [List.length_map]; omega
  have hlen : (s.c).length = s.w.length := by simp [hlc]
  obtain ⟨w0, hw0⟩ : ∃ x, s.w[(s.turn + 1) % s.w.length]? = some x := ⟨_, List.getElem?_eq_getElem hm⟩
  obtain ⟨c0, hc0⟩ : ∃ x, (s.c)[(s.turn + 1) % s.w.length]? = some x := ⟨_, List.getElem?_eq_getElem (by rw [hlen]; exact hm)⟩
  have hw1 := hw.ws _ _ hw0
  have hcb : 0 ≤ c0 ∧ c0 < 1100 := by
    have := hc0
    first
      | (rw [List.getElem?_set] at this
         split at this
         · split at this
           · cases this; omega
           · cases this
         · have := hw.cs _ _ this; omega)
      | (have := hw.cs _ _ this; omega)
  have hwe := gm (enc := encI) (n := (((s.turn + 1) % s.w.length : Nat) : Int)) hw0 (by omega)
  have hce := gm (enc := encI) (n := (((s.turn + 1) % s.w.length : Nat) : Int)) hc0 (by omega)
  generalize hT : (s.turn + 1) % s.w.length = T at *
  have hon : (onL s).c = (s.c).set T (c0 + w0) ∧ (onL s).turn = T := by
    simp only [onL, hT, hx, hw0]
    simp [hc0]
  refine vc_of vf28 ?_ (Nat.le_of_ble_eq_true rfl) (by intro vs h; cases h)
  repeat first | refine o_copy ?_ | refine nl ?_ | refine ct_seq ?_ | refine rg ?_ | refine ct_block ?_ | refine bq ?_ | refine o_loads ?_ | refine o_loadp ?_ | refine o_faddr ?_ | refine o_iaddr ?_ | refine o_iaddrO ?_ | refine o_iaddrR ?_ | refine o_add ?_ | refine o_cat ?_ | refine o_bin ?_ | refine o_lenq ?_ | refine o_len ?_ | refine o_loadsA ?_ | refine o_loadpA ?_ | refine o_box ?_ | refine o_alloc ?_ | refine o_store ?_
  refine cndf (ct_skip ?_) rfl (by simp; omega)
  repeat first | refine o_copy ?_ | refine nl ?_ | refine ct_seq ?_ | refine rg ?_ | refine ct_block ?_ | refine bq ?_ | refine o_v (vst encI (0 : Int)) ?_ | refine o_rem ?_ | refine o_v (vst encI (c0 + w0)) ?_ | refine o_loads ?_ | refine o_loadp ?_ | refine o_faddr ?_ | refine o_iaddr ?_ | refine o_iaddrO ?_ | refine o_iaddrR ?_ | refine o_add ?_ | refine o_cat ?_ | refine o_bin ?_ | refine o_lenq ?_ | refine o_len ?_ | refine o_loadsA ?_ | refine o_loadpA ?_ | refine o_box ?_ | refine o_alloc ?_ | refine o_store ?_
  refine ct_ret ⟨.inr rfl, ?_⟩
  rw [schV, hon.1, hon.2, onL_q, onL_w]
  exact oG [] (v' := .agg [.sh false (s.w.map encI), .own ⟨0, 0⟩ (s.c.map encI).length 0 (s.c.map encI).length, .int .i64 T, .own ⟨0, 1⟩ (s.q.map encQ).length 0 (s.q.map encQ).length]) (hv := by simp [ownV, onL_q, onL_w])

theorem decNT {p : Prop} [Decidable p] (h : ¬ p) : (!decide p) = true := by simp [h]
theorem decNF {p : Prop} [Decidable p] (h : p) : (!decide p) = false := by simp [h]
/-- What two schedules must be for a comparison. -/
def Small (s : SchL) : Prop := s.w.length ≤ 1000000 ∧ s.c.length ≤ 1000000 ∧ s.q.length ≤ 1000000 ∧ ∀ l ∈ s.q, l.length ≤ 1000000
theorem WF.small {s : SchL} (h : WF s) : Small s := ⟨by have := h.n8; omega, by have := h.n8; have := h.lc; omega, by have := h.n8; have := h.lq; omega, fun l hl => by
  obtain ⟨i, hi⟩ := List.mem_iff_getElem?.1 hl
  have := waitL_get hi
  have := h.wt
  omega⟩
theorem same_vc {a b : SchL} (ha : Small a) (hb : Small b) : VC Try.prog 16 [.agg (encSc a), .agg (encSc b)] [] (.bool (decide (a = b))) [] := by
  refine vc_of vf16 ?_ (Nat.le_of_ble_eq_true rfl) (by intro vs h; cases h)
  have fin : ∀ {p : Prop} [Decidable p], ¬ p → false = decide p := fun h => by simp [h]
  by_cases h1 : a.w = b.w
  rotate_left
  · have g1 := decNT h1
    repeat first | refine o_copy ?_ | refine nl ?_ | refine ct_seq ?_ | refine rg ?_ | refine ct_block ?_ | refine bq ?_ | refine cv0 (ints_vc ha.1 hb.1) ?_ | refine o_loads ?_ | refine o_loadp ?_ | refine o_faddr ?_ | refine o_iaddr ?_ | refine o_iaddrO ?_ | refine o_iaddrR ?_ | refine o_add ?_ | refine o_cat ?_ | refine o_bin ?_ | refine o_lenq ?_ | refine o_len ?_ | refine o_box ?_ | refine o_not ?_ | refine o_pickt ?_ | refine o_pickf ?_ | refine skF ?_ | refine skU ?_
    refine cndt ?_
    repeat first | refine o_copy ?_ | refine nl ?_ | refine ct_seq ?_ | refine rg ?_ | refine ct_block ?_ | refine bq ?_ | refine o_loads ?_ | refine o_loadp ?_ | refine o_faddr ?_ | refine o_iaddr ?_ | refine o_iaddrO ?_ | refine o_iaddrR ?_ | refine o_add ?_ | refine o_cat ?_ | refine o_bin ?_ | refine o_lenq ?_ | refine o_len ?_ | refine o_box ?_ | refine o_not ?_ | refine o_pickt ?_ | refine o_pickf ?_ | refine skF ?_ | refine skU ?_
    exact ct_ret ⟨.inr rfl, oB (fin fun h => h1 (h ▸ rfl))⟩
  have g1 := decNF h1
  by_cases h2 : a.c = b.c
  rotate_left
  · have g2 := decNT h2
    repeat first | refine o_copy ?_ | refine nl ?_ | refine ct_seq ?_ | refine rg ?_ | refine ct_block ?_ | refine bq ?_ | refine cv0 (ints_vc ha.1 hb.1) ?_ | refine cv0 (ints_vc ha.2.1 hb.2.1) ?_ | refine o_loads ?_ | refine o_loadp ?_ | refine o_faddr ?_ | refine o_iaddr ?_ | refine o_iaddrO ?_ | refine o_iaddrR ?_ | refine o_add ?_ | refine o_cat ?_ | refine o_bin ?_ | refine o_lenq ?_ | refine o_len ?_ | refine o_box ?_ | refine o_not ?_ | refine o_pickt ?_ | refine o_pickf ?_ | refine skF ?_ | refine skU ?_
    refine cndt ?_
    repeat first | refine o_copy ?_ | refine nl ?_ | refine ct_seq ?_ | refine rg ?_ | refine ct_block ?_ | refine bq ?_ | refine o_loads ?_ | refine o_loadp ?_ | refine o_faddr ?_ | refine o_iaddr ?_ | refine o_iaddrO ?_ | refine o_iaddrR ?_ | refine o_add ?_ | refine o_cat ?_ | refine o_bin ?_ | refine o_lenq ?_ | refine o_len ?_ | refine o_box ?_ | refine o_not ?_ | refine o_pickt ?_ | refine o_pickf ?_ | refine skF ?_ | refine skU ?_
    exact ct_ret ⟨.inr rfl, oB (fin fun h => h2 (h ▸ rfl))⟩
  have g2 := decNF h2
  by_cases h3 : a.turn = b.turn
  rotate_left
  · have g3 : ((a.turn : Int) != (b.turn : Int)) = true := by simpa using fun h : (a.turn : Int) = b.turn => h3 (by omega)
    repeat first | refine o_copy ?_ | refine nl ?_ | refine ct_seq ?_ | refine rg ?_ | refine ct_block ?_ | refine bq ?_ | refine cv0 (ints_vc ha.1 hb.1) ?_ | refine cv0 (ints_vc ha.2.1 hb.2.1) ?_ | refine o_loads ?_ | refine o_loadp ?_ | refine o_faddr ?_ | refine o_iaddr ?_ | refine o_iaddrO ?_ | refine o_iaddrR ?_ | refine o_add ?_ | refine o_cat ?_ | refine o_bin ?_ | refine o_lenq ?_ | refine o_len ?_ | refine o_box ?_ | refine o_not ?_ | refine o_pickt ?_ | refine o_pickf ?_ | refine skF ?_ | refine skU ?_
    refine cndt ?_
    repeat first | refine o_copy ?_ | refine nl ?_ | refine ct_seq ?_ | refine rg ?_ | refine ct_block ?_ | refine bq ?_ | refine o_loads ?_ | refine o_loadp ?_ | refine o_faddr ?_ | refine o_iaddr ?_ | refine o_iaddrO ?_ | refine o_iaddrR ?_ | refine o_add ?_ | refine o_cat ?_ | refine o_bin ?_ | refine o_lenq ?_ | refine o_len ?_ | refine o_box ?_ | refine o_not ?_ | refine o_pickt ?_ | refine o_pickf ?_ | refine skF ?_ | refine skU ?_
    exact ct_ret ⟨.inr rfl, oB (fin fun h => h3 (h ▸ rfl))⟩
  have g3 : ((a.turn : Int) != (b.turn : Int)) = false := by simp [h3]
  by_cases h4 : a.q.length = b.q.length
  rotate_left
  · have g4 : (((a.q.map encQ).length : Int) != ((b.q.map encQ).length : Int)) = true := by
      simp only [List.length_map]
      simpa using fun h : (a.q.length : Int) = b.q.length => h4 (by omega)
    repeat first | refine o_copy ?_ | refine nl ?_ | refine ct_seq ?_ | refine rg ?_ | refine ct_block ?_ | refine bq ?_ | refine cv0 (ints_vc ha.1 hb.1) ?_ | refine cv0 (ints_vc ha.2.1 hb.2.1) ?_ | refine o_loads ?_ | refine o_loadp ?_ | refine o_faddr ?_ | refine o_iaddr ?_ | refine o_iaddrO ?_ | refine o_iaddrR ?_ | refine o_add ?_ | refine o_cat ?_ | refine o_bin ?_ | refine o_lenq ?_ | refine o_len ?_ | refine o_box ?_ | refine o_not ?_ | refine o_pickt ?_ | refine o_pickf ?_ | refine skF ?_ | refine skU ?_
    refine cndt ?_
    repeat first | refine o_copy ?_ | refine nl ?_ | refine ct_seq ?_ | refine rg ?_ | refine ct_block ?_ | refine bq ?_ | refine o_loads ?_ | refine o_loadp ?_ | refine o_faddr ?_ | refine o_iaddr ?_ | refine o_iaddrO ?_ | refine o_iaddrR ?_ | refine o_add ?_ | refine o_cat ?_ | refine o_bin ?_ | refine o_lenq ?_ | refine o_len ?_ | refine o_box ?_ | refine o_not ?_ | refine o_pickt ?_ | refine o_pickf ?_ | refine skF ?_ | refine skU ?_
    exact ct_ret ⟨.inr rfl, oB (fin fun h => h4 (h ▸ rfl))⟩
  have g4 : (((a.q.map encQ).length : Int) != ((b.q.map encQ).length : Int)) = false := by simp [h4]
  repeat first | refine o_copy ?_ | refine nl ?_ | refine ct_seq ?_ | refine rg ?_ | refine ct_block ?_ | refine bq ?_ | refine cv0 (ints_vc ha.1 hb.1) ?_ | refine cv0 (ints_vc ha.2.1 hb.2.1) ?_ | refine o_loads ?_ | refine o_loadp ?_ | refine o_faddr ?_ | refine o_iaddr ?_ | refine o_iaddrO ?_ | refine o_iaddrR ?_ | refine o_add ?_ | refine o_cat ?_ | refine o_bin ?_ | refine o_lenq ?_ | refine o_len ?_ | refine o_box ?_ | refine o_not ?_ | refine o_pickt ?_ | refine o_pickf ?_ | refine skF ?_ | refine skU ?_
  refine cndf (ct_skip ?_)
  repeat first | refine o_copy ?_ | refine nl ?_ | refine ct_seq ?_ | refine rg ?_ | refine ct_block ?_ | refine bq ?_ | refine o_loads ?_ | refine o_loadp ?_ | refine o_faddr ?_ | refine o_iaddr ?_ | refine o_iaddrO ?_ | refine o_iaddrR ?_ | refine o_add ?_ | refine o_cat ?_ | refine o_bin ?_ | refine o_lenq ?_ | refine o_len ?_ | refine o_box ?_ | refine o_not ?_ | refine o_pickt ?_ | refine o_pickf ?_ | refine skF ?_ | refine skU ?_
  refine ct_loopG (fun (g : Nat) => [(2, .ptr ⟨1, 0⟩ 1 0 0), (3, .ptr ⟨1, 8⟩ 1 0 0), (5, .int .i64 g)]) (fun g => [(⟨1, 0⟩, ⟨true, false, 4, [encSc a]⟩), (⟨1, 8⟩, ⟨true, false, 4, [encSc b]⟩)]) (fun g => a.q.length - g)
    (fun g => g ≤ a.q.length ∧ a.q.take g = b.q.take g) 0 goes ⟨Nat.zero_le _, by simp⟩ ?_
  rintro i ⟨hi, he⟩
  have hqa := ha.2.2.1
  repeat first | refine o_copy ?_ | refine nl ?_ | refine ct_seq ?_ | refine rg ?_ | refine ct_block ?_ | refine bq ?_ | refine o_loads ?_ | refine o_loadp ?_ | refine o_faddr ?_ | refine o_iaddr ?_ | refine o_iaddrO ?_ | refine o_iaddrR ?_ | refine o_add ?_ | refine o_cat ?_ | refine o_bin ?_ | refine o_lenq ?_ | refine o_len ?_ | refine o_box ?_ | refine o_not ?_ | refine o_pickt ?_ | refine o_pickf ?_ | refine skF ?_ | refine skU ?_
  refine cnd (fun h => ct_skip ?_) (fun h => ct_exit ?_)
  · have hlt : i < a.q.length := by have h' := of_decide_eq_true h; simp only [List.length_map] at h'; omega
    obtain ⟨x, hx⟩ : ∃ x, a.q[i]? = some x := ⟨_, List.getElem?_eq_getElem hlt⟩
    obtain ⟨y, hy⟩ : ∃ x, b.q[i]? = some x := ⟨_, List.getElem?_eq_getElem (by omega)⟩
    have hxe := gm (enc := encQ) (n := (i : Int)) hx (by omega)
    have hye := gm (enc := encQ) (n := (i : Int)) hy (by omega)
    have hs := same_jobs_vc (ha.2.2.2 x (List.mem_of_getElem? hx)) (hb.2.2.2 y (List.mem_of_getElem? hy))
    repeat first | refine o_copy ?_ | refine nl ?_ | refine ct_seq ?_ | refine rg ?_ | refine ct_block ?_ | refine bq ?_ | refine cv0 hs ?_ | refine o_loads ?_ | refine o_loadp ?_ | refine o_faddr ?_ | refine o_iaddr ?_ | refine o_iaddrO ?_ | refine o_iaddrR ?_ | refine o_add ?_ | refine o_cat ?_ | refine o_bin ?_ | refine o_lenq ?_ | refine o_len ?_ | refine o_box ?_ | refine o_not ?_ | refine o_pickt ?_ | refine o_pickf ?_ | refine skF ?_ | refine skU ?_
    refine cnd (fun h => ?_) (fun h => ct_skip ?_)
    · repeat first | refine o_copy ?_ | refine nl ?_ | refine ct_seq ?_ | refine rg ?_ | refine ct_block ?_ | refine bq ?_ | refine o_loads ?_ | refine o_loadp ?_ | refine o_faddr ?_ | refine o_iaddr ?_ | refine o_iaddrO ?_ | refine o_iaddrR ?_ | refine o_add ?_ | refine o_cat ?_ | refine o_bin ?_ | refine o_lenq ?_ | refine o_len ?_ | refine o_box ?_ | refine o_not ?_ | refine o_pickt ?_ | refine o_pickf ?_ | refine skF ?_ | refine skU ?_
      refine ct_ret ⟨.inr rfl, oB (fin ?_)⟩
      rintro rfl
      rw [hx] at hy
      cases hy
      simp at h
    · have hxy : x = y := by simpa using h
      repeat first | refine o_copy ?_ | refine nl ?_ | refine ct_seq ?_ | refine rg ?_ | refine ct_block ?_ | refine bq ?_ | refine o_loads ?_ | refine o_loadp ?_ | refine o_faddr ?_ | refine o_iaddr ?_ | refine o_iaddrO ?_ | refine o_iaddrR ?_ | refine o_add ?_ | refine o_cat ?_ | refine o_bin ?_ | refine o_lenq ?_ | refine o_len ?_ | refine o_box ?_ | refine o_not ?_ | refine o_pickt ?_ | refine o_pickf ?_ | refine skF ?_ | refine skU ?_
      refine agn (i + 1) ⟨by omega, ?_⟩ goes
      rw [List.take_add_one, List.take_add_one, he, hx, hy, hxy]
  · have hge : i = a.q.length := by have h' := of_decide_eq_false h; simp only [List.length_map] at h'; omega
    repeat first | refine o_copy ?_ | refine nl ?_ | refine ct_seq ?_ | refine rg ?_ | refine ct_block ?_ | refine bq ?_ | refine o_loads ?_ | refine o_loadp ?_ | refine o_faddr ?_ | refine o_iaddr ?_ | refine o_iaddrO ?_ | refine o_iaddrR ?_ | refine o_add ?_ | refine o_cat ?_ | refine o_bin ?_ | refine o_lenq ?_ | refine o_len ?_ | refine o_box ?_ | refine o_not ?_ | refine o_pickt ?_ | refine o_pickf ?_ | refine skF ?_ | refine skU ?_
    refine ct_ret ⟨.inr rfl, oB ?_⟩
    symm
    rw [decide_eq_true_eq]
    rw [hge, List.take_length, h4, List.take_length] at he
    cases a; cases b
    simp_all
theorem clip_vc {l : List JobL} (hl : l.length ≤ 1000000) : VC Try.prog 30 [.sh false (l.map encJ)] [] (.sh true (l.map encJ)) [] := by
  refine vc_of vf30 ?_ (Nat.le_of_ble_eq_true rfl) (by intro vs h; cases h)
  have hv : ∀ {lvl site : Nat} {tf : TF} {hf : HF} {x y z : VX}, ev tf x = some (.sh false (l.map encJ)) → ev tf y = some (.int .i64 (l.map encJ).length) → ev tf z = some (.int .i64 (l.map encJ).length) →
      vop lvl site tf hf (.slsl 3 x none (some y) (some z)) = some ⟨.sh true (l.map encJ), [], []⟩ := by
    intro lvl site tf hf x y z h1 h2 h3
    have := v_slsh (lvl := lvl) (site := site) (hf := hf) (esz := 3) (lo := none) (hi := some y) (mx := some z) (a := 0) (z := (l.map encJ).length) (c := (l.map encJ).length) h1 rfl (by simp only [optInt, h2, Option.bind_some]) (by simp only [optInt, h3, Option.bind_some]) (by omega) (by omega) (by omega) (by omega) (fun e he => by
      obtain ⟨j, _, rfl⟩ := List.mem_map.1 he
      rfl)
    rw [this]
    simp
    exact List.take_of_length_le (by simp)
  repeat first | refine o_copy ?_ | refine nl ?_ | refine ct_seq ?_ | refine rg ?_ | refine ct_block ?_ | refine bq ?_ | refine o_v0 (hv rfl rfl rfl) ?_ | refine o_lenq ?_ | refine o_len ?_
  exact ct_ret ⟨.inr rfl, oAny rfl⟩
theorem wrong_vc (w : Int) : VC Try.prog 31 [.int .i64 w] [] (.bool (decide (w < 1) || decide (w > 100))) [] := by
  refine vc_of vf31 ?_ (Nat.le_of_ble_eq_true rfl) (by intro vs h; cases h)
  repeat' first | refine o_copy ?_ | refine nl ?_ | refine ct_seq ?_ | refine rg ?_ | refine ct_block ?_ | refine bq ?_ | refine ct_skip ?_ | refine ct_exit ?_ | refine rt_next ?_ | refine cndt ?_ | refine cndf ?_ | refine o_copy ?_ | refine o_bin ?_ | refine o_pickt ?_ | refine o_pickf ?_ | refine skF ?_ | refine skU ?_ | refine ct_ret ⟨.inr rfl, ?_⟩ | refine cnd (fun _ => ?_) (fun _ => ?_) | (refine glook (fun _ => ?_) (fun _ => ?_) <;> first | refine o_copy ?_ | refine o_bin ?_ | refine o_pickt ?_ | refine o_pickf ?_ | refine skF ?_ | refine skU ?_)
  all_goals refine oB ?_
  all_goals simp_all <;> omega
theorem index_vc {l : List Int} (hl : l.length ≤ 1000000) : VC Try.prog 35 [.sh false (l.map encI), .fn 31 []] [] (.int .i64 (match l.findIdx? (fun w => decide (w < 1) || decide (w > 100)) with | some i => (i : Int) | none => -1)) [] := by
  refine vc_of vf35 ?_ (Nat.le_of_ble_eq_true rfl) (by intro vs h; cases h)
  repeat first | refine o_copy ?_ | refine nl ?_ | refine ct_seq ?_ | refine rg ?_ | refine ct_block ?_ | refine bq ?_ | refine o_loads ?_ | refine o_loadp ?_ | refine o_iaddr ?_ | refine o_iaddrO ?_ | refine o_iaddrR ?_ | refine o_add ?_ | refine o_cat ?_ | refine o_bin ?_ | refine o_lenq ?_ | refine o_len ?_
  refine ct_loopG (fun (g : Nat) => [(0, .sh false (l.map encI)), (1, .fn 31 []), (7, .int .i64 (l.map encI).length), (8, .int .i64 g)]) (fun g => []) (fun g => l.length - g)
    (fun g => g ≤ l.length ∧ ∀ x ∈ l.take g, (decide (x < 1) || decide (x > 100)) = false) 0 goes ⟨Nat.zero_le _, by simp⟩ ?_
  rintro i ⟨hi, he⟩
  repeat first | refine o_copy ?_ | refine nl ?_ | refine ct_seq ?_ | refine rg ?_ | refine ct_block ?_ | refine bq ?_ | refine o_loads ?_ | refine o_loadp ?_ | refine o_iaddr ?_ | refine o_iaddrO ?_ | refine o_iaddrR ?_ | refine o_add ?_ | refine o_cat ?_ | refine o_bin ?_ | refine o_lenq ?_ | refine o_len ?_
  refine cnd (fun h => ct_skip ?_) (fun h => ct_exit ?_)
  · have hlt : i < l.length := by have h' := of_decide_eq_true h; simp only [List.length_map] at h'; omega
    obtain ⟨x, hx⟩ : ∃ x, l[i]? = some x := ⟨_, List.getElem?_eq_getElem hlt⟩
    have hxe := gm (enc := encI) (n := (i : Int)) hx (by omega)
    repeat first | refine o_copy ?_ | refine nl ?_ | refine ct_seq ?_ | refine rg ?_ | refine ct_block ?_ | refine bq ?_ | refine cv0 (wrong_vc x) ?_ | refine o_loads ?_ | refine o_loadp ?_ | refine o_iaddr ?_ | refine o_iaddrO ?_ | refine o_iaddrR ?_ | refine o_add ?_ | refine o_cat ?_ | refine o_bin ?_ | refine o_lenq ?_ | refine o_len ?_
    refine cnd (fun h => ?_) (fun h => ct_skip ?_)
    · repeat first | refine o_copy ?_ | refine nl ?_ | refine ct_seq ?_ | refine rg ?_ | refine ct_block ?_ | refine bq ?_ | refine o_loads ?_ | refine o_loadp ?_ | refine o_iaddr ?_ | refine o_iaddrO ?_ | refine o_iaddrR ?_ | refine o_add ?_ | refine o_cat ?_ | refine o_bin ?_ | refine o_lenq ?_ | refine o_len ?_
      refine ct_ret ⟨.inr rfl, oI ?_⟩
      have : l.findIdx? (fun w => decide (w < 1) || decide (w > 100)) = some i := by
        rw [List.findIdx?_eq_some_iff_getElem]
        refine ⟨hlt, ?_, fun j hj => ?_⟩
        · have : l[i] = x := (List.getElem?_eq_some_iff.1 hx).2
          rw [this]; exact h
        · have := he l[j] (List.mem_take_iff_getElem.2 ⟨j, by omega, rfl⟩)
          simpa using this
      rw [this]
    · repeat first | refine o_copy ?_ | refine nl ?_ | refine ct_seq ?_ | refine rg ?_ | refine ct_block ?_ | refine bq ?_ | refine o_loads ?_ | refine o_loadp ?_ | refine o_iaddr ?_ | refine o_iaddrO ?_ | refine o_iaddrR ?_ | refine o_add ?_ | refine o_cat ?_ | refine o_bin ?_ | refine o_lenq ?_ | refine o_len ?_
      refine agn (i + 1) ⟨by omega, ?_⟩ goes
      intro y hy
      rw [List.take_add_one, hx] at hy
      rcases List.mem_append.1 hy with hy | hy
      · exact he y hy
      · simp at hy; subst hy; exact h
  · have hge : i = l.length := by have h' := of_decide_eq_false h; simp only [List.length_map] at h'; omega
    repeat first | refine o_copy ?_ | refine nl ?_ | refine ct_seq ?_ | refine rg ?_ | refine ct_block ?_ | refine bq ?_ | refine o_loads ?_ | refine o_loadp ?_ | refine o_iaddr ?_ | refine o_iaddrO ?_ | refine o_iaddrR ?_ | refine o_add ?_ | refine o_cat ?_ | refine o_bin ?_ | refine o_lenq ?_ | refine o_len ?_
    refine ct_ret ⟨.inr rfl, oI ?_⟩
    rw [hge, List.take_length] at he
    have : l.findIdx? (fun w => decide (w < 1) || decide (w > 100)) = none := by
      rw [List.findIdx?_eq_none_iff]
      exact he
    rw [this]
def wrongL (l : List Int) : Bool := l.any fun w => decide (w < 1) || decide (w > 100)
theorem contains_vc {l : List Int} (hl : l.length ≤ 1000000) : VC Try.prog 32 [.sh false (l.map encI), .fn 31 []] [] (.bool (wrongL l)) [] := by
  refine vc_of vf32 ?_ (Nat.le_of_ble_eq_true rfl) (by intro vs h; cases h)
  repeat first | refine o_copy ?_ | refine nl ?_ | refine ct_seq ?_ | refine rg ?_ | refine ct_block ?_ | refine bq ?_ | refine cv0 (index_vc hl) ?_ | refine o_bin ?_
  refine ct_ret ⟨.inr rfl, oB ?_⟩
  unfold wrongL
  cases h : l.findIdx? (fun w => decide (w < 1) || decide (w > 100)) with
  | none =>
    rw [List.findIdx?_eq_none_iff] at h
    symm
    simp only [show decide ((-1 : Int) ≥ 0) = false from rfl]
    rw [List.any_eq_false]
    intro x hx
    simpa using h x hx
  | some i =>
    rw [List.findIdx?_eq_some_iff_getElem] at h
    obtain ⟨h1, h2, _⟩ := h
    symm
    have : decide ((i : Int) ≥ 0) = true := by simp
    rw [this, List.any_eq_true]
    exact ⟨_, List.getElem_mem h1, h2⟩
end Go.Proofs
open Go.V Go.Pu
set_option linter.unusedVariables false
set_option linter.unusedSimpArgs false
set_option maxRecDepth 20000
namespace Go.Proofs
def addR (s : SchL) (j : JobL) : SchL × Int := if j.t < 0 ∨ (s.w.length : Int) ≤ j.t then (s, 310) else if j.c < 1 ∨ 1000 < j.c then (s, 1) else if 64 ≤ waitL s.q then (s, 311) else (addL s j, 0)
theorem okJ (l : List JobL) : okEls 3 (l.map encJ) := okEls.map fun a => by simp [closed]
theorem l_schT {hf : HF} {b c : Bid} {s : SchL} {e : Int} (hb : hf b = some (blkV 1 (s.c.map encI))) (hc : hf c = some (blkV 1 (s.q.map encQ))) : lendVs hf [] [schV b c s, .int .i64 e] = some ([b, c], [.agg (encSc s), .int .i64 e]) := by
  have h1 : lendS hf [] (ownV b (s.c.map encI)) = some ([b], .sh false (s.c.map encI)) := l_own hb rfl
  have h2 : lendS hf [] (ownV c (s.q.map encQ)) = some ([c], .sh false (s.q.map encQ)) := l_own hc rfl
  simp only [schV, lendVs, lendV, lendSs]
  rw [h1, h2]
  rfl
set_option maxHeartbeats 2000000 in
theorem add_vc {s : SchL} (hw : WF s) (j : JobL) : VC Try.prog 14 [.agg (encSc s), .agg (encJ j)] [] (.tup [.agg (encSc (addR s j).1), .int .i64 (addR s j).2]) [] := by
  have hn1 := hw.n1
  have hn8 := hw.n8
  have hlc := hw.lc
  have hlq := hw.lq
  have hwt := hw.wt
  have hwl : (s.w.map encI).length = s.w.length := by simp
  by_cases h0 : j.t < 0
  · have e : addR s j = (s, 310) := by unfold addR; rw [if_pos (.inl h0)]
    have g0 : decide (j.t < 0) = true := by simpa using h0
    rw [e]
    refine vc_of vf14 ?_ (Nat.le_of_ble_eq_true rfl) (by intro vs h; cases h; simp)
    repeat first | refine o_copy ?_ | refine nl ?_ | refine ct_seq ?_ | refine rg ?_ | refine ct_block ?_ | refine bq ?_ | refine o_loads ?_ | refine o_loadp ?_ | refine o_faddr ?_ | refine o_iaddr ?_ | refine o_iaddrO ?_ | refine o_iaddrR ?_ | refine o_bin ?_ | refine o_lenq ?_ | refine o_len ?_ | refine o_loadsA ?_ | refine o_loadpA ?_ | refine o_box ?_ | refine o_alloc ?_ | refine o_bslice ?_ | refine o_store ?_ | refine o_pickt ?_ | refine o_pickf ?_ | refine skF ?_ | refine skU ?_
    refine cndt ?_
    repeat first | refine o_copy ?_ | refine nl ?_ | refine ct_seq ?_ | refine rg ?_ | refine ct_block ?_ | refine bq ?_ | refine o_loads ?_ | refine o_loadp ?_ | refine o_faddr ?_ | refine o_iaddr ?_ | refine o_iaddrO ?_ | refine o_iaddrR ?_ | refine o_bin ?_ | refine o_lenq ?_ | refine o_len ?_ | refine o_loadsA ?_ | refine o_loadpA ?_ | refine o_box ?_ | refine o_alloc ?_ | refine o_bslice ?_ | refine o_store ?_ | refine o_pickt ?_ | refine o_pickf ?_ | refine skF ?_ | refine skU ?_
    exact ct_ret ⟨.inr rfl, oAny rfl⟩
  have g0 : decide (j.t < 0) = false := by simpa using h0
  by_cases h1 : (s.w.length : Int) ≤ j.t
  · have e : addR s j = (s, 310) := by unfold addR; rw [if_pos (.inr h1)]
    have g1 : decide (j.t ≥ ((s.w.map encI).length : Int)) = true := by rw [hwl]; simpa using h1
    rw [e]
    refine vc_of vf14 ?_ (Nat.le_of_ble_eq_true rfl) (by intro vs h; cases h; simp)
    repeat first | refine o_copy ?_ | refine nl ?_ | refine ct_seq ?_ | refine rg ?_ | refine ct_block ?_ | refine bq ?_ | refine o_loads ?_ | refine o_loadp ?_ | refine o_faddr ?_ | refine o_iaddr ?_ | refine o_iaddrO ?_ | refine o_iaddrR ?_ | refine o_bin ?_ | refine o_lenq ?_ | refine o_len ?_ | refine o_loadsA ?_ | refine o_loadpA ?_ | refine o_box ?_ | refine o_alloc ?_ | refine o_bslice ?_ | refine o_store ?_ | refine o_pickt ?_ | refine o_pickf ?_ | refine skF ?_ | refine skU ?_
    refine cndt ?_
    repeat first | refine o_copy ?_ | refine nl ?_ | refine ct_seq ?_ | refine rg ?_ | refine ct_block ?_ | refine bq ?_ | refine o_loads ?_ | refine o_loadp ?_ | refine o_faddr ?_ | refine o_iaddr ?_ | refine o_iaddrO ?_ | refine o_iaddrR ?_ | refine o_bin ?_ | refine o_lenq ?_ | refine o_len ?_ | refine o_loadsA ?_ | refine o_loadpA ?_ | refine o_box ?_ | refine o_alloc ?_ | refine o_bslice ?_ | refine o_store ?_ | refine o_pickt ?_ | refine o_pickf ?_ | refine skF ?_ | refine skU ?_
    exact ct_ret ⟨.inr rfl, oAny rfl⟩
  have g1 : decide (j.t ≥ ((s.w.map encI).length : Int)) = false := by rw [hwl]; simpa using h1
  by_cases h2 : j.c < 1
  · have e : addR s j = (s, 1) := by unfold addR; rw [if_neg (by omega), if_pos (.inl h2)]
    have g2 : decide (j.c < 1) = true := by simpa using h2
    rw [e]
    refine vc_of vf14 ?_ (Nat.le_of_ble_eq_true rfl) (by intro vs h; cases h; simp)
    repeat first | refine o_copy ?_ | refine nl ?_ | refine ct_seq ?_ | refine rg ?_ | refine ct_block ?_ | refine bq ?_ | refine o_loads ?_ | refine o_loadp ?_ | refine o_faddr ?_ | refine o_iaddr ?_ | refine o_iaddrO ?_ | refine o_iaddrR ?_ | refine o_bin ?_ | refine o_lenq ?_ | refine o_len ?_ | refine o_loadsA ?_ | refine o_loadpA ?_ | refine o_box ?_ | refine o_alloc ?_ | refine o_bslice ?_ | refine o_store ?_ | refine o_pickt ?_ | refine o_pickf ?_ | refine skF ?_ | refine skU ?_
    refine cndf ?_
    (try refine ct_skip ?_)
    repeat first | refine o_copy ?_ | refine nl ?_ | refine ct_seq ?_ | refine rg ?_ | refine ct_block ?_ | refine bq ?_ | refine o_loads ?_ | refine o_loadp ?_ | refine o_faddr ?_ | refine o_iaddr ?_ | refine o_iaddrO ?_ | refine o_iaddrR ?_ | refine o_bin ?_ | refine o_lenq ?_ | refine o_len ?_ | refine o_loadsA ?_ | refine o_loadpA ?_ | refine o_box ?_ | refine o_alloc ?_ | refine o_bslice ?_ | refine o_store ?_ | refine o_pickt ?_ | refine o_pickf ?_ | refine skF ?_ | refine skU ?_
    refine cndt ?_
    repeat first | refine o_copy ?_ | refine nl ?_ | refine ct_seq ?_ | refine rg ?_ | refine ct_block ?_ | refine bq ?_ | refine o_loads ?_ | refine o_loadp ?_ | refine o_faddr ?_ | refine o_iaddr ?_ | refine o_iaddrO ?_ | refine o_iaddrR ?_ | refine o_bin ?_ | refine o_lenq ?_ | refine o_len ?_ | refine o_loadsA ?_ | refine o_loadpA ?_ | refine o_box ?_ | refine o_alloc ?_ | refine o_bslice ?_ | refine o_store ?_ | refine o_pickt ?_ | refine o_pickf ?_ | refine skF ?_ | refine skU ?_
    exact ct_ret ⟨.inr rfl, oAny rfl⟩
  have g2 : decide (j.c < 1) = false := by simpa using h2
  by_cases h3 : 1000 < j.c
  · have e : addR s j = (s, 1) := by unfold addR; rw [if_neg (by omega), if_pos (.inr h3)]
    have g3 : decide (j.c > 1000) = true := by simpa using h3
    rw [e]
    refine vc_of vf14 ?_ (Nat.le_of_ble_eq_true rfl) (by intro vs h; cases h; simp)
    repeat first | refine o_copy ?_ | refine nl ?_ | refine ct_seq ?_ | refine rg ?_ | refine ct_block ?_ | refine bq ?_ | refine o_loads ?_ | refine o_loadp ?_ | refine o_faddr ?_ | refine o_iaddr ?_ | refine o_iaddrO ?_ | refine o_iaddrR ?_ | refine o_bin ?_ | refine o_lenq ?_ | refine o_len ?_ | refine o_loadsA ?_ | refine o_loadpA ?_ | refine o_box ?_ | refine o_alloc ?_ | refine o_bslice ?_ | refine o_store ?_ | refine o_pickt ?_ | refine o_pickf ?_ | refine skF ?_ | refine skU ?_
    refine cndf ?_
    (try refine ct_skip ?_)
    repeat first | refine o_copy ?_ | refine nl ?_ | refine ct_seq ?_ | refine rg ?_ | refine ct_block ?_ | refine bq ?_ | refine o_loads ?_ | refine o_loadp ?_ | refine o_faddr ?_ | refine o_iaddr ?_ | refine o_iaddrO ?_ | refine o_iaddrR ?_ | refine o_bin ?_ | refine o_lenq ?_ | refine o_len ?_ | refine o_loadsA ?_ | refine o_loadpA ?_ | refine o_box ?_ | refine o_alloc ?_ | refine o_bslice ?_ | refine o_store ?_ | refine o_pickt ?_ | refine o_pickf ?_ | refine skF ?_ | refine skU ?_
    refine cndt ?_
    repeat first | refine o_copy ?_ | refine nl ?_ | refine ct_seq ?_ | refine rg ?_ | refine ct_block ?_ | refine bq ?_ | refine o_loads ?_ | refine o_loadp ?_ | refine o_faddr ?_ | refine o_iaddr ?_ | refine o_iaddrO ?_ | refine o_iaddrR ?_ | refine o_bin ?_ | refine o_lenq ?_ | refine o_len ?_ | refine o_loadsA ?_ | refine o_loadpA ?_ | refine o_box ?_ | refine o_alloc ?_ | refine o_bslice ?_ | refine o_store ?_ | refine o_pickt ?_ | refine o_pickf ?_ | refine skF ?_ | refine skU ?_
    exact ct_ret ⟨.inr rfl, oAny rfl⟩
  have g3 : decide (j.c > 1000) = false := by simpa using h3
  have hwv := waiting_vc (s := s) (by omega) (by omega)
  by_cases h4 : 64 ≤ waitL s.q
  · have e : addR s j = (s, 311) := by unfold addR; rw [if_neg (by omega), if_neg (by omega), if_pos h4]
    have g4 : decide ((waitL s.q : Int) ≥ 64) = true := by simp; omega
    rw [e]
    refine vc_of vf14 ?_ (Nat.le_of_ble_eq_true rfl) (by intro vs h; cases h; simp)
    repeat first | refine o_copy ?_ | refine nl ?_ | refine ct_seq ?_ | refine rg ?_ | refine ct_block ?_ | refine bq ?_ | refine o_loads ?_ | refine o_loadp ?_ | refine o_faddr ?_ | refine o_iaddr ?_ | refine o_iaddrO ?_ | refine o_iaddrR ?_ | refine o_bin ?_ | refine o_lenq ?_ | refine o_len ?_ | refine o_loadsA ?_ | refine o_loadpA ?_ | refine o_box ?_ | refine o_alloc ?_ | refine o_bslice ?_ | refine o_store ?_ | refine o_pickt ?_ | refine o_pickf ?_ | refine skF ?_ | refine skU ?_
    refine cndf ?_
    (try refine ct_skip ?_)
    repeat first | refine o_copy ?_ | refine nl ?_ | refine ct_seq ?_ | refine rg ?_ | refine ct_block ?_ | refine bq ?_ | refine o_loads ?_ | refine o_loadp ?_ | refine o_faddr ?_ | refine o_iaddr ?_ | refine o_iaddrO ?_ | refine o_iaddrR ?_ | refine o_bin ?_ | refine o_lenq ?_ | refine o_len ?_ | refine o_loadsA ?_ | refine o_loadpA ?_ | refine o_box ?_ | refine o_alloc ?_ | refine o_bslice ?_ | refine o_store ?_ | refine o_pickt ?_ | refine o_pickf ?_ | refine skF ?_ | refine skU ?_
    refine cndf ?_
    (try refine ct_skip ?_)
    repeat first | refine o_copy ?_ | refine nl ?_ | refine ct_seq ?_ | refine rg ?_ | refine ct_block ?_ | refine bq ?_ | refine cv0 hwv ?_ | refine o_loads ?_ | refine o_loadp ?_ | refine o_faddr ?_ | refine o_iaddr ?_ | refine o_iaddrO ?_ | refine o_iaddrR ?_ | refine o_bin ?_ | refine o_lenq ?_ | refine o_len ?_ | refine o_loadsA ?_ | refine o_loadpA ?_ | refine o_box ?_ | refine o_alloc ?_ | refine o_bslice ?_ | refine o_store ?_ | refine o_pickt ?_ | refine o_pickf ?_ | refine skF ?_ | refine skU ?_
    refine cndt ?_
    repeat first | refine o_copy ?_ | refine nl ?_ | refine ct_seq ?_ | refine rg ?_ | refine ct_block ?_ | refine bq ?_ | refine o_loads ?_ | refine o_loadp ?_ | refine o_faddr ?_ | refine o_iaddr ?_ | refine o_iaddrO ?_ | refine o_iaddrR ?_ | refine o_bin ?_ | refine o_lenq ?_ | refine o_len ?_ | refine o_loadsA ?_ | refine o_loadpA ?_ | refine o_box ?_ | refine o_alloc ?_ | refine o_bslice ?_ | refine o_store ?_ | refine o_pickt ?_ | refine o_pickf ?_ | refine skF ?_ | refine skU ?_
    exact ct_ret ⟨.inr rfl, oAny rfl⟩
  have g4 : decide ((waitL s.q : Int) ≥ 64) = false := by simp; omega
  have e : addR s j = (addL s j, 0) := by unfold addR; rw [if_neg (by omega), if_neg (by omega), if_neg h4]
  rw [e]
  have htl : j.t.toNat < s.q.length := by omega
  obtain ⟨x, hx⟩ : ∃ x, s.q[j.t.toNat]? = some x := ⟨_, List.getElem?_eq_getElem htl⟩
  have hxe := gm (enc := encQ) (n := j.t) hx rfl
  have hxl := waitL_get hx
  have hxm : (x.map encJ).length = x.length := by simp
  have hq : (addL s j).q = s.q.set j.t.toNat (x ++ [j]) := by simp [addL, hx]
  have hcv := copied_vc (s := s) (by omega) (by omega)
  refine vc_closeT (hout := [blkV 1 (s.c.map encI), blkV 1 ((addL s j).q.map encQ)]) (vs := [schV ⟨0, 0⟩ ⟨0, 1⟩ (addL s j), .int .i64 0]) ?_ (l_schT rfl rfl) (by simp) (by simp [schV])
  refine vc_of vf14 ?_ (Nat.le_of_ble_eq_true rfl) (by intro vs h; cases h; simp [schV])
  repeat first | refine o_copy ?_ | refine nl ?_ | refine ct_seq ?_ | refine rg ?_ | refine ct_block ?_ | refine bq ?_ | refine o_loads ?_ | refine o_loadp ?_ | refine o_faddr ?_ | refine o_iaddr ?_ | refine o_iaddrO ?_ | refine o_iaddrR ?_ | refine o_bin ?_ | refine o_lenq ?_ | refine o_len ?_ | refine o_loadsA ?_ | refine o_loadpA ?_ | refine o_box ?_ | refine o_alloc ?_ | refine o_bslice ?_ | refine o_store ?_ | refine o_pickt ?_ | refine o_pickf ?_ | refine skF ?_ | refine skU ?_
  refine cndf ?_
  (try refine ct_skip ?_)
  repeat first | refine o_copy ?_ | refine nl ?_ | refine ct_seq ?_ | refine rg ?_ | refine ct_block ?_ | refine bq ?_ | refine o_loads ?_ | refine o_loadp ?_ | refine o_faddr ?_ | refine o_iaddr ?_ | refine o_iaddrO ?_ | refine o_iaddrR ?_ | refine o_bin ?_ | refine o_lenq ?_ | refine o_len ?_ | refine o_loadsA ?_ | refine o_loadpA ?_ | refine o_box ?_ | refine o_alloc ?_ | refine o_bslice ?_ | refine o_store ?_ | refine o_pickt ?_ | refine o_pickf ?_ | refine skF ?_ | refine skU ?_
  refine cndf ?_
  (try refine ct_skip ?_)
  repeat first | refine o_copy ?_ | refine nl ?_ | refine ct_seq ?_ | refine rg ?_ | refine ct_block ?_ | refine bq ?_ | refine cv0 hwv ?_ | refine o_loads ?_ | refine o_loadp ?_ | refine o_faddr ?_ | refine o_iaddr ?_ | refine o_iaddrO ?_ | refine o_iaddrR ?_ | refine o_bin ?_ | refine o_lenq ?_ | refine o_len ?_ | refine o_loadsA ?_ | refine o_loadpA ?_ | refine o_box ?_ | refine o_alloc ?_ | refine o_bslice ?_ | refine o_store ?_ | refine o_pickt ?_ | refine o_pickf ?_ | refine skF ?_ | refine skU ?_
  refine cndf (ct_skip ?_)
  repeat first | refine o_copy ?_ | refine nl ?_ | refine ct_seq ?_ | refine rg ?_ | refine ct_block ?_ | refine bq ?_ | refine cf hcv (h5 := ⟨rfl, rfl, trivial⟩) ?_ | refine cf (clip_vc (l := x) (by omega)) ?_ | refine o_v (vapS encJ x j) ?_ | refine o_stF encQ (x ++ [j]) ?_ | refine o_loads ?_ | refine o_loadp ?_ | refine o_faddr ?_ | refine o_iaddr ?_ | refine o_iaddrO ?_ | refine o_iaddrR ?_ | refine o_bin ?_ | refine o_lenq ?_ | refine o_len ?_ | refine o_loadsA ?_ | refine o_loadpA ?_ | refine o_box ?_ | refine o_alloc ?_ | refine o_bslice ?_ | refine o_store ?_ | refine o_pickt ?_ | refine o_pickf ?_ | refine skF ?_ | refine skU ?_
  refine ct_ret ⟨.inr rfl, ?_⟩
  rw [hq]
  exact oG [⟨1, 57352⟩, ⟨1, 57353⟩] (v' := .tup [.agg [.sh false (s.w.map encI), .own ⟨0, 0⟩ (s.c.map encI).length 0 (s.c.map encI).length, .int .i64 s.turn, .own ⟨0, 1⟩ (s.q.map encQ).length 0 (s.q.map encQ).length], .int .i64 0]) (hv := by simp [ownV, addL])
set_option maxHeartbeats 2000000 in
theorem radd_vc {s : SchL} (hw : WF s) (j : JobL) : VC Try.prog 15 [.agg (encSc s), .agg (encJ j)] [] (.tup [.agg (encSc (addR s j).1), .int .i64 (addR s j).2]) [] := by
  have hn1 := hw.n1
  have hn8 := hw.n8
  have hlc := hw.lc
  have hlq := hw.lq
  have hwt := hw.wt
  have hwl : (s.w.map encI).length = s.w.length := by simp
  by_cases h0 : j.t < 0
  · have e : addR s j = (s, 310) := by unfold addR; rw [if_pos (.inl h0)]
    have g0 : decide (j.t < 0) = true := by simpa using h0
    rw [e]
    refine vc_of vf15 ?_ (Nat.le_of_ble_eq_true rfl) (by intro vs h; cases h; simp)
    repeat first | refine o_copy ?_ | refine nl ?_ | refine ct_seq ?_ | refine rg ?_ | refine ct_block ?_ | refine bq ?_ | refine o_loads ?_ | refine o_loadp ?_ | refine o_faddr ?_ | refine o_iaddr ?_ | refine o_iaddrO ?_ | refine o_iaddrR ?_ | refine o_bin ?_ | refine o_lenq ?_ | refine o_len ?_ | refine o_loadsA ?_ | refine o_loadpA ?_ | refine o_box ?_ | refine o_alloc ?_ | refine o_bslice ?_ | refine o_store ?_ | refine o_pickt ?_ | refine o_pickf ?_ | refine skF ?_ | refine skU ?_
    refine cndt ?_
    repeat first | refine o_copy ?_ | refine nl ?_ | refine ct_seq ?_ | refine rg ?_ | refine ct_block ?_ | refine bq ?_ | refine o_loads ?_ | refine o_loadp ?_ | refine o_faddr ?_ | refine o_iaddr ?_ | refine o_iaddrO ?_ | refine o_iaddrR ?_ | refine o_bin ?_ | refine o_lenq ?_ | refine o_len ?_ | refine o_loadsA ?_ | refine o_loadpA ?_ | refine o_box ?_ | refine o_alloc ?_ | refine o_bslice ?_ | refine o_store ?_ | refine o_pickt ?_ | refine o_pickf ?_ | refine skF ?_ | refine skU ?_
    exact ct_ret ⟨.inr rfl, oAny rfl⟩
  have g0 : decide (j.t < 0) = false := by simpa using h0
  by_cases h1 : (s.w.length : Int) ≤ j.t
  · have e : addR s j = (s, 310) := by unfold addR; rw [if_pos (.inr h1)]
    have g1 : decide (j.t ≥ ((s.w.map encI).length : Int)) = true := by rw [hwl]; simpa using h1
    rw [e]
    refine vc_of vf15 ?_ (Nat.le_of_ble_eq_true rfl) (by intro vs h; cases h; simp)
    repeat first | refine o_copy ?_ | refine nl ?_ | refine ct_seq ?_ | refine rg ?_ | refine ct_block ?_ | refine bq ?_ | refine o_loads ?_ | refine o_loadp ?_ | refine o_faddr ?_ | refine o_iaddr ?_ | refine o_iaddrO ?_ | refine o_iaddrR ?_ | refine o_bin ?_ | refine o_lenq ?_ | refine o_len ?_ | refine o_loadsA ?_ | refine o_loadpA ?_ | refine o_box ?_ | refine o_alloc ?_ | refine o_bslice ?_ | refine o_store ?_ | refine o_pickt ?_ | refine o_pickf ?_ | refine skF ?_ | refine skU ?_
    refine cndt ?_
    repeat first | refine o_copy ?_ | refine nl ?_ | refine ct_seq ?_ | refine rg ?_ | refine ct_block ?_ | refine bq ?_ | refine o_loads ?_ | refine o_loadp ?_ | refine o_faddr ?_ | refine o_iaddr ?_ | refine o_iaddrO ?_ | refine o_iaddrR ?_ | refine o_bin ?_ | refine o_lenq ?_ | refine o_len ?_ | refine o_loadsA ?_ | refine o_loadpA ?_ | refine o_box ?_ | refine o_alloc ?_ | refine o_bslice ?_ | refine o_store ?_ | refine o_pickt ?_ | refine o_pickf ?_ | refine skF ?_ | refine skU ?_
    exact ct_ret ⟨.inr rfl, oAny rfl⟩
  have g1 : decide (j.t ≥ ((s.w.map encI).length : Int)) = false := by rw [hwl]; simpa using h1
  by_cases h2 : j.c < 1
  · have e : addR s j = (s, 1) := by unfold addR; rw [if_neg (by omega), if_pos (.inl h2)]
    have g2 : decide (j.c < 1) = true := by simpa using h2
    rw [e]
    refine vc_of vf15 ?_ (Nat.le_of_ble_eq_true rfl) (by intro vs h; cases h; simp)
    repeat first | refine o_copy ?_ | refine nl ?_ | refine ct_seq ?_ | refine rg ?_ | refine ct_block ?_ | refine bq ?_ | refine o_loads ?_ | refine o_loadp ?_ | refine o_faddr ?_ | refine o_iaddr ?_ | refine o_iaddrO ?_ | refine o_iaddrR ?_ | refine o_bin ?_ | refine o_lenq ?_ | refine o_len ?_ | refine o_loadsA ?_ | refine o_loadpA ?_ | refine o_box ?_ | refine o_alloc ?_ | refine o_bslice ?_ | refine o_store ?_ | refine o_pickt ?_ | refine o_pickf ?_ | refine skF ?_ | refine skU ?_
    refine cndf ?_
    (try refine ct_skip ?_)
    repeat first | refine o_copy ?_ | refine nl ?_ | refine ct_seq ?_ | refine rg ?_ | refine ct_block ?_ | refine bq ?_ | refine o_loads ?_ | refine o_loadp ?_ | refine o_faddr ?_ | refine o_iaddr ?_ | refine o_iaddrO ?_ | refine o_iaddrR ?_ | refine o_bin ?_ | refine o_lenq ?_ | refine o_len ?_ | refine o_loadsA ?_ | refine o_loadpA ?_ | refine o_box ?_ | refine o_alloc ?_ | refine o_bslice ?_ | refine o_store ?_ | refine o_pickt ?_ | refine o_pickf ?_ | refine skF ?_ | refine skU ?_
    refine cndt ?_
    repeat first | refine o_copy ?_ | refine nl ?_ | refine ct_seq ?_ | refine rg ?_ | refine ct_block ?_ | refine bq ?_ | refine o_loads ?_ | refine o_loadp ?_ | refine o_faddr ?_ | refine o_iaddr ?_ | refine o_iaddrO ?_ | refine o_iaddrR ?_ | refine o_bin ?_ | refine o_lenq ?_ | refine o_len ?_ | refine o_loadsA ?_ | refine o_loadpA ?_ | refine o_box ?_ | refine o_alloc ?_ | refine o_bslice ?_ | refine o_store ?_ | refine o_pickt ?_ | refine o_pickf ?_ | refine skF ?_ | refine skU ?_
    exact ct_ret ⟨.inr rfl, oAny rfl⟩
  have g2 : decide (j.c < 1) = false := by simpa using h2
  by_cases h3 : 1000 < j.c
  · have e : addR s j = (s, 1) := by unfold addR; rw [if_neg (by omega), if_pos (.inr h3)]
    have g3 : decide (j.c > 1000) = true := by simpa using h3
    rw [e]
    refine vc_of vf15 ?_ (Nat.le_of_ble_eq_true rfl) (by intro vs h; cases h; simp)
    repeat first | refine o_copy ?_ | refine nl ?_ | refine ct_seq ?_ | refine rg ?_ | refine ct_block ?_ | refine bq ?_ | refine o_loads ?_ | refine o_loadp ?_ | refine o_faddr ?_ | refine o_iaddr ?_ | refine o_iaddrO ?_ | refine o_iaddrR ?_ | refine o_bin ?_ | refine o_lenq ?_ | refine o_len ?_ | refine o_loadsA ?_ | refine o_loadpA ?_ | refine o_box ?_ | refine o_alloc ?_ | refine o_bslice ?_ | refine o_store ?_ | refine o_pickt ?_ | refine o_pickf ?_ | refine skF ?_ | refine skU ?_
    refine cndf ?_
    (try refine ct_skip ?_)
    repeat first | refine o_copy ?_ | refine nl ?_ | refine ct_seq ?_ | refine rg ?_ | refine ct_block ?_ | refine bq ?_ | refine o_loads ?_ | refine o_loadp ?_ | refine o_faddr ?_ | refine o_iaddr ?_ | refine o_iaddrO ?_ | refine o_iaddrR ?_ | refine o_bin ?_ | refine o_lenq ?_ | refine o_len ?_ | refine o_loadsA ?_ | refine o_loadpA ?_ | refine o_box ?_ | refine o_alloc ?_ | refine o_bslice ?_ | refine o_store ?_ | refine o_pickt ?_ | refine o_pickf ?_ | refine skF ?_ | refine skU ?_
    refine cndt ?_
    repeat first | refine o_copy ?_ | refine nl ?_ | refine ct_seq ?_ | refine rg ?_ | refine ct_block ?_ | refine bq ?_ | refine o_loads ?_ | refine o_loadp ?_ | refine o_faddr ?_ | refine o_iaddr ?_ | refine o_iaddrO ?_ | refine o_iaddrR ?_ | refine o_bin ?_ | refine o_lenq ?_ | refine o_len ?_ | refine o_loadsA ?_ | refine o_loadpA ?_ | refine o_box ?_ | refine o_alloc ?_ | refine o_bslice ?_ | refine o_store ?_ | refine o_pickt ?_ | refine o_pickf ?_ | refine skF ?_ | refine skU ?_
    exact ct_ret ⟨.inr rfl, oAny rfl⟩
  have g3 : decide (j.c > 1000) = false := by simpa using h3
  have hwv := rwaiting_vc (s := s) (by omega) (by omega)
  by_cases h4 : 64 ≤ waitL s.q
  · have e : addR s j = (s, 311) := by unfold addR; rw [if_neg (by omega), if_neg (by omega), if_pos h4]
    have g4 : decide ((waitL s.q : Int) ≥ 64) = true := by simp; omega
    rw [e]
    refine vc_of vf15 ?_ (Nat.le_of_ble_eq_true rfl) (by intro vs h; cases h; simp)
    repeat first | refine o_copy ?_ | refine nl ?_ | refine ct_seq ?_ | refine rg ?_ | refine ct_block ?_ | refine bq ?_ | refine o_loads ?_ | refine o_loadp ?_ | refine o_faddr ?_ | refine o_iaddr ?_ | refine o_iaddrO ?_ | refine o_iaddrR ?_ | refine o_bin ?_ | refine o_lenq ?_ | refine o_len ?_ | refine o_loadsA ?_ | refine o_loadpA ?_ | refine o_box ?_ | refine o_alloc ?_ | refine o_bslice ?_ | refine o_store ?_ | refine o_pickt ?_ | refine o_pickf ?_ | refine skF ?_ | refine skU ?_
    refine cndf ?_
    (try refine ct_skip ?_)
    repeat first | refine o_copy ?_ | refine nl ?_ | refine ct_seq ?_ | refine rg ?_ | refine ct_block ?_ | refine bq ?_ | refine o_loads ?_ | refine o_loadp ?_ | refine o_faddr ?_ | refine o_iaddr ?_ | refine o_iaddrO ?_ | refine o_iaddrR ?_ | refine o_bin ?_ | refine o_lenq ?_ | refine o_len ?_ | refine o_loadsA ?_ | refine o_loadpA ?_ | refine o_box ?_ | refine o_alloc ?_ | refine o_bslice ?_ | refine o_store ?_ | refine o_pickt ?_ | refine o_pickf ?_ | refine skF ?_ | refine skU ?_
    refine cndf ?_
    (try refine ct_skip ?_)
    repeat first | refine o_copy ?_ | refine nl ?_ | refine ct_seq ?_ | refine rg ?_ | refine ct_block ?_ | refine bq ?_ | refine cv0 hwv ?_ | refine o_loads ?_ | refine o_loadp ?_ | refine o_faddr ?_ | refine o_iaddr ?_ | refine o_iaddrO ?_ | refine o_iaddrR ?_ | refine o_bin ?_ | refine o_lenq ?_ | refine o_len ?_ | refine o_loadsA ?_ | refine o_loadpA ?_ | refine o_box ?_ | refine o_alloc ?_ | refine o_bslice ?_ | refine o_store ?_ | refine o_pickt ?_ | refine o_pickf ?_ | refine skF ?_ | refine skU ?_
    refine cndt ?_
    repeat first | refine o_copy ?_ | refine nl ?_ | refine ct_seq ?_ | refine rg ?_ | refine ct_block ?_ | refine bq ?_ | refine o_loads ?_ | refine o_loadp ?_ | refine o_faddr ?_ | refine o_iaddr ?_ | refine o_iaddrO ?_ | refine o_iaddrR ?_ | refine o_bin ?_ | refine o_lenq ?_ | refine o_len ?_ | refine o_loadsA ?_ | refine o_loadpA ?_ | refine o_box ?_ | refine o_alloc ?_ | refine o_bslice ?_ | refine o_store ?_ | refine o_pickt ?_ | refine o_pickf ?_ | refine skF ?_ | refine skU ?_
    exact ct_ret ⟨.inr rfl, oAny rfl⟩
  have g4 : decide ((waitL s.q : Int) ≥ 64) = false := by simp; omega
  have e : addR s j = (addL s j, 0) := by unfold addR; rw [if_neg (by omega), if_neg (by omega), if_neg h4]
  rw [e]
  have htl : j.t.toNat < s.q.length := by omega
  obtain ⟨x, hx⟩ : ∃ x, s.q[j.t.toNat]? = some x := ⟨_, List.getElem?_eq_getElem htl⟩
  have hxe := gm (enc := encQ) (n := j.t) hx rfl
  have hxl := waitL_get hx
  have hxm : (x.map encJ).length = x.length := by simp
  have hq : (addL s j).q = s.q.set j.t.toNat (x ++ [j]) := by simp [addL, hx]
  have hcv := rcopied_vc (s := s) (by omega) (by omega)
  refine vc_closeT (hout := [blkV 1 (s.c.map encI), blkV 1 ((addL s j).q.map encQ)]) (vs := [schV ⟨0, 0⟩ ⟨0, 1⟩ (addL s j), .int .i64 0]) ?_ (l_schT rfl rfl) (by simp) (by simp [schV])
  refine vc_of vf15 ?_ (Nat.le_of_ble_eq_true rfl) (by intro vs h; cases h; simp [schV])
  repeat first | refine o_copy ?_ | refine nl ?_ | refine ct_seq ?_ | refine rg ?_ | refine ct_block ?_ | refine bq ?_ | refine o_loads ?_ | refine o_loadp ?_ | refine o_faddr ?_ | refine o_iaddr ?_ | refine o_iaddrO ?_ | refine o_iaddrR ?_ | refine o_bin ?_ | refine o_lenq ?_ | refine o_len ?_ | refine o_loadsA ?_ | refine o_loadpA ?_ | refine o_box ?_ | refine o_alloc ?_ | refine o_bslice ?_ | refine o_store ?_ | refine o_pickt ?_ | refine o_pickf ?_ | refine skF ?_ | refine skU ?_
  refine cndf ?_
  (try refine ct_skip ?_)
  repeat first | refine o_copy ?_ | refine nl ?_ | refine ct_seq ?_ | refine rg ?_ | refine ct_block ?_ | refine bq ?_ | refine o_loads ?_ | refine o_loadp ?_ | refine o_faddr ?_ | refine o_iaddr ?_ | refine o_iaddrO ?_ | refine o_iaddrR ?_ | refine o_bin ?_ | refine o_lenq ?_ | refine o_len ?_ | refine o_loadsA ?_ | refine o_loadpA ?_ | refine o_box ?_ | refine o_alloc ?_ | refine o_bslice ?_ | refine o_store ?_ | refine o_pickt ?_ | refine o_pickf ?_ | refine skF ?_ | refine skU ?_
  refine cndf ?_
  (try refine ct_skip ?_)
  repeat first | refine o_copy ?_ | refine nl ?_ | refine ct_seq ?_ | refine rg ?_ | refine ct_block ?_ | refine bq ?_ | refine cv0 hwv ?_ | refine o_loads ?_ | refine o_loadp ?_ | refine o_faddr ?_ | refine o_iaddr ?_ | refine o_iaddrO ?_ | refine o_iaddrR ?_ | refine o_bin ?_ | refine o_lenq ?_ | refine o_len ?_ | refine o_loadsA ?_ | refine o_loadpA ?_ | refine o_box ?_ | refine o_alloc ?_ | refine o_bslice ?_ | refine o_store ?_ | refine o_pickt ?_ | refine o_pickf ?_ | refine skF ?_ | refine skU ?_
  refine cndf (ct_skip ?_)
  repeat first | refine o_copy ?_ | refine nl ?_ | refine ct_seq ?_ | refine rg ?_ | refine ct_block ?_ | refine bq ?_ | refine cf hcv (h5 := ⟨rfl, rfl, trivial⟩) ?_ | refine cf (clip_vc (l := x) (by omega)) ?_ | refine o_v (vaps encJ [] x) ?_ | refine o_v (vap encJ j) ?_ | refine o_stF encQ (x ++ [j]) ?_ | refine o_loads ?_ | refine o_loadp ?_ | refine o_faddr ?_ | refine o_iaddr ?_ | refine o_iaddrO ?_ | refine o_iaddrR ?_ | refine o_bin ?_ | refine o_lenq ?_ | refine o_len ?_ | refine o_loadsA ?_ | refine o_loadpA ?_ | refine o_box ?_ | refine o_alloc ?_ | refine o_bslice ?_ | refine o_store ?_ | refine o_pickt ?_ | refine o_pickf ?_ | refine skF ?_ | refine skU ?_
  refine ct_ret ⟨.inr rfl, ?_⟩
  rw [hq]
  exact oG [⟨1, 57352⟩, ⟨1, 57353⟩] (v' := .tup [.agg [.sh false (s.w.map encI), .own ⟨0, 0⟩ (s.c.map encI).length 0 (s.c.map encI).length, .int .i64 s.turn, .own ⟨0, 1⟩ (s.q.map encQ).length 0 (s.q.map encQ).length], .int .i64 0]) (hv := by simp [ownV, addL])
end Go.Proofs
