/- Td -/
import Derived.Test.YtjjkeakejclknaaTb
import Derived.Test.YtjjkeakejclknaaPu
import Derived.Test.YtjjkeakejclknaaVD
open Go.V Go.Pu
set_option linter.unusedVariables false
set_option linter.unusedSimpArgs false
set_option maxRecDepth 20000
namespace Go.Proofs
/-! Printed by turn.py out of the texts of the spans. -/
/-- downspout/downspoutref04.Has -/
def vc33 : VCode :=
 (.seq
 (.region 0 false [
 ⟨(some 2), .box (.t 0), none, 0, []⟩,
 ⟨(some 4), .copy (.c (.bool false)), none, 8, []⟩])
 (.seq
 (.region 1 false [
 ⟨(some 5), .copy (.t 1), none, 8192, []⟩,
 ⟨(some 6), .faddr 0 (.t 2), none, 8200, []⟩,
 ⟨(some 7), .load false 1 (.t 6), none, 8208, [1]⟩,
 ⟨(some 8), .bin .geq (.t 5) (.t 7), none, 8216, [0, 2, 1]⟩,
 ⟨(some 9), .copy (.t 8), none, 8224, [3, 0, 2, 1]⟩,
 ⟨(some 10), .faddr 1 (.t 2), (some (4, 9, true)), 8232, [4, 3, 0, 2, 1]⟩,
 ⟨(some 11), .load false 1 (.t 10), (some (4, 9, true)), 8240, [5, 4, 3, 0, 2, 1]⟩,
 ⟨(some 12), .bin .eql (.t 11) (.c (.str [])), (some (4, 9, true)), 8248, [6, 5, 4, 3, 0, 2, 1]⟩,
 ⟨(some 13), .copy (.t 12), (some (4, 9, true)), 8256, [7, 6, 5, 4, 3, 0, 2, 1]⟩,
 ⟨(some 14), .copy (.t 1), (some (8, 13, false)), 8264, [8, 7, 6, 5, 4, 3, 0, 2, 1]⟩,
 ⟨(some 15), .faddr 1 (.t 2), (some (8, 13, false)), 8272, [8, 7, 6, 5, 4, 3, 0, 2, 1]⟩,
 ⟨(some 16), .load false 1 (.t 15), (some (8, 13, false)), 8280, [10, 8, 7, 6, 5, 4, 3, 0, 2, 1]⟩,
 ⟨(some 17), .bin .lss (.t 14) (.t 16), (some (8, 13, false)), 8288, [9, 8, 7, 6, 5, 4, 3, 0, 2, 1, 11, 10]⟩,
 ⟨(some 18), .pick (.t 13) (.c (.bool true)) (.t 17), (some (4, 9, true)), 8296, [8, 7, 6, 5, 4, 3, 0, 2, 1, 12, 9, 11, 10]⟩,
 ⟨(some 19), .pick (.t 9) (.t 18) (.c (.bool false)), none, 8304, [4, 3, 0, 2, 1, 13, 8, 7, 6, 5, 12, 9, 11, 10]⟩,
 ⟨(some 4), .copy (.t 19), none, 8312, [14, 4, 3, 0, 2, 1, 13, 8, 7, 6, 5, 12, 9, 11, 10]⟩])
 .ret))
theorem vf33 : VF Try.prog 33 = some (20, vc33, [.tmp 4]) := by kernel_rfl
/-- downspout/downspoutref04.Begins -/
def vc34 : VCode :=
 (.seq
 (.region 0 false [
 ⟨(some 4), .copy (.c (.bool false)), none, 0, []⟩])
 (.seq
 (.region 1 false [
 ⟨(some 5), .copy (.t 0), none, 8192, []⟩,
 ⟨(some 6), .lenS (.t 5), none, 8200, [0]⟩,
 ⟨(some 7), .copy (.t 1), none, 8208, []⟩,
 ⟨(some 8), .lenS (.t 7), none, 8216, [2]⟩,
 ⟨(some 9), .bin .geq (.t 6) (.t 8), none, 8224, [1, 0, 3, 2]⟩,
 ⟨(some 10), .copy (.t 9), none, 8232, [4, 1, 0, 3, 2]⟩,
 ⟨(some 11), .copy (.t 0), (some (5, 10, true)), 8240, [5, 4, 1, 0, 3, 2]⟩,
 ⟨(some 12), .copy (.t 1), (some (5, 10, true)), 8248, [5, 4, 1, 0, 3, 2]⟩,
 ⟨(some 13), .lenS (.t 12), (some (5, 10, true)), 8256, [7, 5, 4, 1, 0, 3, 2]⟩,
 ⟨(some 14), .slstr (.t 11) none (some (.t 13)), (some (5, 10, true)), 8264, [6, 5, 4, 1, 0, 3, 2, 8, 7]⟩,
 ⟨(some 15), .copy (.t 1), (some (5, 10, true)), 8272, [5, 4, 1, 0, 3, 2]⟩,
 ⟨(some 16), .bin .eql (.t 14) (.t 15), (some (5, 10, true)), 8280, [9, 6, 5, 4, 1, 0, 3, 2, 8, 7, 10]⟩,
 ⟨(some 17), .pick (.t 10) (.t 16) (.c (.bool false)), none, 8288, [5, 4, 1, 0, 3, 2, 11, 9, 6, 8, 7, 10]⟩,
 ⟨(some 4), .copy (.t 17), none, 8296, [12, 5, 4, 1, 0, 3, 2, 11, 9, 6, 8, 7, 10]⟩])
 .ret))
theorem vf34 : VF Try.prog 34 = some (18, vc34, [.tmp 4]) := by kernel_rfl
/-- downspout/span.One -/
def vc40 : VCode :=
 (.seq
 (.region 0 false [
 ⟨(some 2), .alloc [(.str []), (.str [])], none, 0, []⟩])
 (.seq
 (.region 1 false [
 ⟨(some 3), .copy (.t 0), none, 8192, []⟩,
 ⟨(some 4), .copy (.t 0), none, 8200, []⟩,
 ⟨(some 5), .bin .add (.t 4) (.c (.str [0])), none, 8208, [1]⟩,
 ⟨(some 6), .build [(.str []), (.str [])] [(0, 1, (.t 3)), (1, 1, (.t 5))], none, 8216, [0, 2, 1]⟩,
 ⟨none, .store 2 (.t 2) (.t 6), none, 8224, [3, 0, 2, 1]⟩])
 .ret))
theorem vf40 : VF Try.prog 40 = some (7, vc40, [.cell true 2 2]) := by kernel_rfl
/-- downspout/span.Prefix -/
def vc41 : VCode :=
 (.seq
 (.region 0 false [
 ⟨(some 2), .alloc [(.str []), (.str [])], none, 0, []⟩])
 (.seq
 (.region 1 false [
 ⟨(some 4), .copy (.t 0), none, 8192, []⟩,
 ⟨(some 5), .s2b (.t 4), none, 8200, [0]⟩,
 ⟨(some 3), .copy (.t 5), none, 8208, [1, 0]⟩])
 (.seq
 (.block 0
 (.loop
 (.seq
 (.seq
 (.region 2 false [
 ⟨(some 6), .copy (.t 3), none, 16384, []⟩,
 ⟨(some 7), .len (.t 6), none, 16392, [0]⟩,
 ⟨(some 8), .bin .gtr (.t 7) (.c (.int .i64 0)), none, 16400, [1, 0]⟩,
 ⟨(some 9), .copy (.t 8), none, 16408, [2, 1, 0]⟩,
 ⟨(some 10), .copy (.t 3), (some (3, 9, true)), 16416, [3, 2, 1, 0]⟩,
 ⟨(some 11), .copy (.t 3), (some (3, 9, true)), 16424, [3, 2, 1, 0]⟩,
 ⟨(some 12), .len (.t 11), (some (3, 9, true)), 16432, [5, 3, 2, 1, 0]⟩,
 ⟨(some 13), .bin .sub (.t 12) (.c (.int .i64 1)), (some (3, 9, true)), 16440, [6, 5, 3, 2, 1, 0]⟩,
 ⟨(some 14), .iaddr 1 (.t 10) (.t 13), (some (3, 9, true)), 16448, [4, 3, 2, 1, 0, 7, 6, 5]⟩,
 ⟨(some 15), .load false 1 (.t 14), (some (3, 9, true)), 16456, [8, 4, 3, 2, 1, 0, 7, 6, 5]⟩,
 ⟨(some 16), .bin .eql (.t 15) (.c (.int .u8 255)), (some (3, 9, true)), 16464, [9, 8, 4, 3, 2, 1, 0, 7, 6, 5]⟩,
 ⟨(some 17), .pick (.t 9) (.t 16) (.c (.bool false)), none, 16472, [3, 2, 1, 0, 10, 9, 8, 4, 7, 6, 5]⟩])
 (.cond (.t 17)
 .skip
 (.exit 0)))
 (.block 1
 (.region 3 false [
 ⟨(some 18), .copy (.t 3), none, 24576, []⟩,
 ⟨(some 19), .copy (.t 3), none, 24584, []⟩,
 ⟨(some 20), .len (.t 19), none, 24592, [1]⟩,
 ⟨(some 21), .bin .sub (.t 20) (.c (.int .i64 1)), none, 24600, [2, 1]⟩,
 ⟨(some 22), .slsl 1 (.t 18) none (some (.t 21)) none, none, 24608, [0, 3, 2, 1]⟩,
 ⟨(some 3), .copy (.t 22), none, 24616, [4, 0, 3, 2, 1]⟩])))))
 (.seq
 (.seq
 (.region 4 false [
 ⟨(some 23), .copy (.t 3), none, 32768, []⟩,
 ⟨(some 24), .len (.t 23), none, 32776, [0]⟩,
 ⟨(some 25), .bin .gtr (.t 24) (.c (.int .i64 0)), none, 32784, [1, 0]⟩])
 (.cond (.t 25)
 (.region 5 false [
 ⟨(some 26), .copy (.t 3), none, 40960, []⟩,
 ⟨(some 27), .copy (.t 3), none, 40968, []⟩,
 ⟨(some 28), .len (.t 27), none, 40976, [1]⟩,
 ⟨(some 29), .bin .sub (.t 28) (.c (.int .i64 1)), none, 40984, [2, 1]⟩,
 ⟨(some 30), .iaddr 1 (.t 26) (.t 29), none, 40992, [0, 3, 2, 1]⟩,
 ⟨(some 31), .load false 1 (.t 30), none, 41000, [4, 0, 3, 2, 1]⟩,
 ⟨(some 32), .bin .add (.t 31) (.c (.int .u8 1)), none, 41008, [5, 4, 0, 3, 2, 1]⟩,
 ⟨(some 33), .iaddr 1 (.t 26) (.t 29), none, 41016, [0, 3, 2, 1, 4, 5, 6]⟩,
 ⟨none, .store 1 (.t 33) (.t 32), none, 41024, [7, 0, 3, 2, 1, 4, 5, 6]⟩])
 .skip))
 (.seq
 (.region 6 false [
 ⟨(some 34), .copy (.t 0), none, 49152, []⟩,
 ⟨(some 35), .copy (.t 3), none, 49160, []⟩,
 ⟨(some 36), .b2s (.t 35), none, 49168, [1]⟩,
 ⟨(some 37), .build [(.str []), (.str [])] [(0, 1, (.t 34)), (1, 1, (.t 36))], none, 49176, [0, 2, 1]⟩,
 ⟨none, .store 2 (.t 2) (.t 37), none, 49184, [3, 0, 2, 1]⟩])
 .ret)))))
theorem vf41 : VF Try.prog 41 = some (38, vc41, [.cell true 2 2]) := by kernel_rfl
/-- downspout/span.Empty -/
def vc45 : VCode :=
 (.seq
 (.region 0 false [
 ⟨(some 1), .box (.t 0), none, 0, []⟩,
 ⟨(some 2), .copy (.c (.bool false)), none, 8, []⟩])
 (.seq
 (.region 1 false [
 ⟨(some 3), .faddr 1 (.t 1), none, 8192, []⟩,
 ⟨(some 4), .load false 1 (.t 3), none, 8200, [0]⟩,
 ⟨(some 5), .bin .neq (.t 4) (.c (.str [])), none, 8208, [1, 0]⟩,
 ⟨(some 6), .copy (.t 5), none, 8216, [2, 1, 0]⟩,
 ⟨(some 7), .faddr 1 (.t 1), (some (3, 6, true)), 8224, [3, 2, 1, 0]⟩,
 ⟨(some 8), .load false 1 (.t 7), (some (3, 6, true)), 8232, [4, 3, 2, 1, 0]⟩,
 ⟨(some 9), .faddr 0 (.t 1), (some (3, 6, true)), 8240, [3, 2, 1, 0]⟩,
 ⟨(some 10), .load false 1 (.t 9), (some (3, 6, true)), 8248, [6, 3, 2, 1, 0]⟩,
 ⟨(some 11), .bin .leq (.t 8) (.t 10), (some (3, 6, true)), 8256, [5, 4, 3, 2, 1, 0, 7, 6]⟩,
 ⟨(some 12), .pick (.t 6) (.t 11) (.c (.bool false)), none, 8264, [3, 2, 1, 0, 8, 5, 4, 7, 6]⟩,
 ⟨(some 2), .copy (.t 12), none, 8272, [9, 3, 2, 1, 0, 8, 5, 4, 7, 6]⟩])
 .ret))
theorem vf45 : VF Try.prog 45 = some (13, vc45, [.tmp 2]) := by kernel_rfl
abbrev encS (s : SpanL) : List PV := [.str s.lo, .str s.hi]
theorem has_vc (s : SpanL) (k : Str) : VC Try.prog 33 [.agg (encS s), .str k] [] (.bool (hasL s k)) [] := by
  refine vc_of vf33 ?_ (Nat.le_of_ble_eq_true rfl) (by intro vs h; cases h)
  repeat' first | refine o_copy ?_ | refine nl ?_ | refine ct_seq ?_ | refine rg ?_ | refine ct_block ?_ | refine bq ?_ | refine ct_skip ?_ | refine ct_exit ?_ | refine rt_next ?_ | refine cndt ?_ | refine cndf ?_ | refine o_copy ?_ | refine o_loads ?_ | refine o_loadp ?_ | refine o_faddr ?_ | refine o_bin ?_ | refine o_box ?_ | refine o_pickt ?_ | refine o_pickf ?_ | refine skF ?_ | refine skU ?_ | refine ct_ret ⟨.inr rfl, ?_⟩ | refine cnd (fun _ => ?_) (fun _ => ?_) | (refine glook (fun _ => ?_) (fun _ => ?_) <;> first | refine o_copy ?_ | refine o_loads ?_ | refine o_loadp ?_ | refine o_faddr ?_ | refine o_bin ?_ | refine o_box ?_ | refine o_pickt ?_ | refine o_pickf ?_ | refine skF ?_ | refine skU ?_)
  all_goals refine oB ?_
  all_goals simp_all [hasL]
theorem empty_vc (s : SpanL) : VC Try.prog 45 [.agg (encS s)] [] (.bool (emptyL s)) [] := by
  refine vc_of vf45 ?_ (Nat.le_of_ble_eq_true rfl) (by intro vs h; cases h)
  repeat' first | refine o_copy ?_ | refine nl ?_ | refine ct_seq ?_ | refine rg ?_ | refine ct_block ?_ | refine bq ?_ | refine ct_skip ?_ | refine ct_exit ?_ | refine rt_next ?_ | refine cndt ?_ | refine cndf ?_ | refine o_copy ?_ | refine o_loads ?_ | refine o_loadp ?_ | refine o_faddr ?_ | refine o_bin ?_ | refine o_box ?_ | refine o_pickt ?_ | refine o_pickf ?_ | refine skF ?_ | refine skU ?_ | refine ct_ret ⟨.inr rfl, ?_⟩ | refine cnd (fun _ => ?_) (fun _ => ?_) | (refine glook (fun _ => ?_) (fun _ => ?_) <;> first | refine o_copy ?_ | refine o_loads ?_ | refine o_loadp ?_ | refine o_faddr ?_ | refine o_bin ?_ | refine o_box ?_ | refine o_pickt ?_ | refine o_pickf ?_ | refine skF ?_ | refine skU ?_)
  all_goals refine oB ?_
  all_goals simp_all [emptyL]
theorem one_vc (k : Str) (hk : k.length ≤ 1000000000) : VC Try.prog 40 [.str k] [] (.agg (encS (oneL k))) [] := by
  refine vc_of vf40 ?_ (Nat.le_of_ble_eq_true rfl) (by intro vs h; cases h)
  repeat' first | refine o_copy ?_ | refine nl ?_ | refine ct_seq ?_ | refine rg ?_ | refine ct_block ?_ | refine bq ?_ | refine ct_skip ?_ | refine ct_exit ?_ | refine rt_next ?_ | refine cndt ?_ | refine cndf ?_ | refine o_copy ?_ | refine o_add ?_ | refine o_cat ?_ | refine o_bin ?_ | refine o_alloc ?_ | refine o_store ?_ | refine o_build ?_ | refine ct_ret ⟨.inr rfl, ?_⟩ | refine cnd (fun _ => ?_) (fun _ => ?_) | (refine glook (fun _ => ?_) (fun _ => ?_) <;> first | refine o_copy ?_ | refine o_add ?_ | refine o_cat ?_ | refine o_bin ?_ | refine o_alloc ?_ | refine o_store ?_ | refine o_build ?_)
  all_goals exact oAny rfl
theorem begins_vc (k p : Str) (hk : k.length ≤ 1000000000) (hp : p.length ≤ 1000000000) : VC Try.prog 34 [.str k, .str p] [] (.bool (beginsL k p)) [] := by
  refine vc_of vf34 ?_ (Nat.le_of_ble_eq_true rfl) (by intro vs h; cases h)
  repeat' first | refine o_copy ?_ | refine nl ?_ | refine ct_seq ?_ | refine rg ?_ | refine ct_block ?_ | refine bq ?_ | refine ct_skip ?_ | refine ct_exit ?_ | refine rt_next ?_ | refine cndt ?_ | refine cndf ?_ | refine o_slstr ?_ | refine o_copy ?_ | refine o_bin ?_ | refine o_pickt ?_ | refine o_pickf ?_ | refine o_lenS ?_ | refine skF ?_ | refine skU ?_ | refine ct_ret ⟨.inr rfl, ?_⟩ | refine cnd (fun _ => ?_) (fun _ => ?_) | (refine glook (fun _ => ?_) (fun _ => ?_) <;> first | refine o_slstr ?_ | refine o_copy ?_ | refine o_bin ?_ | refine o_pickt ?_ | refine o_pickf ?_ | refine o_lenS ?_ | refine skF ?_ | refine skU ?_)
  all_goals refine oB ?_
  all_goals simp_all [beginsL]
  all_goals omega
theorem set_take {p : Str} {n : Nat} {c : UInt8} (h : n < p.length) : (p.set n c).take (n + 1) = p.take n ++ [c] := by
  rw [List.take_add_one, List.take_set, List.set_eq_of_length_le (by simp; omega)]
  simp [h]
set_option maxHeartbeats 1000000 in
theorem prefix_vc (p : Str) (hp : p.length ≤ 1000000000) : VC Try.prog 41 [.str p] [] (.agg (encS (prefixL p))) [] := by
  refine vc_of vf41 ?_ (Nat.le_of_ble_eq_true rfl) (by intro vs h; cases h)
  repeat first | refine o_copy ?_ | refine nl ?_ | refine ct_seq ?_ | refine rg ?_ | refine ct_block ?_ | refine bq ?_ | refine o_loads ?_ | refine o_loadp ?_ | refine o_iaddr ?_ | refine o_iaddrO ?_ | refine o_iaddrR ?_ | refine o_b2sR ?_ | refine o_add ?_ | refine o_sub ?_ | refine o_cat ?_ | refine o_bin ?_ | refine o_lenq ?_ | refine o_len ?_ | refine o_alloc ?_ | refine o_s2b ?_ | refine o_store ?_ | refine o_pickt ?_ | refine o_pickf ?_ | refine o_build ?_ | refine skF ?_ | refine skU ?_
  refine ct_loopG (fun (g : Nat) => [(0, .str p), (2, .ptr ⟨1, 0⟩ 1 0 0), (3, .own ⟨1, 8200⟩ (p.map encB).length 0 g)])
    (fun g => [(⟨1, 0⟩, ⟨true, false, 2, [[.str [], .str []]]⟩), (⟨1, 8200⟩, blkV 1 (p.map encB))]) (fun g => g)
    (fun g => g ≤ p.length ∧ stripN p g = stripN p p.length) p.length (goes (h1 := by refine ⟨rfl, rfl, ?_, trivial⟩; simp; rfl)) ⟨Nat.le_refl _, rfl⟩ ?_
  rintro n ⟨hn, hs⟩
  (try dsimp only)
  have hel : (p.map encB).length = p.length := List.length_map ..
  repeat first | refine o_copy ?_ | refine nl ?_ | refine ct_seq ?_ | refine rg ?_ | refine ct_block ?_ | refine bq ?_ | refine o_loads ?_ | refine o_loadp ?_ | refine o_iaddr ?_ | refine o_iaddrO ?_ | refine o_iaddrR ?_ | refine o_b2sR ?_ | refine o_add ?_ | refine o_sub ?_ | refine o_cat ?_ | refine o_bin ?_ | refine o_lenq ?_ | refine o_len ?_ | refine o_alloc ?_ | refine o_s2b ?_ | refine o_store ?_ | refine o_pickt ?_ | refine o_pickf ?_ | refine o_build ?_ | refine skF ?_ | refine skU ?_
  refine glook (fun hg => ?_) (fun hg => ?_)
  · have hpos : 0 < n := by have := of_decide_eq_true hg; omega
    obtain ⟨m, rfl⟩ : ∃ m, n = m + 1 := ⟨n - 1, by omega⟩
    obtain ⟨c, hc⟩ : ∃ c, p[m]? = some c := ⟨_, List.getElem?_eq_getElem (by omega)⟩
    have hce : (blkV 1 (p.map encB)).els[0 + (((m + 1 : Nat) : Int) - 1).toNat]? = some (encB c) := by
      rw [show 0 + (((m + 1 : Nat) : Int) - 1).toNat = m by omega]
      show (p.map encB)[m]? = _
      rw [List.getElem?_map, hc]; rfl
    repeat first | refine o_copy ?_ | refine nl ?_ | refine ct_seq ?_ | refine rg ?_ | refine ct_block ?_ | refine bq ?_ | refine o_iaddrG ?_ | refine o_loads ?_ | refine o_loadp ?_ | refine o_iaddr ?_ | refine o_iaddrO ?_ | refine o_iaddrR ?_ | refine o_b2sR ?_ | refine o_add ?_ | refine o_sub ?_ | refine o_cat ?_ | refine o_bin ?_ | refine o_lenq ?_ | refine o_len ?_ | refine o_alloc ?_ | refine o_s2b ?_ | refine o_store ?_ | refine o_pickt ?_ | refine o_pickf ?_ | refine o_build ?_ | refine skF ?_ | refine skU ?_
    refine cnd (fun h => ct_skip ?_) (fun h => ct_exit ?_)
    · have hc255 : p[m]? = some 255 := by
        rw [hc]; congr 1
        have : (c.toNat : Int) = 255 := by simpa using h
        exact UInt8.toNat_inj.1 (by show c.toNat = 255; omega)
      repeat first | refine o_copy ?_ | refine nl ?_ | refine ct_seq ?_ | refine rg ?_ | refine ct_block ?_ | refine bq ?_ | refine o_slslO ?_ | refine o_loads ?_ | refine o_loadp ?_ | refine o_iaddr ?_ | refine o_iaddrO ?_ | refine o_iaddrR ?_ | refine o_b2sR ?_ | refine o_add ?_ | refine o_sub ?_ | refine o_cat ?_ | refine o_bin ?_ | refine o_lenq ?_ | refine o_len ?_ | refine o_alloc ?_ | refine o_s2b ?_ | refine o_store ?_ | refine o_pickt ?_ | refine o_pickf ?_ | refine o_build ?_ | refine skF ?_ | refine skU ?_
      refine agn m ⟨by omega, ?_⟩ (goes (h1 := by refine ⟨rfl, rfl, congrArg (fun x => some (PV.own ⟨1, 8200⟩ (p.map encB).length 0 x)) (?_ : (((m + 1 : Nat) : Int) - 1).toNat - Int.toNat 0 = m), trivial⟩; omega))
      rw [← hs, stripN, if_pos hc255]
    · have hne : ¬ p[m]? = some 255 := by
        rw [hc]
        intro e
        cases e
        exact absurd h (by decide)
      have hst : stripN p (m + 1) = m + 1 := by rw [stripN, if_neg hne]
      repeat first | refine o_copy ?_ | refine nl ?_ | refine ct_seq ?_ | refine rg ?_ | refine ct_block ?_ | refine bq ?_ | refine o_loads ?_ | refine o_loadp ?_ | refine o_iaddr ?_ | refine o_iaddrO ?_ | refine o_iaddrR ?_ | refine o_b2sR ?_ | refine o_add ?_ | refine o_sub ?_ | refine o_cat ?_ | refine o_bin ?_ | refine o_lenq ?_ | refine o_len ?_ | refine o_alloc ?_ | refine o_s2b ?_ | refine o_store ?_ | refine o_pickt ?_ | refine o_pickf ?_ | refine o_build ?_ | refine skF ?_ | refine skU ?_
      refine cndt ?_ rfl (decide_eq_true (by omega))
      have hw := wrap_u8_add c
      have hset := set_take (p := p) (n := m) (c := c + 1) (by omega)
      have hmm : 0 + (((m + 1 : Nat) : Int) - 1).toNat = m := by omega
      have hb2 : (((p.set (0 + (((m + 1 : Nat) : Int) - 1).toNat) (c + 1)).map encB).drop 0).take (m + 1) = (p.take m ++ [c + 1]).map encB := by rw [hmm, List.drop_zero, ← List.map_take, hset]
      repeat first | refine o_copy ?_ | refine nl ?_ | refine ct_seq ?_ | refine rg ?_ | refine ct_block ?_ | refine bq ?_ | refine o_iaddrG ?_ | refine o_addE ?_ | refine o_v (vst encB (c + 1)) ?_ | refine o_b2sO hb2 ?_ | refine o_loads ?_ | refine o_loadp ?_ | refine o_iaddr ?_ | refine o_iaddrO ?_ | refine o_iaddrR ?_ | refine o_b2sR ?_ | refine o_add ?_ | refine o_sub ?_ | refine o_cat ?_ | refine o_bin ?_ | refine o_lenq ?_ | refine o_len ?_ | refine o_alloc ?_ | refine o_s2b ?_ | refine o_store ?_ | refine o_pickt ?_ | refine o_pickf ?_ | refine o_build ?_ | refine skF ?_ | refine skU ?_
      refine ct_ret ⟨.inr rfl, oC ?_⟩
      have : upL p = p.take m ++ [c + 1] := by
        unfold upL
        rw [← hs, hst]
        simp [List.getD, hc]
      rw [show prefixL p = ⟨p, upL p⟩ from rfl, this]
      rfl
  · have h0 : n = 0 := by have := of_decide_eq_false hg; omega
    subst h0
    repeat first | refine o_copy ?_ | refine nl ?_ | refine ct_seq ?_ | refine rg ?_ | refine ct_block ?_ | refine bq ?_ | refine o_loads ?_ | refine o_loadp ?_ | refine o_iaddr ?_ | refine o_iaddrO ?_ | refine o_iaddrR ?_ | refine o_b2sR ?_ | refine o_add ?_ | refine o_sub ?_ | refine o_cat ?_ | refine o_bin ?_ | refine o_lenq ?_ | refine o_len ?_ | refine o_alloc ?_ | refine o_s2b ?_ | refine o_store ?_ | refine o_pickt ?_ | refine o_pickf ?_ | refine o_build ?_ | refine skF ?_ | refine skU ?_
    refine cndf (ct_exit ?_)
    repeat first | refine o_copy ?_ | refine nl ?_ | refine ct_seq ?_ | refine rg ?_ | refine ct_block ?_ | refine bq ?_ | refine o_loads ?_ | refine o_loadp ?_ | refine o_iaddr ?_ | refine o_iaddrO ?_ | refine o_iaddrR ?_ | refine o_b2sR ?_ | refine o_add ?_ | refine o_sub ?_ | refine o_cat ?_ | refine o_bin ?_ | refine o_lenq ?_ | refine o_len ?_ | refine o_alloc ?_ | refine o_s2b ?_ | refine o_store ?_ | refine o_pickt ?_ | refine o_pickf ?_ | refine o_build ?_ | refine skF ?_ | refine skU ?_
    refine cndf (ct_skip ?_) rfl (by simp)
    have hb2 : (((p.map encB).drop 0).take 0) = ([] : Str).map encB := rfl
    repeat first | refine o_copy ?_ | refine nl ?_ | refine ct_seq ?_ | refine rg ?_ | refine ct_block ?_ | refine bq ?_ | refine o_b2sO hb2 ?_ | refine o_loads ?_ | refine o_loadp ?_ | refine o_iaddr ?_ | refine o_iaddrO ?_ | refine o_iaddrR ?_ | refine o_b2sR ?_ | refine o_add ?_ | refine o_sub ?_ | refine o_cat ?_ | refine o_bin ?_ | refine o_lenq ?_ | refine o_len ?_ | refine o_alloc ?_ | refine o_s2b ?_ | refine o_store ?_ | refine o_pickt ?_ | refine o_pickf ?_ | refine o_build ?_ | refine skF ?_ | refine skU ?_
    refine ct_ret ⟨.inr rfl, oC ?_⟩
    have : upL p = [] := by
      unfold upL
      rw [← hs]
      rfl
    rw [show prefixL p = ⟨p, upL p⟩ from rfl, this]
    rfl
end Go.Proofs
open Go.V Go.Pu
set_option linter.unusedVariables false
set_option linter.unusedSimpArgs false
set_option maxRecDepth 20000
namespace Go.Proofs
/-- internal/bytealg.CompareString -/
def vc49 : VCode :=
 (.seq
 (.region 0 false [
 ⟨(some 4), .copy (.c (.int .i64 0)), none, 0, []⟩])
 (.seq
 (.region 1 false [
 ⟨(some 5), .copy (.t 0), none, 8192, []⟩,
 ⟨(some 6), .copy (.t 1), none, 8200, []⟩,
 ⟨(some 7), .call (.c (.fn 51 [])) [(.t 5), (.t 6)], none, 8208, [0, 1]⟩,
 ⟨(some 4), .copy (.t 7), none, 8216, [2, 0, 1]⟩])
 .ret))
theorem vf49 : VF Try.prog 49 = some (8, vc49, [.tmp 4]) := by kernel_rfl
/-- strings.Compare -/
def vc44 : VCode :=
 (.seq
 (.region 0 false [
 ⟨(some 4), .copy (.c (.int .i64 0)), none, 0, []⟩])
 (.seq
 (.region 1 false [
 ⟨(some 5), .copy (.t 0), none, 8192, []⟩,
 ⟨(some 6), .copy (.t 1), none, 8200, []⟩,
 ⟨(some 7), .call (.c (.fn 49 [])) [(.t 5), (.t 6)], none, 8208, [0, 1]⟩,
 ⟨(some 4), .copy (.t 7), none, 8216, [2, 0, 1]⟩])
 .ret))
theorem vf44 : VF Try.prog 44 = some (8, vc44, [.tmp 4]) := by kernel_rfl
/-- downspout/table.place$1 -/
def vc43 : VCode :=
 (.seq
 (.region 0 false [
 ⟨(some 2), .box (.t 0), none, 0, []⟩,
 ⟨(some 4), .copy (.c (.int .i64 0)), none, 8, []⟩])
 (.seq
 (.region 1 false [
 ⟨(some 5), .faddr 0 (.t 2), none, 8192, []⟩,
 ⟨(some 6), .load false 1 (.t 5), none, 8200, [0]⟩,
 ⟨(some 7), .copy (.t 1), none, 8208, []⟩,
 ⟨(some 8), .call (.c (.fn 44 [])) [(.t 6), (.t 7)], none, 8216, [1, 0, 2]⟩,
 ⟨(some 4), .copy (.t 8), none, 8224, [3, 1, 0, 2]⟩])
 .ret))
theorem vf43 : VF Try.prog 43 = some (9, vc43, [.tmp 4]) := by kernel_rfl
/-- slices.BinarySearchFunc[[]downspout/api.Pair,downspout/api.Pair,string] -/
def vc42 : VCode :=
 (.seq
 (.region 0 false [
 ⟨(some 6), .copy (.c (.int .i64 0)), none, 0, []⟩,
 ⟨(some 7), .copy (.c (.bool false)), none, 8, [0]⟩])
 (.seq
 (.region 1 false [
 ⟨(some 12), .copy (.t 0), none, 8192, []⟩,
 ⟨(some 13), .len (.t 12), none, 8200, [0]⟩,
 ⟨(some 8), .copy (.t 13), none, 8208, [1, 0]⟩])
 (.seq
 (.region 2 false [
 ⟨(some 14), .copy (.t 8), none, 16384, []⟩,
 ⟨(some 9), .copy (.c (.int .i64 0)), none, 16392, []⟩,
 ⟨(some 10), .copy (.t 14), none, 16400, [0, 1]⟩])
 (.seq
 (.block 0
 (.loop
 (.seq
 (.seq
 (.region 3 false [
 ⟨(some 15), .copy (.t 9), none, 24576, []⟩,
 ⟨(some 16), .copy (.t 10), none, 24584, []⟩,
 ⟨(some 17), .bin .lss (.t 15) (.t 16), none, 24592, [0, 1]⟩])
 (.cond (.t 17)
 .skip
 (.exit 0)))
 (.block 1
 (.seq
 (.region 4 false [
 ⟨(some 18), .copy (.t 9), none, 32768, []⟩,
 ⟨(some 19), .copy (.t 10), none, 32776, []⟩,
 ⟨(some 20), .bin .add (.t 18) (.t 19), none, 32784, [0, 1]⟩,
 ⟨(some 21), .conv .u64 (.t 20), none, 32792, [2, 0, 1]⟩,
 ⟨(some 22), .bin .shr (.t 21) (.c (.int .u64 1)), none, 32800, [3, 2, 0, 1]⟩,
 ⟨(some 23), .conv .i64 (.t 22), none, 32808, [4, 3, 2, 0, 1]⟩,
 ⟨(some 11), .copy (.t 23), none, 32816, [5, 4, 3, 2, 0, 1]⟩])
 (.seq
 (.region 5 false [
 ⟨(some 24), .copy (.t 2), none, 40960, []⟩,
 ⟨(some 25), .copy (.t 0), none, 40968, []⟩,
 ⟨(some 26), .copy (.t 11), none, 40976, []⟩,
 ⟨(some 27), .iaddr 3 (.t 25) (.t 26), none, 40984, [1, 2]⟩,
 ⟨(some 28), .load true 3 (.t 27), none, 40992, [3, 1, 2]⟩,
 ⟨(some 29), .copy (.t 1), none, 41000, []⟩,
 ⟨(some 30), .call (.t 24) [(.t 28), (.t 29)], none, 41008, [0, 4, 3, 1, 2, 5]⟩,
 ⟨(some 31), .bin .lss (.t 30) (.c (.int .i64 0)), none, 41016, [6, 0, 4, 3, 1, 2, 5]⟩])
 (.cond (.t 31)
 (.region 6 false [
 ⟨(some 32), .copy (.t 11), none, 49152, []⟩,
 ⟨(some 33), .bin .add (.t 32) (.c (.int .i64 1)), none, 49160, [0]⟩,
 ⟨(some 9), .copy (.t 33), none, 49168, [1, 0]⟩])
 (.region 7 false [
 ⟨(some 34), .copy (.t 11), none, 57344, []⟩,
 ⟨(some 10), .copy (.t 34), none, 57352, [0]⟩]))))))))
 (.seq
 (.region 8 false [
 ⟨(some 35), .copy (.t 9), none, 65536, []⟩,
 ⟨(some 36), .copy (.t 9), none, 65544, []⟩,
 ⟨(some 37), .copy (.t 8), none, 65552, []⟩,
 ⟨(some 38), .bin .lss (.t 36) (.t 37), none, 65560, [1, 2]⟩,
 ⟨(some 39), .copy (.t 38), none, 65568, [3, 1, 2]⟩,
 ⟨(some 40), .copy (.t 2), (some (4, 39, true)), 65576, [4, 3, 1, 2]⟩,
 ⟨(some 41), .copy (.t 0), (some (4, 39, true)), 65584, [4, 3, 1, 2]⟩,
 ⟨(some 42), .copy (.t 9), (some (4, 39, true)), 65592, [4, 3, 1, 2]⟩,
 ⟨(some 43), .iaddr 3 (.t 41) (.t 42), (some (4, 39, true)), 65600, [6, 4, 3, 1, 2, 7]⟩,
 ⟨(some 44), .load true 3 (.t 43), (some (4, 39, true)), 65608, [8, 6, 4, 3, 1, 2, 7]⟩,
 ⟨(some 45), .copy (.t 1), (some (4, 39, true)), 65616, [4, 3, 1, 2]⟩,
 ⟨(some 46), .call (.t 40) [(.t 44), (.t 45)], (some (4, 39, true)), 65624, [5, 4, 3, 1, 2, 9, 8, 6, 7, 10]⟩,
 ⟨(some 47), .bin .eql (.t 46) (.c (.int .i64 0)), (some (4, 39, true)), 65632, [11, 5, 4, 3, 1, 2, 9, 8, 6, 7, 10]⟩,
 ⟨(some 48), .pick (.t 39) (.t 47) (.c (.bool false)), none, 65640, [4, 3, 1, 2, 12, 11, 5, 9, 8, 6, 7, 10]⟩,
 ⟨(some 6), .copy (.t 35), none, 65648, [0, 11, 5, 4, 3, 1, 2, 9, 8, 6, 7, 10]⟩,
 ⟨(some 7), .copy (.t 48), none, 65656, [13, 4, 3, 1, 2, 12, 11, 5, 9, 8, 6, 7, 10, 14, 0]⟩])
 .ret)))))
theorem vf42 : VF Try.prog 42 = some (49, vc42, [.tmp 6, .tmp 7]) := by kernel_rfl
/-- downspout/table.place -/
def vc35 : VCode :=
 (.seq
 (.region 0 false [
 ⟨(some 4), .copy (.c (.int .i64 0)), none, 0, []⟩,
 ⟨(some 5), .copy (.c (.bool false)), none, 8, [0]⟩])
 (.seq
 (.region 1 false [
 ⟨(some 6), .copy (.t 0), none, 8192, []⟩,
 ⟨(some 7), .copy (.t 1), none, 8200, []⟩,
 ⟨(some 8), .call (.c (.fn 42 [])) [(.t 6), (.t 7), (.c (.fn 43 []))], none, 8208, [0, 1]⟩,
 ⟨(some 9), .extract (.t 8) 0, none, 8216, [2, 0, 1]⟩,
 ⟨(some 10), .extract (.t 8) 1, none, 8224, [2, 0, 1]⟩,
 ⟨(some 4), .copy (.t 9), none, 8232, [3, 2, 0, 1, 4]⟩,
 ⟨(some 5), .copy (.t 10), none, 8240, [4, 2, 0, 1, 5, 3]⟩])
 .ret))
theorem vf35 : VF Try.prog 35 = some (11, vc35, [.tmp 4, .tmp 5]) := by kernel_rfl
/-- downspout/table.bounds -/
def vc36 : VCode :=
 (.seq
 (.region 0 false [
 ⟨(some 3), .box (.t 1), none, 0, []⟩,
 ⟨(some 4), .copy (.c (.int .i64 0)), none, 8, []⟩,
 ⟨(some 5), .copy (.c (.int .i64 0)), none, 16, [1]⟩])
 (.seq
 (.seq
 (.region 1 false [
 ⟨(some 9), .load true 2 (.t 3), none, 8192, []⟩,
 ⟨(some 10), .call (.c (.fn 45 [])) [(.t 9)], none, 8200, [0]⟩])
 (.cond (.t 10)
 (.seq
 (.region 2 false [
 ⟨(some 4), .copy (.c (.int .i64 0)), none, 16384, []⟩,
 ⟨(some 5), .copy (.c (.int .i64 0)), none, 16392, [0]⟩])
 .ret)
 .skip))
 (.seq
 (.region 3 false [
 ⟨(some 12), .copy (.t 0), none, 24576, []⟩,
 ⟨(some 13), .faddr 0 (.t 3), none, 24584, []⟩,
 ⟨(some 14), .load false 1 (.t 13), none, 24592, [1]⟩,
 ⟨(some 15), .call (.c (.fn 35 [])) [(.t 12), (.t 14)], none, 24600, [0, 2, 1]⟩,
 ⟨(some 11), .copy (.t 15), none, 24608, [3, 0, 2, 1]⟩,
 ⟨(some 16), .extract (.t 11) 0, none, 24616, [4, 3, 0, 2, 1]⟩,
 ⟨(some 17), .extract (.t 11) 1, none, 24624, [4, 3, 0, 2, 1]⟩,
 ⟨(some 6), .copy (.t 16), none, 24632, [5, 4, 3, 0, 2, 1]⟩,
 ⟨(some 7), .copy (.t 17), none, 24640, [6, 4, 3, 0, 2, 1, 7, 5]⟩])
 (.seq
 (.region 4 false [
 ⟨(some 18), .copy (.t 0), none, 32768, []⟩,
 ⟨(some 19), .len (.t 18), none, 32776, [0]⟩,
 ⟨(some 8), .copy (.t 19), none, 32784, [1, 0]⟩])
 (.seq
 (.seq
 (.region 5 false [
 ⟨(some 20), .faddr 1 (.t 3), none, 40960, []⟩,
 ⟨(some 21), .load false 1 (.t 20), none, 40968, [0]⟩,
 ⟨(some 22), .bin .neq (.t 21) (.c (.str [])), none, 40976, [1, 0]⟩])
 (.cond (.t 22)
 (.region 6 false [
 ⟨(some 24), .copy (.t 0), none, 49152, []⟩,
 ⟨(some 25), .faddr 1 (.t 3), none, 49160, []⟩,
 ⟨(some 26), .load false 1 (.t 25), none, 49168, [1]⟩,
 ⟨(some 27), .call (.c (.fn 35 [])) [(.t 24), (.t 26)], none, 49176, [0, 2, 1]⟩,
 ⟨(some 23), .copy (.t 27), none, 49184, [3, 0, 2, 1]⟩,
 ⟨(some 28), .extract (.t 23) 0, none, 49192, [4, 3, 0, 2, 1]⟩,
 ⟨(some 29), .extract (.t 23) 1, none, 49200, [4, 3, 0, 2, 1]⟩,
 ⟨(some 8), .copy (.t 28), none, 49208, [5, 4, 3, 0, 2, 1]⟩])
 .skip))
 (.seq
 (.region 7 false [
 ⟨(some 30), .copy (.t 6), none, 57344, []⟩,
 ⟨(some 31), .copy (.t 8), none, 57352, []⟩,
 ⟨(some 4), .copy (.t 30), none, 57360, [0]⟩,
 ⟨(some 5), .copy (.t 31), none, 57368, [1, 2, 0]⟩])
 .ret))))))
theorem vf36 : VF Try.prog 36 = some (32, vc36, [.tmp 4, .tmp 5]) := by kernel_rfl
/-- downspout/table.Range -/
def vc18 : VCode :=
 (.seq
 (.region 0 false [
 ⟨(some 3), .box (.t 1), none, 0, []⟩,
 ⟨(some 4), .copy (.c .nils), none, 8, []⟩])
 (.seq
 (.region 1 false [
 ⟨(some 8), .copy (.t 0), none, 8192, []⟩,
 ⟨(some 9), .load true 2 (.t 3), none, 8200, []⟩,
 ⟨(some 10), .call (.c (.fn 36 [])) [(.t 8), (.t 9)], none, 8208, [0, 1]⟩,
 ⟨(some 7), .copy (.t 10), none, 8216, [2, 0, 1]⟩,
 ⟨(some 11), .extract (.t 7) 0, none, 8224, [3, 2, 0, 1]⟩,
 ⟨(some 12), .extract (.t 7) 1, none, 8232, [3, 2, 0, 1]⟩,
 ⟨(some 5), .copy (.t 11), none, 8240, [4, 3, 2, 0, 1]⟩,
 ⟨(some 6), .copy (.t 12), none, 8248, [5, 3, 2, 0, 1, 6, 4]⟩])
 (.seq
 (.region 2 false [
 ⟨(some 13), .copy (.t 0), none, 16384, []⟩,
 ⟨(some 14), .copy (.t 5), none, 16392, []⟩,
 ⟨(some 15), .copy (.t 6), none, 16400, []⟩,
 ⟨(some 16), .copy (.t 6), none, 16408, []⟩,
 ⟨(some 17), .slsl 3 (.t 13) (some (.t 14)) (some (.t 15)) (some (.t 16)), none, 16416, [0, 1, 2, 3]⟩,
 ⟨(some 4), .copy (.t 17), none, 16424, [4, 0, 1, 2, 3]⟩])
 .ret)))
theorem vf18 : VF Try.prog 18 = some (18, vc18, [.tmp 4]) := by kernel_rfl
/-! Places and spans of tables -/
theorem cmpb_eq : ∀ (a b : Str), Lib.compareBytes a b = cmpStr a b
  | [], [] => rfl
  | [], _ :: _ => rfl
  | _ :: _, [] => rfl
  | x :: a, y :: b => by
    rw [Lib.compareBytes, cmpb_eq a b]
    unfold cmpStr
    by_cases h : x < y
    · rw [if_pos h, if_pos (blt_cons.2 (.inl h))]
    · rw [if_neg h]
      by_cases h2 : y < x
      · have h3 : ¬ Op.bytesLess (x :: a) (y :: b) = true := by
          rw [blt_cons]
          rintro (h4 | ⟨rfl, _⟩)
          · exact h h4
          · exact UInt8.lt_irrefl _ h2
        have h4 : ¬ (x :: a = y :: b) := by
          intro e
          cases e
          exact UInt8.lt_irrefl _ h2
        rw [if_pos h2, if_neg h3, if_neg h4]
      · have e : x = y := UInt8.le_antisymm (UInt8.not_lt.1 h2) (UInt8.not_lt.1 h)
        subst e
        rw [if_neg h2]
        have h3 : Op.bytesLess (x :: a) (x :: b) = true ↔ Op.bytesLess a b = true := by
          rw [blt_cons]
          constructor
          · rintro (h4 | ⟨_, h4⟩)
            · exact absurd h4 (UInt8.lt_irrefl _)
            · exact h4
          · intro h4; exact .inr ⟨rfl, h4⟩
        by_cases h4 : Op.bytesLess a b = true
        · rw [if_pos h4, if_pos (h3.2 h4)]
        · rw [if_neg h4, if_neg (fun h5 => h4 (h3.1 h5))]
          simp
theorem ccmp_vc (a b : Str) : VC Try.prog 49 [.str a, .str b] [] (.int .i64 (cmpStr a b)) [] := by
  refine vc_of vf49 ?_ (Nat.le_of_ble_eq_true rfl) (by intro vs h; cases h)
  have hx := fun hf' => @xc_cmp Try.prog 51 Try.f51 Try.func51 (by kernel_rfl) (by kernel_rfl) (by kernel_rfl) (by kernel_rfl) hf' a b
  repeat first | refine o_copy ?_ | refine nl ?_ | refine ct_seq ?_ | refine rg ?_ | refine ct_block ?_ | refine bq ?_ | refine cxt (hx _) ?_ | 
  exact ct_ret ⟨.inr rfl, oI (cmpb_eq a b)⟩
theorem scmp_vc (a b : Str) : VC Try.prog 44 [.str a, .str b] [] (.int .i64 (cmpStr a b)) [] := by
  refine vc_of vf44 ?_ (Nat.le_of_ble_eq_true rfl) (by intro vs h; cases h)
  repeat first | refine o_copy ?_ | refine nl ?_ | refine ct_seq ?_ | refine rg ?_ | refine ct_block ?_ | refine bq ?_ | refine cv0 (ccmp_vc a b) ?_ | 
  exact ct_ret ⟨.inr rfl, oI rfl⟩
theorem pcmp_vc (p : PairL) (k : Str) : VC Try.prog 43 [.agg (encP p), .str k] [] (.int .i64 (cmpStr p.key k)) [] := by
  refine vc_of vf43 ?_ (Nat.le_of_ble_eq_true rfl) (by intro vs h; cases h)
  repeat first | refine o_copy ?_ | refine nl ?_ | refine ct_seq ?_ | refine rg ?_ | refine ct_block ?_ | refine bq ?_ | refine cv0 (scmp_vc p.key k) ?_ | refine o_loads ?_ | refine o_loadp ?_ | refine o_faddr ?_ | refine o_box ?_
  exact ct_ret ⟨.inr rfl, oI rfl⟩
theorem half {n : Nat} : bin .shr (.int .u64 (n : Nat)) (.int .u64 1) = some (.int .u64 ((n / 2 : Nat) : Int)) := by
  show (if (1 : Int) < 0 then none else some (PV.int .u64 ((n : Int).fdiv (2 ^ (Int.toNat 1))))) = _
  rw [if_neg (by decide), Int.fdiv_eq_ediv_of_nonneg _ (by decide)]
  rfl
theorem noTup2 {a b : PV} (ha : ∀ q, a ≠ .tup q) (hb : ∀ q, b ≠ .tup q) : ∀ vs, PV.tup [a, b] = .tup vs → ∀ p ∈ vs, ∀ q, p ≠ .tup q := by
  intro vs h p hp q
  cases h
  rcases List.mem_cons.1 hp with rfl | hp
  · exact ha q
  · rw [List.mem_singleton.1 hp]; exact hb q
set_option maxHeartbeats 1000000 in
theorem bs_vc {q : PV} {t : List PairL} (k : Str) (hs : Srt t) (hq : Sl q (t.map encP)) (hl : t.length ≤ 1000000) : VC Try.prog 42 [q, .str k, .fn 43 []] [] (.tup [.int .i64 (lbN t k), .bool (findP t k).isSome]) [] := by
  refine vc_of vf42 ?_ (Nat.le_of_ble_eq_true rfl) (noTup2 (by intro q h; cases h) (by intro q h; cases h))
  have hle := lb_le k t
  have hget := fun m p => lb_get hs k (m := m) (p := p)
  have hfd := lb_found hs k
  have hml : (t.map encP).length = t.length := List.length_map ..
  generalize lbN t k = lb at *
  generalize (findP t k).isSome = fd at *
  repeat first | refine o_copy ?_ | refine nl ?_ | refine ct_seq ?_ | refine rg ?_ | refine ct_block ?_ | refine bq ?_ | refine o_iaddr ?_ | refine o_iaddrO ?_ | refine o_iaddrR ?_ | refine o_add ?_ | refine o_cat ?_ | refine o_bin ?_ | refine o_lenq ?_ | refine o_len ?_ | refine o_loadsA ?_ | refine o_loadpA ?_ | refine o_pickt ?_ | refine o_pickf ?_ | refine skF ?_ | refine skU ?_
  refine ct_loopG (fun (g : Nat × Nat) => [(0, q), (1, .str k), (2, .fn 43 []), (8, .int .i64 (t.map encP).length), (9, .int .i64 g.1), (10, .int .i64 g.2)])
    (fun g => []) (fun g => g.2 - g.1) (fun g => g.1 ≤ lb ∧ lb ≤ g.2 ∧ g.2 ≤ t.length) (0, t.length) (goes (h1 := by refine ⟨rfl, rfl, rfl, rfl, rfl, ?_, trivial⟩; exact congrArg (fun n : Nat => some (PV.int .i64 n)) hml)) ⟨Nat.zero_le _, hle, Nat.le_refl _⟩ ?_
  rintro ⟨i, j⟩ ⟨h1, h2, h3⟩
  dsimp only at h1 h2 h3 ⊢
  repeat first | refine o_copy ?_ | refine nl ?_ | refine ct_seq ?_ | refine rg ?_ | refine ct_block ?_ | refine bq ?_ | refine o_iaddr ?_ | refine o_iaddrO ?_ | refine o_iaddrR ?_ | refine o_add ?_ | refine o_cat ?_ | refine o_bin ?_ | refine o_lenq ?_ | refine o_len ?_ | refine o_loadsA ?_ | refine o_loadpA ?_ | refine o_pickt ?_ | refine o_pickf ?_ | refine skF ?_ | refine skU ?_
  refine cnd (fun h => ct_skip ?_) (fun h => ct_exit ?_)
  · have hlt : i < j := by have h' := of_decide_eq_true h; omega
    have c1 : IntKind.u64.wrap ((i : Int) + (j : Int)) = ((i + j : Nat) : Int) := by unfold IntKind.wrap; simp [IntKind.bits, IntKind.signed]; omega
    have c2 : IntKind.i64.wrap (((i + j) / 2 : Nat) : Int) = (((i + j) / 2 : Nat) : Int) := wrap64 (by omega) (by omega)
    obtain ⟨p, hp⟩ : ∃ x, t[(i + j) / 2]? = some x := ⟨_, List.getElem?_eq_getElem (by omega)⟩
    have hpe := gm (enc := encP) (n := (((i + j) / 2 : Nat) : Int)) hp (by omega)
    have hgp := hget _ _ hp
    repeat first | refine o_copy ?_ | refine nl ?_ | refine ct_seq ?_ | refine rg ?_ | refine ct_block ?_ | refine bq ?_ | refine o_convE ?_ | refine o_binE half ?_ | refine cv0 (pcmp_vc p k) ?_ | refine o_iaddr ?_ | refine o_iaddrO ?_ | refine o_iaddrR ?_ | refine o_add ?_ | refine o_cat ?_ | refine o_bin ?_ | refine o_lenq ?_ | refine o_len ?_ | refine o_loadsA ?_ | refine o_loadpA ?_ | refine o_pickt ?_ | refine o_pickf ?_ | refine skF ?_ | refine skU ?_
    refine cnd (fun h4 => ?_) (fun h4 => ?_)
    · have h5 := hgp.1 (cmpStr_lt.1 (of_decide_eq_true h4))
      repeat first | refine o_copy ?_ | refine nl ?_ | refine ct_seq ?_ | refine rg ?_ | refine ct_block ?_ | refine bq ?_ | refine o_iaddr ?_ | refine o_iaddrO ?_ | refine o_iaddrR ?_ | refine o_add ?_ | refine o_cat ?_ | refine o_bin ?_ | refine o_lenq ?_ | refine o_len ?_ | refine o_loadsA ?_ | refine o_loadpA ?_ | refine o_pickt ?_ | refine o_pickf ?_ | refine skF ?_ | refine skU ?_
      exact agn ((i + j) / 2 + 1, j) ⟨by simp only; omega, by simp only; omega, by simp only; omega⟩ goes
    · have h5 : ¬ (i + j) / 2 < lb := fun h5 => (of_decide_eq_false h4) (cmpStr_lt.2 (hgp.2 h5))
      repeat first | refine o_copy ?_ | refine nl ?_ | refine ct_seq ?_ | refine rg ?_ | refine ct_block ?_ | refine bq ?_ | refine o_iaddr ?_ | refine o_iaddrO ?_ | refine o_iaddrR ?_ | refine o_add ?_ | refine o_cat ?_ | refine o_bin ?_ | refine o_lenq ?_ | refine o_len ?_ | refine o_loadsA ?_ | refine o_loadpA ?_ | refine o_pickt ?_ | refine o_pickf ?_ | refine skF ?_ | refine skU ?_
      exact agn (i, (i + j) / 2) ⟨by simp only; omega, by simp only; omega, by simp only; omega⟩ goes
  · have h' := of_decide_eq_false h
    have e : i = lb := by omega
    subst e
    repeat first | refine o_copy ?_ | refine nl ?_ | refine ct_seq ?_ | refine rg ?_ | refine ct_block ?_ | refine bq ?_ | refine o_iaddr ?_ | refine o_iaddrO ?_ | refine o_iaddrR ?_ | refine o_add ?_ | refine o_cat ?_ | refine o_bin ?_ | refine o_lenq ?_ | refine o_len ?_ | refine o_loadsA ?_ | refine o_loadpA ?_ | refine o_pickt ?_ | refine o_pickf ?_ | refine skF ?_ | refine skU ?_
    refine glook (fun hg => ?_) (fun hg => ?_)
    · have hlt : i < t.length := by have h' := of_decide_eq_true hg; omega
      obtain ⟨p, hp⟩ : ∃ x, t[i]? = some x := ⟨_, List.getElem?_eq_getElem hlt⟩
      have hpe := gm (enc := encP) (n := (i : Int)) hp (by omega)
      rw [hp] at hfd
      repeat first | refine o_copy ?_ | refine nl ?_ | refine ct_seq ?_ | refine rg ?_ | refine ct_block ?_ | refine bq ?_ | refine cv0 (pcmp_vc p k) ?_ | refine o_iaddr ?_ | refine o_iaddrO ?_ | refine o_iaddrR ?_ | refine o_add ?_ | refine o_cat ?_ | refine o_bin ?_ | refine o_lenq ?_ | refine o_len ?_ | refine o_loadsA ?_ | refine o_loadpA ?_ | refine o_pickt ?_ | refine o_pickf ?_ | refine skF ?_ | refine skU ?_
      refine ct_ret ⟨.inr rfl, oAny ?_⟩
      have : (cmpStr p.key k == 0) = fd := by
        rw [← hfd]
        show _ = decide (p.key = k)
        by_cases hk : p.key = k
        · rw [decide_eq_true hk, cmpStr_eq.2 hk]; rfl
        · rw [decide_eq_false hk]
          have : cmpStr p.key k ≠ 0 := fun e => hk (cmpStr_eq.1 e)
          simpa using this
      rw [← this]
      rfl
    · have hge : t.length ≤ i := by have h' := of_decide_eq_false hg; omega
      rw [List.getElem?_eq_none hge] at hfd
      repeat first | refine o_copy ?_ | refine nl ?_ | refine ct_seq ?_ | refine rg ?_ | refine ct_block ?_ | refine bq ?_ | refine o_iaddr ?_ | refine o_iaddrO ?_ | refine o_iaddrR ?_ | refine o_add ?_ | refine o_cat ?_ | refine o_bin ?_ | refine o_lenq ?_ | refine o_len ?_ | refine o_loadsA ?_ | refine o_loadpA ?_ | refine o_pickt ?_ | refine o_pickf ?_ | refine skF ?_ | refine skU ?_
      refine ct_ret ⟨.inr rfl, oAny ?_⟩
      rw [← hfd]
      rfl
theorem place_vc {q : PV} {t : List PairL} (k : Str) (hs : Srt t) (hq : Sl q (t.map encP)) (hl : t.length ≤ 1000000) : VC Try.prog 35 [q, .str k] [] (.tup [.int .i64 (lbN t k), .bool (findP t k).isSome]) [] := by
  refine vc_of vf35 ?_ (Nat.le_of_ble_eq_true rfl) (noTup2 (by intro q h; cases h) (by intro q h; cases h))
  repeat first | refine o_copy ?_ | refine nl ?_ | refine ct_seq ?_ | refine rg ?_ | refine ct_block ?_ | refine bq ?_ | refine cv0 (bs_vc k hs hq hl) ?_ | refine o_extract ?_
  exact ct_ret ⟨.inr rfl, oAny rfl⟩
theorem bounds_vc {q : PV} {t : List PairL} (s : SpanL) (hs : Srt t) (hq : Sl q (t.map encP)) (hl : t.length ≤ 1000000) : VC Try.prog 36 [q, .agg (encS s)] [] (.tup [.int .i64 (boundsL t s).1, .int .i64 (boundsL t s).2]) [] := by
  refine vc_of vf36 ?_ (Nat.le_of_ble_eq_true rfl) (noTup2 (by intro q h; cases h) (by intro q h; cases h))
  have hml : (t.map encP).length = t.length := List.length_map ..
  repeat first | refine o_copy ?_ | refine nl ?_ | refine ct_seq ?_ | refine rg ?_ | refine ct_block ?_ | refine bq ?_ | refine cv0 (empty_vc s) ?_ | refine o_loads ?_ | refine o_loadp ?_ | refine o_faddr ?_ | refine o_bin ?_ | refine o_lenq ?_ | refine o_len ?_ | refine o_loadsA ?_ | refine o_loadpA ?_ | refine o_box ?_ | refine o_extract ?_
  refine cnd (fun h => ?_) (fun h => ct_skip ?_)
  · repeat first | refine o_copy ?_ | refine nl ?_ | refine ct_seq ?_ | refine rg ?_ | refine ct_block ?_ | refine bq ?_ | refine o_loads ?_ | refine o_loadp ?_ | refine o_faddr ?_ | refine o_bin ?_ | refine o_lenq ?_ | refine o_len ?_ | refine o_loadsA ?_ | refine o_loadpA ?_ | refine o_box ?_ | refine o_extract ?_
    refine ct_ret ⟨.inr rfl, oAny ?_⟩
    rw [boundsL, if_pos h]; rfl
  · repeat first | refine o_copy ?_ | refine nl ?_ | refine ct_seq ?_ | refine rg ?_ | refine ct_block ?_ | refine bq ?_ | refine cv0 (place_vc s.lo hs hq hl) ?_ | refine o_loads ?_ | refine o_loadp ?_ | refine o_faddr ?_ | refine o_bin ?_ | refine o_lenq ?_ | refine o_len ?_ | refine o_loadsA ?_ | refine o_loadpA ?_ | refine o_box ?_ | refine o_extract ?_
    refine cnd (fun h2 => ?_) (fun h2 => ct_skip ?_)
    · have h2' : s.hi ≠ [] := by simpa using h2
      repeat first | refine o_copy ?_ | refine nl ?_ | refine ct_seq ?_ | refine rg ?_ | refine ct_block ?_ | refine bq ?_ | refine cv0 (place_vc s.hi hs hq hl) ?_ | refine o_loads ?_ | refine o_loadp ?_ | refine o_faddr ?_ | refine o_bin ?_ | refine o_lenq ?_ | refine o_len ?_ | refine o_loadsA ?_ | refine o_loadpA ?_ | refine o_box ?_ | refine o_extract ?_
      refine ct_ret ⟨.inr rfl, oAny ?_⟩
      rw [boundsL, if_neg (by simp [h])]
      simp only [if_neg h2']
      rfl
    · have h2' : s.hi = [] := by simpa using h2
      repeat first | refine o_copy ?_ | refine nl ?_ | refine ct_seq ?_ | refine rg ?_ | refine ct_block ?_ | refine bq ?_ | refine o_loads ?_ | refine o_loadp ?_ | refine o_faddr ?_ | refine o_bin ?_ | refine o_lenq ?_ | refine o_len ?_ | refine o_loadsA ?_ | refine o_loadpA ?_ | refine o_box ?_ | refine o_extract ?_
      refine ct_ret ⟨.inr rfl, oAny ?_⟩
      rw [boundsL, if_neg (by simp [h])]
      simp only [if_pos h2', hml]
      rfl
theorem range_vc0 {t : List PairL} (s : SpanL) (hs : Srt t) (hl : t.length ≤ 1000000) : VC Try.prog 18 [.sh false (t.map encP), .agg (encS s)] [] (.sh true ((rangeL t s).map encP)) [] := by
  refine vc_of vf18 ?_ (Nat.le_of_ble_eq_true rfl) (by intro vs h; cases h)
  obtain ⟨h1, h2⟩ := bounds_le hs s
  have h3 := range_eq hs s
  have hb := bounds_vc (q := .sh false (t.map encP)) s hs Sl.sh hl
  generalize (boundsL t s).1 = a at *
  generalize (boundsL t s).2 = z at *
  repeat first | refine o_copy ?_ | refine nl ?_ | refine ct_seq ?_ | refine rg ?_ | refine ct_block ?_ | refine bq ?_ | refine cv0 hb ?_ | refine o_v0 (vslg t (rangeL t s) a z h3) ?_ | refine o_loadsA ?_ | refine o_loadpA ?_ | refine o_box ?_ | refine o_extract ?_
  exact ct_ret ⟨.inr rfl, oAny rfl⟩
theorem range_vc {q : PV} {t : List PairL} (s : SpanL) (hs : Srt t) (hq : Sl q (t.map encP)) (hl : t.length ≤ 1000000) : VC Try.prog 18 [q, .agg (encS s)] [] (.sh false ((rangeL t s).map encP)) [] :=
  vc_weak (range_vc0 s hs hl) (.cons (PLe.sl hq) (.cons (PLe.refl _) .nil)) (PLe.sl Sl.sh)
end Go.Proofs
open Go.V Go.Pu
set_option linter.unusedVariables false
set_option linter.unusedSimpArgs false
set_option maxRecDepth 20000
namespace Go.Proofs
/-- downspout/downspoutref04.Prefix -/
def vc28 : VCode :=
 (.seq
 (.region 0 false [
 ⟨(some 2), .copy (.c (.str [])), none, 0, []⟩])
 (.seq
 (.region 1 false [
 ⟨(some 3), .bslice 1 [(.str [])] 6 [(0, (.c (.str []))), (1, (.c (.str [97, 47]))), (2, (.c (.str [98, 47]))), (3, (.c (.str [97, 47, 98, 47]))), (4, (.c (.str [97, 47, 2]))), (5, (.c (.str [99, 47])))], none, 8192, []⟩,
 ⟨(some 4), .copy (.t 0), none, 8200, []⟩,
 ⟨(some 5), .bin .rem (.t 4) (.c (.int .u8 6)), none, 8208, [1]⟩,
 ⟨(some 6), .iaddr 1 (.t 3) (.t 5), none, 8216, [0, 2, 1]⟩,
 ⟨(some 7), .load false 1 (.t 6), none, 8224, [3, 0, 2, 1]⟩,
 ⟨(some 2), .copy (.t 7), none, 8232, [4, 3, 0, 2, 1]⟩])
 .ret))
theorem vf28 : VF Try.prog 28 = some (8, vc28, [.tmp 2]) := by kernel_rfl
/-- downspout/table.Moved -/
def vc27 : VCode :=
 (.seq
 (.region 0 false [
 ⟨(some 6), .copy (.c .nils), none, 0, []⟩])
 (.seq
 (.region 1 false [
 ⟨(some 7), .copy (.c .nils), none, 8192, []⟩])
 (.seq
 (.seq
 (.region 2 false [
 ⟨(some 10), .copy (.t 0), none, 16384, []⟩,
 ⟨(some 11), .copy (.t 1), none, 16392, []⟩,
 ⟨(some 12), .call (.c (.fn 41 [])) [(.t 11)], none, 16400, [1]⟩,
 ⟨(some 13), .call (.c (.fn 18 [])) [(.t 10), (.t 12)], none, 16408, [0, 2, 1]⟩,
 ⟨(some 14), .len (.t 13), none, 16416, [3, 0, 2, 1]⟩,
 ⟨(some 15), .copy (.c (.int .i64 0)), none, 16424, []⟩])
 (.block 0
 (.loop
 (.seq
 (.region 3 false [
 ⟨(some 16), .bin .lss (.t 15) (.t 14), none, 24576, []⟩])
 (.seq
 (.cond (.t 16)
 .skip
 (.exit 0))
 (.seq
 (.block 1
 (.seq
 (.region 4 false [
 ⟨(some 17), .iaddr 3 (.t 13) (.t 15), none, 32768, []⟩,
 ⟨(some 18), .load true 3 (.t 17), none, 32776, [0]⟩,
 ⟨(some 9), .alloc [(.str []), (.str []), (.int .i64 0)], none, 32784, []⟩,
 ⟨none, .store 3 (.t 9) (.t 18), none, 32792, [2, 1, 0]⟩])
 (.region 5 true [
 ⟨(some 19), .copy (.t 7), none, 40960, []⟩,
 ⟨(some 20), .copy (.t 2), none, 40968, []⟩,
 ⟨(some 21), .faddr 0 (.t 9), none, 40976, []⟩,
 ⟨(some 22), .load false 1 (.t 21), none, 40984, [2]⟩,
 ⟨(some 23), .copy (.t 1), none, 40992, []⟩,
 ⟨(some 24), .lenS (.t 23), none, 41000, [4]⟩,
 ⟨(some 25), .slstr (.t 22) (some (.t 24)) none, none, 41008, [3, 2, 5, 4]⟩,
 ⟨(some 26), .bin .add (.t 20) (.t 25), none, 41016, [1, 6, 3, 2, 5, 4]⟩,
 ⟨(some 27), .faddr 1 (.t 9), none, 41024, []⟩,
 ⟨(some 28), .load false 1 (.t 27), none, 41032, [8]⟩,
 ⟨(some 29), .faddr 2 (.t 9), none, 41040, []⟩,
 ⟨(some 30), .load false 1 (.t 29), none, 41048, [10]⟩,
 ⟨(some 31), .build [(.str []), (.str []), (.int .i64 0)] [(0, 1, (.t 26)), (1, 1, (.t 28)), (2, 1, (.t 30))], none, 41056, [7, 1, 6, 3, 2, 5, 4, 9, 8, 11, 10]⟩,
 ⟨(some 32), .bslice 3 [(.str []), (.str []), (.int .i64 0)] 1 [(0, (.t 31))], none, 41064, [12, 7, 1, 6, 3, 2, 5, 4, 9, 8, 11, 10]⟩,
 ⟨(some 33), .append 3 40 [(.str []), (.str []), (.int .i64 0)] (.t 19) (.t 32), none, 41072, [0, 13, 12, 7, 1, 6, 3, 2, 5, 4, 9, 8, 11, 10]⟩,
 ⟨(some 7), .copy (.t 33), none, 41080, [14, 0, 13, 12, 7, 1, 6, 3, 2, 5, 4, 9, 8, 11, 10]⟩])))
 (.region 6 false [
 ⟨(some 34), .bin .add (.t 15) (.c (.int .i64 1)), none, 49152, []⟩,
 ⟨(some 15), .copy (.t 34), none, 49160, [0]⟩])))))))
 (.seq
 (.region 7 false [
 ⟨(some 35), .copy (.t 7), none, 57344, []⟩,
 ⟨(some 6), .copy (.t 35), none, 57352, [0]⟩])
 .ret))))
theorem vf27 : VF Try.prog 27 = some (36, vc27, [.tmp 6]) := by kernel_rfl
/-! Moves of tables -/
def presL : List (List UInt8) := [[], [97, 47], [98, 47], [97, 47, 98, 47], [97, 47, 2], [99, 47]]
def preL (n : Nat) : List UInt8 := presL.getD (n % 6) []
theorem pre_vc {n : Nat} (hn : n < 256) : VC Try.prog 28 [.int .u8 n] [] (.str (preL n)) [] := vc_byte noCall_good noX_good (fuel := 10) (d := 3) (F := preL) (by kernel_rfl) hn
theorem pre_len (n : Nat) : (preL n).length ≤ 4 := by
  have h : n % 6 < 6 := Nat.mod_lt _ (by decide)
  unfold preL
  generalize n % 6 = m at h
  have : ∀ m, m < 6 → (presL.getD m []).length ≤ 4 := by decide
  exact this m h
theorem vslD {lvl site : Nat} {tf : Nat → Option PV} {hf : Bid → Option Blk} {x : VX} {lo : Option VX} {s : Str} (n : Nat) (hn : n ≤ s.length) (hx : ev tf x = some (.str s) := by rfl) (h1 : optInt tf 0 lo = some (n : Int) := by rfl) : vop lvl site tf hf (.slstr x lo none) = some ⟨.str (s.drop n), [], []⟩ := by
  rw [v_slstr (a := n) (z := (s.length : Nat)) hx h1 rfl (by omega) (by omega) (by omega)]
  have e : (s.drop (n : Int).toNat).take (((s.length : Nat) : Int).toNat - (n : Int).toNat) = s.drop n := by
    rw [List.take_of_length_le (by simp)]; simp
  rw [e]
set_option maxHeartbeats 1000000 in
theorem moved_vc0 {t : List PairL} (f to : Str) (hs : Srt t) (hl : t.length ≤ 100000) (hk : ∀ p ∈ t, p.key.length ≤ 100000) (hf : f.length ≤ 100000) (hto : to.length ≤ 100000) : VC Try.prog 27 [.sh false (t.map encP), .str f, .str to] [] (ownV ⟨0, 0⟩ ((movedT t f to).map encP)) [blkV 3 ((movedT t f to).map encP)] := by
  refine vc_of vf27 ?_ (Nat.le_of_ble_eq_true rfl) (by intro vs h; cases h)
  have hp1 := prefix_vc f (by omega)
  have hr1 := range_vc (q := .sh false (t.map encP)) (prefixL f) hs Sl.sh (by omega)
  rw [range_prefix] at hr1
  have hrl : (srcL t f).length ≤ t.length := List.length_filter_le ..
  have hrk : ∀ p ∈ srcL t f, p.key.length ≤ 100000 ∧ f.length ≤ p.key.length := fun p hp => ⟨hk p (List.mem_filter.1 hp).1, by
    obtain ⟨r, hr⟩ := begins_iff.1 (src_begins hp)
    rw [hr, List.length_append]; omega⟩
  have hfin : movedT t f to = (srcL t f).map (mvP f to) := rfl
  rw [hfin]
  generalize srcL t f = r at *
  have hmr : (r.map encP).length = r.length := List.length_map ..
  repeat first | refine o_copy ?_ | refine nl ?_ | refine ct_seq ?_ | refine rg ?_ | refine ct_block ?_ | refine bq ?_ | refine cv0 hp1 ?_ | refine cf hr1 ?_ | refine o_loads ?_ | refine o_loadp ?_ | refine o_faddr ?_ | refine o_iaddr ?_ | refine o_iaddrO ?_ | refine o_iaddrR ?_ | refine o_add ?_ | refine o_cat ?_ | refine o_bin ?_ | refine o_lenq ?_ | refine o_len ?_ | refine o_loadsA ?_ | refine o_loadpA ?_ | refine o_alloc ?_ | refine o_bslice ?_ | refine o_store ?_ | refine o_build ?_ | refine o_lenS ?_
  refine ct_loopG (fun (g : Nat × List PairL) => [(1, .str f), (2, .str to), (7, ownV ⟨1, 41072⟩ (g.2.map encP)), (13, .sh false (r.map encP)), (14, .int .i64 (r.map encP).length), (15, .int .i64 g.1)])
    (fun g => [(⟨1, 41072⟩, blkV 3 (g.2.map encP))]) (fun g => r.length - g.1)
    (fun g => g.1 ≤ r.length ∧ g.2.length = g.1 ∧ g.2 ++ (r.drop g.1).map (mvP f to) = r.map (mvP f to)) (0, []) ((Imp.nil (t := 7) (b := ⟨1, 41072⟩) (esz := 3) rfl rfl (by decide)).trans goes) ⟨Nat.zero_le _, rfl, rfl⟩ ?_
  rintro ⟨i, o⟩ ⟨hi, ho, hv⟩
  dsimp only at hi ho hv ⊢
  repeat first | refine o_copy ?_ | refine nl ?_ | refine ct_seq ?_ | refine rg ?_ | refine ct_block ?_ | refine bq ?_ | refine o_loads ?_ | refine o_loadp ?_ | refine o_faddr ?_ | refine o_iaddr ?_ | refine o_iaddrO ?_ | refine o_iaddrR ?_ | refine o_add ?_ | refine o_cat ?_ | refine o_bin ?_ | refine o_lenq ?_ | refine o_len ?_ | refine o_loadsA ?_ | refine o_loadpA ?_ | refine o_alloc ?_ | refine o_bslice ?_ | refine o_store ?_ | refine o_build ?_ | refine o_lenS ?_
  refine cnd (fun h => ct_skip ?_) (fun h => ct_exit ?_)
  · have hlt : i < r.length := by have h' := of_decide_eq_true h; omega
    obtain ⟨p, hp⟩ : ∃ x, r[i]? = some x := ⟨_, List.getElem?_eq_getElem hlt⟩
    have hpe := gm (enc := encP) (n := (i : Int)) hp (by omega)
    obtain ⟨hpk, hfp⟩ := hrk p (List.mem_of_getElem? hp)
    have hdl : (p.key.drop f.length).length ≤ 100000 := by rw [List.length_drop]; omega
    rw [drop_get hp, List.map_cons] at hv
    repeat first | refine o_copy ?_ | refine nl ?_ | refine ct_seq ?_ | refine rg ?_ | refine ct_block ?_ | refine bq ?_ | refine o_v0 (vslD f.length hfp) ?_ | refine o_v (vap encP (mvP f to p)) ?_ | refine o_loads ?_ | refine o_loadp ?_ | refine o_faddr ?_ | refine o_iaddr ?_ | refine o_iaddrO ?_ | refine o_iaddrR ?_ | refine o_add ?_ | refine o_cat ?_ | refine o_bin ?_ | refine o_lenq ?_ | refine o_len ?_ | refine o_loadsA ?_ | refine o_loadpA ?_ | refine o_alloc ?_ | refine o_bslice ?_ | refine o_store ?_ | refine o_build ?_ | refine o_lenS ?_
    refine agn (i + 1, o ++ [mvP f to p]) ⟨by simp only; omega, by simp only [List.length_append, List.length_cons, List.length_nil]; omega, ?_⟩ goes
    rw [← hv]; simp
  · have hge : i = r.length := by have h' := of_decide_eq_false h; omega
    subst hge
    rw [List.drop_length, List.map_nil, List.append_nil] at hv
    repeat first | refine o_copy ?_ | refine nl ?_ | refine ct_seq ?_ | refine rg ?_ | refine ct_block ?_ | refine bq ?_ | refine o_loads ?_ | refine o_loadp ?_ | refine o_faddr ?_ | refine o_iaddr ?_ | refine o_iaddrO ?_ | refine o_iaddrR ?_ | refine o_add ?_ | refine o_cat ?_ | refine o_bin ?_ | refine o_lenq ?_ | refine o_len ?_ | refine o_loadsA ?_ | refine o_loadpA ?_ | refine o_alloc ?_ | refine o_bslice ?_ | refine o_store ?_ | refine o_build ?_ | refine o_lenS ?_
    exact ct_ret ⟨.inr rfl, oOwn (congrArg (List.map encP) hv)⟩
theorem moved_vc {q : PV} {t : List PairL} (f to : Str) (hs : Srt t) (hq : Sl q (t.map encP)) (hl : t.length ≤ 100000) (hk : ∀ p ∈ t, p.key.length ≤ 100000) (hf : f.length ≤ 100000) (hto : to.length ≤ 100000) : VC Try.prog 27 [q, .str f, .str to] [] (ownV ⟨0, 0⟩ ((movedT t f to).map encP)) [blkV 3 ((movedT t f to).map encP)] :=
  vc_weak (moved_vc0 f to hs hl hk hf hto) (.cons (PLe.sl hq) (.cons (PLe.refl _) (.cons (PLe.refl _) .nil))) (PLe.refl _)
end Go.Proofs
