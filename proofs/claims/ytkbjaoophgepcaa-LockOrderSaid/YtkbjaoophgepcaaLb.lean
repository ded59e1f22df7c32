/- Lb -/
import Derived.Test.YtkbjaoophgepcaaLa
import Derived.Test.YtkbjaoophgepcaaPu
import Derived.Test.YtkbjaoophgepcaaVD
open Go.V Go.Pu
set_option linter.unusedVariables false
set_option linter.unusedSimpArgs false
set_option maxRecDepth 20000
namespace Go.Proofs
/-- downspout/downspoutref02.Begins -/
def vc22 : VCode :=
 (.seq
 (.region 0 false [
 ⟨(some 4), .copy (.c (.bool false)), none, 0, []⟩])
 (.seq
 (.region 1 false [
 ⟨(some 5), .copy (.t 0), none, 8192, []⟩,
 ⟨(some 6), .lenS (.t 5), none, 8200, [0]⟩,
 ⟨(some 7), .copy (.t 1), none, 8208, []⟩,
 ⟨(some 8), .lenS (.t 7), none, 8216, [2]⟩,
 ⟨(some 9), .bin .geq (.t 6) (.t 8), none, 8224, [1, 0, 3, 2]⟩,
 ⟨(some 10), .copy (.t 9), none, 8232, [4, 1, 0, 3, 2]⟩,
 ⟨(some 11), .copy (.t 0), (some (5, 10, true)), 8240, [5, 4, 1, 0, 3, 2]⟩,
 ⟨(some 12), .copy (.t 1), (some (5, 10, true)), 8248, [5, 4, 1, 0, 3, 2]⟩,
 ⟨(some 13), .lenS (.t 12), (some (5, 10, true)), 8256, [7, 5, 4, 1, 0, 3, 2]⟩,
 ⟨(some 14), .slstr (.t 11) none (some (.t 13)), (some (5, 10, true)), 8264, [6, 5, 4, 1, 0, 3, 2, 8, 7]⟩,
 ⟨(some 15), .copy (.t 1), (some (5, 10, true)), 8272, [5, 4, 1, 0, 3, 2]⟩,
 ⟨(some 16), .bin .eql (.t 14) (.t 15), (some (5, 10, true)), 8280, [9, 6, 5, 4, 1, 0, 3, 2, 8, 7, 10]⟩,
 ⟨(some 17), .pick (.t 10) (.t 16) (.c (.bool false)), none, 8288, [5, 4, 1, 0, 3, 2, 11, 9, 6, 8, 7, 10]⟩,
 ⟨(some 4), .copy (.t 17), none, 8296, [12, 5, 4, 1, 0, 3, 2, 11, 9, 6, 8, 7, 10]⟩])
 .ret))
theorem vf22 : VF Try.prog 22 = some (18, vc22, [.tmp 4]) := by kernel_rfl
/-- downspout/downspoutref02.Moved -/
def vc21 : VCode :=
 (.seq
 (.region 0 false [
 ⟨(some 6), .copy (.c (.str [])), none, 0, []⟩,
 ⟨(some 7), .copy (.c (.bool false)), none, 8, [0]⟩])
 (.seq
 (.seq
 (.region 1 false [
 ⟨(some 8), .copy (.t 0), none, 8192, []⟩,
 ⟨(some 9), .copy (.t 1), none, 8200, []⟩,
 ⟨(some 10), .call (.c (.fn 22 [])) [(.t 8), (.t 9)], none, 8208, [0, 1]⟩,
 ⟨(some 11), .not (.t 10), none, 8216, [2, 0, 1]⟩])
 (.cond (.t 11)
 (.seq
 (.region 2 false [
 ⟨(some 6), .copy (.c (.str [])), none, 16384, []⟩,
 ⟨(some 7), .copy (.c (.bool false)), none, 16392, [0]⟩])
 .ret)
 .skip))
 (.seq
 (.region 3 false [
 ⟨(some 12), .copy (.t 2), none, 24576, []⟩,
 ⟨(some 13), .copy (.t 0), none, 24584, []⟩,
 ⟨(some 14), .copy (.t 1), none, 24592, []⟩,
 ⟨(some 15), .lenS (.t 14), none, 24600, [2]⟩,
 ⟨(some 16), .slstr (.t 13) (some (.t 15)) none, none, 24608, [1, 3, 2]⟩,
 ⟨(some 17), .bin .add (.t 12) (.t 16), none, 24616, [0, 4, 1, 3, 2]⟩,
 ⟨(some 6), .copy (.t 17), none, 24624, [5, 0, 4, 1, 3, 2]⟩,
 ⟨(some 7), .copy (.c (.bool true)), none, 24632, [6, 5, 0, 4, 1, 3, 2]⟩])
 .ret)))
theorem vf21 : VF Try.prog 21 = some (18, vc21, [.tmp 6, .tmp 7]) := by kernel_rfl
/-- downspout/downspoutref32.renamed -/
def vc53 : VCode :=
 (.seq
 (.region 0 false [
 ⟨(some 3), .box (.t 1), none, 0, []⟩,
 ⟨(some 4), .copy (.c .nils), none, 8, []⟩])
 (.seq
 (.region 1 false [
 ⟨(some 10), .bslice 5 [(.int .i64 0), (.str []), (.int .i64 0), (.int .i64 0), (.bool false)] 0 [], none, 8192, []⟩,
 ⟨(some 5), .copy (.t 10), none, 8200, [0]⟩])
 (.seq
 (.seq
 (.region 2 false [
 ⟨(some 6), .copy (.c (.int .i64 0)), none, 16384, []⟩])
 (.block 0
 (.loop
 (.seq
 (.seq
 (.region 3 false [
 ⟨(some 11), .copy (.t 6), none, 24576, []⟩,
 ⟨(some 12), .copy (.t 0), none, 24584, []⟩,
 ⟨(some 13), .len (.t 12), none, 24592, [1]⟩,
 ⟨(some 14), .bin .lss (.t 11) (.t 13), none, 24600, [0, 2, 1]⟩])
 (.cond (.t 14)
 .skip
 (.exit 0)))
 (.seq
 (.block 1
 (.seq
 (.region 5 false [
 ⟨(some 17), .copy (.t 0), none, 40960, []⟩,
 ⟨(some 18), .copy (.t 6), none, 40968, []⟩,
 ⟨(some 19), .iaddr 5 (.t 17) (.t 18), none, 40976, [0, 1]⟩,
 ⟨(some 20), .load true 5 (.t 19), none, 40984, [2, 0, 1]⟩,
 ⟨(some 7), .alloc [(.int .i64 0), (.str []), (.int .i64 0), (.int .i64 0), (.bool false)], none, 40992, []⟩,
 ⟨none, .store 5 (.t 7) (.t 20), none, 41000, [4, 3, 2, 0, 1]⟩])
 (.seq
 (.seq
 (.region 6 false [
 ⟨(some 21), .faddr 1 (.t 7), none, 49152, []⟩,
 ⟨(some 22), .load false 1 (.t 21), none, 49160, [0]⟩,
 ⟨(some 23), .iaddrA 2 1 (.t 3) (.c (.int .i64 1)), none, 49168, []⟩,
 ⟨(some 24), .load false 1 (.t 23), none, 49176, [2]⟩,
 ⟨(some 25), .call (.c (.fn 22 [])) [(.t 22), (.t 24)], none, 49184, [1, 0, 3, 2]⟩])
 (.cond (.t 25)
 (.exit 1)
 .skip))
 (.seq
 (.region 7 false [
 ⟨(some 27), .faddr 1 (.t 7), none, 57344, []⟩,
 ⟨(some 28), .load false 1 (.t 27), none, 57352, [0]⟩,
 ⟨(some 29), .iaddrA 2 1 (.t 3) (.c (.int .i64 0)), none, 57360, []⟩,
 ⟨(some 30), .load false 1 (.t 29), none, 57368, [2]⟩,
 ⟨(some 31), .iaddrA 2 1 (.t 3) (.c (.int .i64 1)), none, 57376, []⟩,
 ⟨(some 32), .load false 1 (.t 31), none, 57384, [4]⟩,
 ⟨(some 33), .call (.c (.fn 21 [])) [(.t 28), (.t 30), (.t 32)], none, 57392, [1, 0, 3, 2, 5, 4]⟩,
 ⟨(some 26), .copy (.t 33), none, 57400, [6, 1, 0, 3, 2, 5, 4]⟩,
 ⟨(some 34), .extract (.t 26) 0, none, 57408, [7, 6, 1, 0, 3, 2, 5, 4]⟩,
 ⟨(some 35), .extract (.t 26) 1, none, 57416, [7, 6, 1, 0, 3, 2, 5, 4]⟩,
 ⟨(some 8), .copy (.t 34), none, 57424, [8, 7, 6, 1, 0, 3, 2, 5, 4]⟩,
 ⟨(some 9), .copy (.t 35), none, 57432, [9, 7, 6, 1, 0, 3, 2, 5, 4, 10, 8]⟩])
 (.seq
 (.seq
 (.region 8 false [
 ⟨(some 36), .copy (.t 9), none, 65536, []⟩])
 (.cond (.t 36)
 (.region 9 false [
 ⟨(some 37), .copy (.t 8), none, 73728, []⟩,
 ⟨(some 38), .faddr 1 (.t 7), none, 73736, [0]⟩,
 ⟨none, .store 1 (.t 38) (.t 37), none, 73744, [1, 0]⟩])
 .skip))
 (.region 10 false [
 ⟨(some 39), .copy (.t 5), none, 81920, []⟩,
 ⟨(some 40), .load true 5 (.t 7), none, 81928, []⟩,
 ⟨(some 41), .bslice 5 [(.int .i64 0), (.str []), (.int .i64 0), (.int .i64 0), (.bool false)] 1 [(0, (.t 40))], none, 81936, [1]⟩,
 ⟨(some 42), .append 5 48 [(.int .i64 0), (.str []), (.int .i64 0), (.int .i64 0), (.bool false)] (.t 39) (.t 41), none, 81944, [0, 2, 1]⟩,
 ⟨(some 5), .copy (.t 42), none, 81952, [3, 0, 2, 1]⟩]))))))
 (.region 4 false [
 ⟨(some 15), .copy (.t 6), none, 32768, []⟩,
 ⟨(some 16), .bin .add (.t 15) (.c (.int .i64 1)), none, 32776, [0]⟩,
 ⟨(some 6), .copy (.t 16), none, 32784, [1, 0]⟩]))))))
 (.seq
 (.region 11 false [
 ⟨(some 43), .copy (.t 5), none, 90112, []⟩,
 ⟨(some 4), .copy (.t 43), none, 90120, [0]⟩])
 .ret))))
theorem vf53 : VF Try.prog 53 = some (44, vc53, [.tmp 4]) := by kernel_rfl
/-- downspout/downspoutref32.Moved -/
def vc30 : VCode :=
 (.seq
 (.region 0 false [
 ⟨(some 3), .box (.t 0), none, 0, []⟩,
 ⟨(some 6), .alloc [.nils, .nils], none, 8, []⟩])
 (.seq
 (.region 1 false [
 ⟨(some 8), .copy (.t 1), none, 8192, []⟩,
 ⟨(some 9), .copy (.t 2), none, 8200, []⟩,
 ⟨(some 10), .build [(.str []), (.str [])] [(0, 1, (.t 8)), (1, 1, (.t 9))], none, 8208, [0, 1]⟩,
 ⟨(some 7), .alloc [(.str []), (.str [])], none, 8216, []⟩,
 ⟨none, .store 2 (.t 7) (.t 10), none, 8224, [3, 2, 0, 1]⟩])
 (.seq
 (.region 2 true [
 ⟨(some 11), .faddr 0 (.t 3), none, 16384, []⟩,
 ⟨(some 12), .load false 1 (.t 11), none, 16392, [0]⟩,
 ⟨(some 13), .load true 2 (.t 7), none, 16400, []⟩,
 ⟨(some 14), .call (.c (.fn 53 [])) [(.t 12), (.t 13)], none, 16408, [1, 0, 2]⟩,
 ⟨(some 15), .faddr 1 (.t 3), none, 16416, []⟩,
 ⟨(some 16), .load false 1 (.t 15), none, 16424, [4]⟩,
 ⟨(some 17), .load true 2 (.t 7), none, 16432, []⟩,
 ⟨(some 18), .call (.c (.fn 53 [])) [(.t 16), (.t 17)], none, 16440, [5, 4, 6, 3, 1, 0, 2]⟩,
 ⟨(some 19), .build [.nils, .nils] [(0, 1, (.t 14)), (1, 1, (.t 18))], none, 16448, [3, 1, 0, 2, 7, 5, 4, 6]⟩,
 ⟨(some 20), .call (.c (.fn 49 [])) [(.t 19)], none, 16456, [8, 3, 1, 0, 2, 7, 5, 4, 6]⟩,
 ⟨(some 21), .field true 0 2 (.t 20), none, 16464, [9, 8, 3, 1, 0, 2, 7, 5, 4, 6]⟩,
 ⟨none, .store 2 (.t 6) (.t 21), none, 16472, [10, 9, 8, 3, 1, 0, 2, 7, 5, 4, 6]⟩])
 .ret)))
theorem vf30 : VF Try.prog 30 = some (22, vc30, [.cell true 2 6]) := by kernel_rfl
/-- downspout/downspoutref32.Path -/
def vc36 : VCode :=
 (.seq
 (.region 0 false [
 ⟨(some 2), .copy (.c (.str [])), none, 0, []⟩])
 (.seq
 (.region 1 false [
 ⟨(some 3), .bslice 1 [(.str [])] 4 [(0, (.c (.str [97, 47]))), (1, (.c (.str [98, 47]))), (2, (.c (.str [97, 47, 98, 47]))), (3, (.c (.str [99, 47])))], none, 8192, []⟩,
 ⟨(some 4), .copy (.t 0), none, 8200, []⟩,
 ⟨(some 5), .bin .rem (.t 4) (.c (.int .u8 4)), none, 8208, [1]⟩,
 ⟨(some 6), .iaddr 1 (.t 3) (.t 5), none, 8216, [0, 2, 1]⟩,
 ⟨(some 7), .load false 1 (.t 6), none, 8224, [3, 0, 2, 1]⟩,
 ⟨(some 2), .copy (.t 7), none, 8232, [4, 3, 0, 2, 1]⟩])
 .ret))
theorem vf36 : VF Try.prog 36 = some (8, vc36, [.tmp 2]) := by kernel_rfl
/-- downspout/downspoutref32.Lock -/
def vc14 : VCode :=
 (.seq
 (.region 0 false [
 ⟨(some 1), .box (.t 0), none, 0, []⟩,
 ⟨(some 2), .alloc [(.int .i64 0), (.str []), (.int .i64 0), (.int .i64 0), (.bool false)], none, 8, []⟩])
 (.seq
 (.region 1 false [
 ⟨(some 4), .iaddrA 5 1 (.t 1) (.c (.int .i64 3)), none, 8192, []⟩,
 ⟨(some 5), .load false 1 (.t 4), none, 8200, [0]⟩,
 ⟨(some 6), .bin .rem (.t 5) (.c (.int .u8 8)), none, 8208, [1, 0]⟩,
 ⟨(some 7), .conv .i64 (.t 6), none, 8216, [2, 1, 0]⟩,
 ⟨(some 3), .copy (.t 7), none, 8224, [3, 2, 1, 0]⟩])
 (.seq
 (.region 2 true [
 ⟨(some 8), .iaddrA 5 1 (.t 1) (.c (.int .i64 1)), none, 16384, []⟩,
 ⟨(some 9), .load false 1 (.t 8), none, 16392, [0]⟩,
 ⟨(some 10), .bin .rem (.t 9) (.c (.int .u8 5)), none, 16400, [1, 0]⟩,
 ⟨(some 11), .conv .i64 (.t 10), none, 16408, [2, 1, 0]⟩,
 ⟨(some 12), .iaddrA 5 1 (.t 1) (.c (.int .i64 2)), none, 16416, []⟩,
 ⟨(some 13), .load false 1 (.t 12), none, 16424, [4]⟩,
 ⟨(some 14), .call (.c (.fn 36 [])) [(.t 13)], none, 16432, [5, 4]⟩,
 ⟨(some 15), .copy (.t 3), none, 16440, []⟩,
 ⟨(some 16), .copy (.t 3), none, 16448, []⟩,
 ⟨(some 17), .bin .add (.t 16) (.c (.int .i64 1)), none, 16456, [8]⟩,
 ⟨(some 18), .iaddrA 5 1 (.t 1) (.c (.int .i64 4)), none, 16464, []⟩,
 ⟨(some 19), .load false 1 (.t 18), none, 16472, [10]⟩,
 ⟨(some 20), .bin .rem (.t 19) (.c (.int .u8 8)), none, 16480, [11, 10]⟩,
 ⟨(some 21), .conv .i64 (.t 20), none, 16488, [12, 11, 10]⟩,
 ⟨(some 22), .bin .add (.t 17) (.t 21), none, 16496, [9, 8, 13, 12, 11, 10]⟩,
 ⟨(some 23), .iaddrA 5 1 (.t 1) (.c (.int .i64 4)), none, 16504, []⟩,
 ⟨(some 24), .load false 1 (.t 23), none, 16512, [15]⟩,
 ⟨(some 25), .bin .geq (.t 24) (.c (.int .u8 128)), none, 16520, [16, 15]⟩,
 ⟨(some 26), .build [(.int .i64 0), (.str []), (.int .i64 0), (.int .i64 0), (.bool false)] [(0, 1, (.t 11)), (1, 1, (.t 14)), (2, 1, (.t 15)), (3, 1, (.t 22)), (4, 1, (.t 25))], none, 16528, [3, 2, 1, 0, 6, 5, 4, 7, 14, 9, 8, 13, 12, 11, 10, 17, 16, 15]⟩,
 ⟨none, .store 5 (.t 2) (.t 26), none, 16536, [18, 3, 2, 1, 0, 6, 5, 4, 7, 14, 9, 8, 13, 12, 11, 10, 17, 16, 15]⟩])
 .ret)))
theorem vf14 : VF Try.prog 14 = some (27, vc14, [.cell true 5 2]) := by kernel_rfl
theorem begins_vc (k p : Str) (hk : k.length ≤ 1000000000) (hp : p.length ≤ 1000000000) : VC Try.prog 22 [.str k, .str p] [] (.bool (beginsL k p)) [] := by
  refine vc_of vf22 ?_ (Nat.le_of_ble_eq_true rfl) (by intro vs h; cases h)
  repeat' first | refine o_copy ?_ | refine nl ?_ | refine ct_seq ?_ | refine rg ?_ | refine ct_block ?_ | refine bq ?_ | refine ct_skip ?_ | refine ct_exit ?_ | refine rt_next ?_ | refine cndt ?_ | refine cndf ?_ | refine o_slstr ?_ | refine o_copy ?_ | refine o_bin ?_ | refine o_pickt ?_ | refine o_pickf ?_ | refine o_lenS ?_ | refine skF ?_ | refine skU ?_ | refine ct_ret ⟨.inr rfl, ?_⟩ | refine cnd (fun _ => ?_) (fun _ => ?_) | (refine glook (fun _ => ?_) (fun _ => ?_) <;> first | refine o_slstr ?_ | refine o_copy ?_ | refine o_bin ?_ | refine o_pickt ?_ | refine o_pickf ?_ | refine o_lenS ?_ | refine skF ?_ | refine skU ?_)
  all_goals refine oB ?_
  all_goals simp_all [beginsL]
  all_goals omega
theorem rmvd_vc (k f t : Str) (hk : k.length ≤ 1000000000) (hf : f.length ≤ 1000000000) (ht : t.length ≤ 1000000000) : VC Try.prog 21 [.str k, .str f, .str t] [] (.tup [.str (movedL k f t).1, .bool (movedL k f t).2]) [] := by
  refine vc_of vf21 ?_ (Nat.le_of_ble_eq_true rfl) (by intro vs h; cases h; intro p hp q; rcases List.mem_cons.1 hp with rfl | hp <;> simp_all)
  have hl : beginsL k f = true → f.length ≤ k.length := fun h => by simp [beginsL] at h; exact h.1
  repeat' first | refine o_copy ?_ | refine nl ?_ | refine ct_seq ?_ | refine rg ?_ | refine ct_block ?_ | refine bq ?_ | refine ct_skip ?_ | refine ct_exit ?_ | refine rt_next ?_ | refine cndt ?_ | refine cndf ?_ | refine cv0 (begins_vc k f hk hf) ?_ | refine o_slstr ?_ | refine o_copy ?_ | refine o_add ?_ | refine o_cat ?_ | refine o_bin ?_ | refine o_not ?_ | refine o_lenS ?_ | refine ct_ret ⟨.inr rfl, ?_⟩ | refine cnd (fun _ => ?_) (fun _ => ?_) | (refine glook (fun _ => ?_) (fun _ => ?_) <;> first | refine cv0 (begins_vc k f hk hf) ?_ | refine o_slstr ?_ | refine o_copy ?_ | refine o_add ?_ | refine o_cat ?_ | refine o_bin ?_ | refine o_not ?_ | refine o_lenS ?_)
  all_goals refine oSB ?_
  all_goals simp_all [movedL]
  all_goals (rw [List.take_of_length_le (by simp)])
abbrev lenP (l : List LockL) (n : Nat) : Prop := ∀ y ∈ l, y.path.length ≤ n
theorem ren_step {l : List LockL} {i : Nat} {x : LockL} (hx : l[i]? = some x) (f t : Str) : renL (l.take (i + 1)) f t = renL (l.take i) f t ++ (if beginsL x.path t = true then [] else [if beginsL x.path f = true then { x with path := (movedL x.path f t).1 } else x]) := by
  unfold renL
  rw [List.take_add_one, hx, Option.toList, List.filter_append, List.map_append]
  cases h : beginsL x.path t <;> simp [h]
theorem ren_len (l : List LockL) (f t : Str) : (renL l f t).length ≤ l.length := by
  unfold renL
  rw [List.length_map]
  exact List.length_filter_le _ _
set_option maxHeartbeats 2000000 in
theorem rren_vc {l : List LockL} (hl : l.length ≤ 20000) (f t : Str) (hp : lenP l 100000000) (hf : f.length ≤ 100000000) (ht : t.length ≤ 100000000) : VC Try.prog 53 [.sh false (l.map encL), .agg [.str f, .str t]] [] (ownV ⟨0, 0⟩ ((renL l f t).map encL)) [blkV 5 ((renL l f t).map encL)] := by
  refine vc_of vf53 ?_ (Nat.le_of_ble_eq_true rfl) (by intro vs h; cases h)
  repeat first | refine o_copy ?_ | refine nl ?_ | refine ct_seq ?_ | refine rg ?_ | refine ct_block ?_ | refine bq ?_ | refine o_loads ?_ | refine o_loadp ?_ | refine o_faddr ?_ | refine o_iaddr ?_ | refine o_iaddrO ?_ | refine o_iaddrR ?_ | refine o_add ?_ | refine o_cat ?_ | refine o_bin ?_ | refine o_lenq ?_ | refine o_len ?_ | refine o_loadsA ?_ | refine o_loadpA ?_ | refine o_box ?_ | refine o_alloc ?_ | refine o_bslice ?_ | refine o_store ?_ | refine o_extract ?_ | refine o_iaddrA ?_
  refine ct_loopG (fun (g : Nat × List LockL) => [(0, .sh false (l.map encL)), (3, .ptr ⟨1, 0⟩ 1 0 0), (5, ownV ⟨1, 8192⟩ (g.2.map encL)), (6, .int .i64 g.1)]) (fun g => [(⟨1, 0⟩, ⟨true, false, 2, [[.str f, .str t]]⟩), (⟨1, 8192⟩, blkV 5 (g.2.map encL))]) (fun g => l.length - g.1)
    (fun g => g.1 ≤ l.length ∧ g.2 = renL (l.take g.1) f t) (0, []) goesD ⟨Nat.zero_le _, rfl⟩ ?_
  rintro ⟨i, ys⟩ ⟨hi, hv⟩
  dsimp only at hi hv ⊢
  repeat first | refine o_copy ?_ | refine nl ?_ | refine ct_seq ?_ | refine rg ?_ | refine ct_block ?_ | refine bq ?_ | refine o_loads ?_ | refine o_loadp ?_ | refine o_faddr ?_ | refine o_iaddr ?_ | refine o_iaddrO ?_ | refine o_iaddrR ?_ | refine o_add ?_ | refine o_cat ?_ | refine o_bin ?_ | refine o_lenq ?_ | refine o_len ?_ | refine o_loadsA ?_ | refine o_loadpA ?_ | refine o_box ?_ | refine o_alloc ?_ | refine o_bslice ?_ | refine o_store ?_ | refine o_extract ?_ | refine o_iaddrA ?_
  refine cnd (fun h => ct_skip ?_) (fun h => ct_exit ?_)
  · have hlt : i < l.length := by have h' := of_decide_eq_true h; simp only [List.length_map] at h'; omega
    obtain ⟨x, hx⟩ : ∃ y, l[i]? = some y := ⟨_, List.getElem?_eq_getElem hlt⟩
    have hxe := gm (enc := encL) (n := (i : Int)) hx (by omega)
    have hxp := hp x (List.mem_of_getElem? hx)
    have hyl : ys.length ≤ l.length := by
      rw [hv]
      exact Nat.le_trans (ren_len _ _ _) (by simp; omega)
    have hst := ren_step hx f t
    have hb := begins_vc x.path t (by omega) (by omega)
    have hm := rmvd_vc x.path f t (by omega) (by omega) (by omega)
    cases hbt : beginsL x.path t with
    | true =>
      rw [hbt, if_pos rfl] at hst
      rw [hbt] at hb
      repeat first | refine o_copy ?_ | refine nl ?_ | refine ct_seq ?_ | refine rg ?_ | refine ct_block ?_ | refine bq ?_ | refine cv0 hb ?_ | refine o_loads ?_ | refine o_loadp ?_ | refine o_faddr ?_ | refine o_iaddr ?_ | refine o_iaddrO ?_ | refine o_iaddrR ?_ | refine o_add ?_ | refine o_cat ?_ | refine o_bin ?_ | refine o_lenq ?_ | refine o_len ?_ | refine o_loadsA ?_ | refine o_loadpA ?_ | refine o_box ?_ | refine o_alloc ?_ | refine o_bslice ?_ | refine o_store ?_ | refine o_extract ?_ | refine o_iaddrA ?_
      refine cndt (ct_exit ?_)
      repeat first | refine o_copy ?_ | refine nl ?_ | refine ct_seq ?_ | refine rg ?_ | refine ct_block ?_ | refine bq ?_ | refine o_loads ?_ | refine o_loadp ?_ | refine o_faddr ?_ | refine o_iaddr ?_ | refine o_iaddrO ?_ | refine o_iaddrR ?_ | refine o_add ?_ | refine o_cat ?_ | refine o_bin ?_ | refine o_lenq ?_ | refine o_len ?_ | refine o_loadsA ?_ | refine o_loadpA ?_ | refine o_box ?_ | refine o_alloc ?_ | refine o_bslice ?_ | refine o_store ?_ | refine o_extract ?_ | refine o_iaddrA ?_
      exact agn (Q := fun _ _ => True) (i + 1, ys) ⟨by simp only; omega, by simp only; rw [hst, hv]; simp⟩ goesD
    | false =>
      rw [hbt, if_neg (by simp)] at hst
      rw [hbt] at hb
      cases hbf : beginsL x.path f with
      | true =>
        rw [hbf, if_pos rfl] at hst
        have hm2 : (movedL x.path f t).2 = true := by simp [movedL, hbf]
        rw [hm2] at hm
        repeat first | refine o_copy ?_ | refine nl ?_ | refine ct_seq ?_ | refine rg ?_ | refine ct_block ?_ | refine bq ?_ | refine cv0 hb ?_ | refine o_loads ?_ | refine o_loadp ?_ | refine o_faddr ?_ | refine o_iaddr ?_ | refine o_iaddrO ?_ | refine o_iaddrR ?_ | refine o_add ?_ | refine o_cat ?_ | refine o_bin ?_ | refine o_lenq ?_ | refine o_len ?_ | refine o_loadsA ?_ | refine o_loadpA ?_ | refine o_box ?_ | refine o_alloc ?_ | refine o_bslice ?_ | refine o_store ?_ | refine o_extract ?_ | refine o_iaddrA ?_
        refine cndf (ct_skip ?_)
        repeat first | refine o_copy ?_ | refine nl ?_ | refine ct_seq ?_ | refine rg ?_ | refine ct_block ?_ | refine bq ?_ | refine cv0 hm ?_ | refine o_loads ?_ | refine o_loadp ?_ | refine o_faddr ?_ | refine o_iaddr ?_ | refine o_iaddrO ?_ | refine o_iaddrR ?_ | refine o_add ?_ | refine o_cat ?_ | refine o_bin ?_ | refine o_lenq ?_ | refine o_len ?_ | refine o_loadsA ?_ | refine o_loadpA ?_ | refine o_box ?_ | refine o_alloc ?_ | refine o_bslice ?_ | refine o_store ?_ | refine o_extract ?_ | refine o_iaddrA ?_
        refine cndt ?_
        repeat first | refine o_copy ?_ | refine nl ?_ | refine ct_seq ?_ | refine rg ?_ | refine ct_block ?_ | refine bq ?_ | refine o_v (vap encL { x with path := (movedL x.path f t).1 }) ?_ | refine o_loads ?_ | refine o_loadp ?_ | refine o_faddr ?_ | refine o_iaddr ?_ | refine o_iaddrO ?_ | refine o_iaddrR ?_ | refine o_add ?_ | refine o_cat ?_ | refine o_bin ?_ | refine o_lenq ?_ | refine o_len ?_ | refine o_loadsA ?_ | refine o_loadpA ?_ | refine o_box ?_ | refine o_alloc ?_ | refine o_bslice ?_ | refine o_store ?_ | refine o_extract ?_ | refine o_iaddrA ?_
        exact agn (Q := fun _ _ => True) (i + 1, ys ++ [{ x with path := (movedL x.path f t).1 }]) ⟨by simp only; omega, by simp only; rw [hst, hv]⟩ goesD
      | false =>
        rw [hbf, if_neg (by simp)] at hst
        have hm2 : (movedL x.path f t).2 = false := by simp [movedL, hbf]
        rw [hm2] at hm
        repeat first | refine o_copy ?_ | refine nl ?_ | refine ct_seq ?_ | refine rg ?_ | refine ct_block ?_ | refine bq ?_ | refine cv0 hb ?_ | refine o_loads ?_ | refine o_loadp ?_ | refine o_faddr ?_ | refine o_iaddr ?_ | refine o_iaddrO ?_ | refine o_iaddrR ?_ | refine o_add ?_ | refine o_cat ?_ | refine o_bin ?_ | refine o_lenq ?_ | refine o_len ?_ | refine o_loadsA ?_ | refine o_loadpA ?_ | refine o_box ?_ | refine o_alloc ?_ | refine o_bslice ?_ | refine o_store ?_ | refine o_extract ?_ | refine o_iaddrA ?_
        refine cndf (ct_skip ?_)
        repeat first | refine o_copy ?_ | refine nl ?_ | refine ct_seq ?_ | refine rg ?_ | refine ct_block ?_ | refine bq ?_ | refine cv0 hm ?_ | refine o_loads ?_ | refine o_loadp ?_ | refine o_faddr ?_ | refine o_iaddr ?_ | refine o_iaddrO ?_ | refine o_iaddrR ?_ | refine o_add ?_ | refine o_cat ?_ | refine o_bin ?_ | refine o_lenq ?_ | refine o_len ?_ | refine o_loadsA ?_ | refine o_loadpA ?_ | refine o_box ?_ | refine o_alloc ?_ | refine o_bslice ?_ | refine o_store ?_ | refine o_extract ?_ | refine o_iaddrA ?_
        refine cndf (ct_skip ?_)
        repeat first | refine o_copy ?_ | refine nl ?_ | refine ct_seq ?_ | refine rg ?_ | refine ct_block ?_ | refine bq ?_ | refine o_v (vap encL x) ?_ | refine o_loads ?_ | refine o_loadp ?_ | refine o_faddr ?_ | refine o_iaddr ?_ | refine o_iaddrO ?_ | refine o_iaddrR ?_ | refine o_add ?_ | refine o_cat ?_ | refine o_bin ?_ | refine o_lenq ?_ | refine o_len ?_ | refine o_loadsA ?_ | refine o_loadpA ?_ | refine o_box ?_ | refine o_alloc ?_ | refine o_bslice ?_ | refine o_store ?_ | refine o_extract ?_ | refine o_iaddrA ?_
        exact agn (Q := fun _ _ => True) (i + 1, ys ++ [x]) ⟨by simp only; omega, by simp only; rw [hst, hv]⟩ goesD
  · have hge : i = l.length := by have h' := of_decide_eq_false h; simp only [List.length_map] at h'; omega
    subst hge
    rw [List.take_length] at hv
    subst hv
    repeat first | refine o_copy ?_ | refine nl ?_ | refine ct_seq ?_ | refine rg ?_ | refine ct_block ?_ | refine bq ?_ | refine o_loads ?_ | refine o_loadp ?_ | refine o_faddr ?_ | refine o_iaddr ?_ | refine o_iaddrO ?_ | refine o_iaddrR ?_ | refine o_add ?_ | refine o_cat ?_ | refine o_bin ?_ | refine o_lenq ?_ | refine o_len ?_ | refine o_loadsA ?_ | refine o_loadpA ?_ | refine o_box ?_ | refine o_alloc ?_ | refine o_bslice ?_ | refine o_store ?_ | refine o_extract ?_ | refine o_iaddrA ?_
    exact ct_ret ⟨.inr rfl, oOwn rfl⟩
theorem rmoved_vc {l : LocksL} (hl : l.held.length + l.waits.length ≤ 20000) (f t : Str) (h1 : lenP l.held 100000000) (h2 : lenP l.waits 100000000) (hf : f.length ≤ 100000000) (ht : t.length ≤ 100000000) : VC Try.prog 30 [.agg (encLs l), .str f, .str t] [] (.agg (encLs (movedG rmt l f t))) [] := by
  have c1 := rren_vc (l := l.held) (by omega) f t h1 hf ht
  have c2 := rren_vc (l := l.waits) (by omega) f t h2 hf ht
  have n1 := ren_len l.held f t
  have n2 := ren_len l.waits f t
  have hg := grG_vc (l := ⟨renL l.held f t, renL l.waits f t⟩) (by simp only; omega)
  refine vc_of vf30 ?_ (Nat.le_of_ble_eq_true rfl) (by intro vs h; cases h)
  repeat first | refine o_copy ?_ | refine nl ?_ | refine ct_seq ?_ | refine rg ?_ | refine ct_block ?_ | refine bq ?_ | refine cv c1 ?_ | refine cv c2 ?_ | refine cf hg (h3 := by exact l_own2 rfl rfl) ?_ | refine o_loads ?_ | refine o_loadp ?_ | refine o_faddr ?_ | refine o_loadsA ?_ | refine o_loadpA ?_ | refine o_box ?_ | refine o_alloc ?_ | refine o_store ?_ | refine o_field ?_ | refine o_build ?_
  exact ct_ret ⟨.inr rfl, oAny rfl⟩
abbrev encR (r : RawL) : List PV := [.int .u8 r.k, .int .u8 r.a, .int .u8 r.b, .int .u8 r.c, .int .u8 r.d]
theorem tm (n m : Nat) : Int.tmod (n : Int) (m : Int) = ((n % m : Nat) : Int) := by
  rw [Int.tmod_eq_emod_of_nonneg (by omega)]; rfl
theorem path_vc (n : Nat) : VC Try.prog 36 [.int .u8 n] [] (.str (pathL n)) [] := by
  have h1 : Int.tmod (n : Int) 4 = ((n % 4 : Nat) : Int) := tm n 4
  have hlt : n % 4 < 4 := Nat.mod_lt _ (by omega)
  have hx : [[PV.str [97, 47]], [.str [98, 47]], [.str [97, 47, 98, 47]], [.str [99, 47]]][((n % 4 : Nat) : Int).toNat]? = some [.str (pathL n)] := by
    unfold pathL pathsL
    rw [Int.toNat_natCast]
    generalize n % 4 = m at hlt
    match m, hlt with
    | 0, _ => rfl
    | 1, _ => rfl
    | 2, _ => rfl
    | 3, _ => rfl
  refine vc_of vf36 ?_ (Nat.le_of_ble_eq_true rfl) (by intro vs h; cases h)
  repeat first | refine o_copy ?_ | refine nl ?_ | refine ct_seq ?_ | refine rg ?_ | refine ct_block ?_ | refine bq ?_ | refine o_rem ?_ | refine o_loads ?_ | refine o_loadp ?_ | refine o_iaddr ?_ | refine o_iaddrO ?_ | refine o_iaddrR ?_ | refine o_bin ?_ | refine o_bslice ?_
  exact ct_ret ⟨.inr rfl, oS rfl⟩
theorem lock_vc {r : RawL} (hr : r.ok) : VC Try.prog 14 [.agg (encR r)] [] (.agg (encL (lockL r))) [] := by
  obtain ⟨g1, g2, g3, g4, g5⟩ := hr
  have h1 : Int.tmod (r.c : Int) 8 = ((r.c % 8 : Nat) : Int) := tm r.c 8
  have h2 : Int.tmod (r.a : Int) 5 = ((r.a % 5 : Nat) : Int) := tm r.a 5
  have h3 : Int.tmod (r.d : Int) 8 = ((r.d % 8 : Nat) : Int) := tm r.d 8
  have w1 : IntKind.i64.wrap ((r.c % 8 : Nat) : Int) = ((r.c % 8 : Nat) : Int) := wrap64 (by omega) (by omega)
  have w2 : IntKind.i64.wrap ((r.a % 5 : Nat) : Int) = ((r.a % 5 : Nat) : Int) := wrap64 (by omega) (by omega)
  have w3 : IntKind.i64.wrap ((r.d % 8 : Nat) : Int) = ((r.d % 8 : Nat) : Int) := wrap64 (by omega) (by omega)
  have hc := path_vc r.b
  refine vc_of vf14 ?_ (Nat.le_of_ble_eq_true rfl) (by intro vs h; cases h)
  repeat first | refine o_copy ?_ | refine nl ?_ | refine ct_seq ?_ | refine rg ?_ | refine ct_block ?_ | refine bq ?_ | refine o_rem ?_ | refine o_convE ?_ | refine cv0 hc ?_ | refine o_loads ?_ | refine o_loadp ?_ | refine o_add ?_ | refine o_cat ?_ | refine o_bin ?_ | refine o_box ?_ | refine o_alloc ?_ | refine o_store ?_ | refine o_build ?_ | refine o_iaddrA ?_
  refine ct_ret ⟨.inr rfl, oAny ?_⟩
  have e : decide ((r.d : Int) ≥ 128) = decide (128 ≤ r.d) := by rw [Bool.eq_iff_iff]; simp; omega
  show PV.agg [.int .i64 ((r.a % 5 : Nat) : Int), .str (pathL r.b), .int .i64 ((r.c % 8 : Nat) : Int), .int .i64 (((r.c % 8 : Nat) : Int) + 1 + ((r.d % 8 : Nat) : Int)), .bool (decide ((r.d : Int) ≥ 128))] = _
  rw [e]
  rfl
end Go.Proofs
open Go.V Go.Pu
set_option linter.unusedVariables false
set_option linter.unusedSimpArgs false
set_option maxRecDepth 20000
namespace Go.Proofs
/-- downspout/downspoutref32.Step -/
def vc34 : VCode :=
 (.seq
 (.region 0 false [
 ⟨(some 2), .box (.t 0), none, 0, []⟩,
 ⟨(some 3), .box (.t 1), none, 8, []⟩,
 ⟨(some 4), .alloc [.nils, .nils], none, 16, []⟩])
 (.seq
 (.seq
 (.region 1 false [
 ⟨(some 6), .iaddrA 5 1 (.t 3) (.c (.int .i64 0)), none, 8192, []⟩,
 ⟨(some 7), .load false 1 (.t 6), none, 8200, [0]⟩,
 ⟨(some 8), .bin .rem (.t 7) (.c (.int .u8 12)), none, 8208, [1, 0]⟩])
 (.block 0
 (.seq
 (.seq
 (.region 2 false [
 ⟨(some 10), .bin .eql (.t 8) (.c (.int .u8 0)), none, 16384, []⟩,
 ⟨(some 9), .copy (.t 10), none, 16392, [0]⟩])
 (.cond (.t 9)
 .skip
 (.region 3 false [
 ⟨(some 11), .bin .eql (.t 8) (.c (.int .u8 1)), none, 24576, []⟩,
 ⟨(some 9), .copy (.t 11), none, 24584, [0]⟩])))
 (.cond (.t 9)
 (.seq
 (.region 4 true [
 ⟨(some 12), .faddr 0 (.t 2), none, 32768, []⟩,
 ⟨(some 13), .load false 1 (.t 12), none, 32776, [0]⟩,
 ⟨(some 14), .call (.c (.fn 47 [])) [(.t 13)], none, 32784, [1, 0]⟩,
 ⟨(some 15), .faddr 1 (.t 2), none, 32792, []⟩,
 ⟨(some 16), .load false 1 (.t 15), none, 32800, [3]⟩,
 ⟨(some 17), .append 5 48 [(.int .i64 0), (.str []), (.int .i64 0), (.int .i64 0), (.bool false)] (.t 14) (.t 16), none, 32808, [2, 1, 0, 4, 3]⟩,
 ⟨(some 5), .copy (.t 17), none, 32816, [5, 2, 1, 0, 4, 3]⟩])
 (.seq
 (.region 5 false [
 ⟨(some 18), .copy (.t 5), none, 40960, []⟩,
 ⟨(some 19), .len (.t 18), none, 40968, [0]⟩,
 ⟨(some 20), .bin .gtr (.t 19) (.c (.int .i64 0)), none, 40976, [1, 0]⟩])
 (.cond (.t 20)
 (.seq
 (.region 6 true [
 ⟨(some 21), .load true 2 (.t 2), none, 49152, []⟩,
 ⟨(some 22), .copy (.t 5), none, 49160, []⟩,
 ⟨(some 23), .iaddrA 5 1 (.t 3) (.c (.int .i64 1)), none, 49168, []⟩,
 ⟨(some 24), .load false 1 (.t 23), none, 49176, [2]⟩,
 ⟨(some 25), .conv .i64 (.t 24), none, 49184, [3, 2]⟩,
 ⟨(some 26), .copy (.t 5), none, 49192, []⟩,
 ⟨(some 27), .len (.t 26), none, 49200, [5]⟩,
 ⟨(some 28), .bin .rem (.t 25) (.t 27), none, 49208, [4, 3, 2, 6, 5]⟩,
 ⟨(some 29), .iaddr 5 (.t 22) (.t 28), none, 49216, [1, 7, 4, 3, 2, 6, 5]⟩,
 ⟨(some 30), .load true 5 (.t 29), none, 49224, [8, 1, 7, 4, 3, 2, 6, 5]⟩,
 ⟨(some 31), .call (.c (.fn 26 [])) [(.t 21), (.t 30)], none, 49232, [0, 9, 8, 1, 7, 4, 3, 2, 6, 5]⟩,
 ⟨(some 32), .field true 0 2 (.t 31), none, 49240, [10, 0, 9, 8, 1, 7, 4, 3, 2, 6, 5]⟩,
 ⟨none, .store 2 (.t 4) (.t 32), none, 49248, [11, 10, 0, 9, 8, 1, 7, 4, 3, 2, 6, 5]⟩])
 .ret)
 .skip)))
 (.seq
 (.region 7 false [
 ⟨(some 34), .bin .eql (.t 8) (.c (.int .u8 2)), none, 57344, []⟩,
 ⟨(some 33), .copy (.t 34), none, 57352, [0]⟩])
 (.cond (.t 33)
 (.seq
 (.region 8 false [
 ⟨(some 35), .load true 2 (.t 2), none, 65536, []⟩,
 ⟨(some 36), .iaddrA 5 1 (.t 3) (.c (.int .i64 1)), none, 65544, []⟩,
 ⟨(some 37), .load false 1 (.t 36), none, 65552, [1]⟩,
 ⟨(some 38), .bin .rem (.t 37) (.c (.int .u8 5)), none, 65560, [2, 1]⟩,
 ⟨(some 39), .conv .i64 (.t 38), none, 65568, [3, 2, 1]⟩,
 ⟨(some 40), .call (.c (.fn 29 [])) [(.t 35), (.t 39)], none, 65576, [0, 4, 3, 2, 1]⟩,
 ⟨(some 41), .field true 0 2 (.t 40), none, 65584, [5, 0, 4, 3, 2, 1]⟩,
 ⟨none, .store 2 (.t 4) (.t 41), none, 65592, [6, 5, 0, 4, 3, 2, 1]⟩])
 .ret)
 (.seq
 (.region 9 false [
 ⟨(some 43), .bin .eql (.t 8) (.c (.int .u8 3)), none, 73728, []⟩,
 ⟨(some 42), .copy (.t 43), none, 73736, [0]⟩])
 (.cond (.t 42)
 (.seq
 (.region 10 true [
 ⟨(some 44), .load true 2 (.t 2), none, 81920, []⟩,
 ⟨(some 45), .bslice 1 [(.str [])] 2 [(0, (.c (.str [98, 47]))), (1, (.c (.str [99, 47])))], none, 81928, []⟩,
 ⟨(some 46), .iaddrA 5 1 (.t 3) (.c (.int .i64 1)), none, 81936, []⟩,
 ⟨(some 47), .load false 1 (.t 46), none, 81944, [2]⟩,
 ⟨(some 48), .bin .rem (.t 47) (.c (.int .u8 2)), none, 81952, [3, 2]⟩,
 ⟨(some 49), .iaddr 1 (.t 45) (.t 48), none, 81960, [1, 4, 3, 2]⟩,
 ⟨(some 50), .load false 1 (.t 49), none, 81968, [5, 1, 4, 3, 2]⟩,
 ⟨(some 51), .bslice 1 [(.str [])] 2 [(0, (.c (.str [97, 47]))), (1, (.c (.str [100, 47])))], none, 81976, []⟩,
 ⟨(some 52), .iaddrA 5 1 (.t 3) (.c (.int .i64 2)), none, 81984, []⟩,
 ⟨(some 53), .load false 1 (.t 52), none, 81992, [8]⟩,
 ⟨(some 54), .bin .rem (.t 53) (.c (.int .u8 2)), none, 82000, [9, 8]⟩,
 ⟨(some 55), .iaddr 1 (.t 51) (.t 54), none, 82008, [7, 10, 9, 8]⟩,
 ⟨(some 56), .load false 1 (.t 55), none, 82016, [11, 7, 10, 9, 8]⟩,
 ⟨(some 57), .call (.c (.fn 30 [])) [(.t 44), (.t 50), (.t 56)], none, 82024, [0, 6, 5, 1, 4, 3, 2, 12, 11, 7, 10, 9, 8]⟩,
 ⟨none, .store 2 (.t 4) (.t 57), none, 82032, [13, 0, 6, 5, 1, 4, 3, 2, 12, 11, 7, 10, 9, 8]⟩])
 .ret)
 .skip))))))))
 (.seq
 (.region 11 true [
 ⟨(some 58), .load true 2 (.t 2), none, 90112, []⟩,
 ⟨(some 59), .load true 5 (.t 3), none, 90120, []⟩,
 ⟨(some 60), .call (.c (.fn 14 [])) [(.t 59)], none, 90128, [1]⟩,
 ⟨(some 61), .call (.c (.fn 24 [])) [(.t 58), (.t 60)], none, 90136, [0, 2, 1]⟩,
 ⟨(some 62), .field true 0 2 (.t 61), none, 90144, [3, 0, 2, 1]⟩,
 ⟨none, .store 2 (.t 4) (.t 62), none, 90152, [4, 3, 0, 2, 1]⟩])
 .ret)))
theorem vf34 : VF Try.prog 34 = some (63, vc34, [.cell true 2 4]) := by kernel_rfl
/-- downspout/downspoutref32.Play -/
def vc12 : VCode :=
 (.seq
 (.region 0 false [
 ⟨(some 4), .alloc [.nils, .nils], none, 0, []⟩])
 (.seq
 (.region 1 false [
 ⟨(some 7), .build [.nils, .nils] [], none, 8192, []⟩,
 ⟨(some 5), .alloc [.nils, .nils], none, 8200, []⟩,
 ⟨none, .store 2 (.t 5) (.t 7), none, 8208, [1, 0]⟩])
 (.seq
 (.seq
 (.region 2 false [
 ⟨(some 6), .copy (.c (.int .i64 0)), none, 16384, []⟩])
 (.block 0
 (.loop
 (.seq
 (.seq
 (.region 3 false [
 ⟨(some 8), .copy (.t 6), none, 24576, []⟩,
 ⟨(some 9), .copy (.t 0), none, 24584, []⟩,
 ⟨(some 10), .len (.t 9), none, 24592, [1]⟩,
 ⟨(some 11), .bin .lss (.t 8) (.t 10), none, 24600, [0, 2, 1]⟩,
 ⟨(some 12), .copy (.t 11), none, 24608, [3, 0, 2, 1]⟩,
 ⟨(some 13), .copy (.t 6), (some (4, 12, true)), 24616, [4, 3, 0, 2, 1]⟩,
 ⟨(some 14), .copy (.t 1), (some (4, 12, true)), 24624, [4, 3, 0, 2, 1]⟩,
 ⟨(some 15), .bin .lss (.t 13) (.t 14), (some (4, 12, true)), 24632, [5, 4, 3, 0, 2, 1, 6]⟩,
 ⟨(some 16), .pick (.t 12) (.t 15) (.c (.bool false)), none, 24640, [4, 3, 0, 2, 1, 7, 5, 6]⟩])
 (.cond (.t 16)
 .skip
 (.exit 0)))
 (.seq
 (.block 1
 (.region 5 true [
 ⟨(some 19), .load true 2 (.t 5), none, 40960, []⟩,
 ⟨(some 20), .copy (.t 0), none, 40968, []⟩,
 ⟨(some 21), .copy (.t 6), none, 40976, []⟩,
 ⟨(some 22), .iaddr 5 (.t 20) (.t 21), none, 40984, [1, 2]⟩,
 ⟨(some 23), .load true 5 (.t 22), none, 40992, [3, 1, 2]⟩,
 ⟨(some 24), .call (.c (.fn 34 [])) [(.t 19), (.t 23)], none, 41000, [0, 4, 3, 1, 2]⟩,
 ⟨none, .store 2 (.t 5) (.t 24), none, 41008, [5, 0, 4, 3, 1, 2]⟩]))
 (.region 4 false [
 ⟨(some 17), .copy (.t 6), none, 32768, []⟩,
 ⟨(some 18), .bin .add (.t 17) (.c (.int .i64 1)), none, 32776, [0]⟩,
 ⟨(some 6), .copy (.t 18), none, 32784, [1, 0]⟩]))))))
 (.seq
 (.region 6 false [
 ⟨(some 25), .load true 2 (.t 5), none, 49152, []⟩,
 ⟨none, .store 2 (.t 4) (.t 25), none, 49160, [0]⟩])
 .ret))))
theorem vf12 : VF Try.prog 12 = some (26, vc12, [.cell true 2 4]) := by kernel_rfl
theorem from_len (n : Nat) : (fromL n).length = 2 := by unfold fromL; split <;> rfl
theorem to_len (n : Nat) : (toL n).length = 2 := by unfold toL; split <;> rfl
set_option maxHeartbeats 4000000 in
theorem step_vc {l : LocksL} (hl : l.held.length + l.waits.length ≤ 10000) (h1 : lenP l.held 100000000) (h2 : lenP l.waits 100000000) {r : RawL} (hr : r.ok) : VC Try.prog 34 [.agg (encLs l), .agg (encR r)] [] (.agg (encLs (stepL l r))) [] := by
  have hr0 := hr
  obtain ⟨b1, b2, b3, b4, b5⟩ := hr0
  have m1 : Int.tmod (r.k : Int) 12 = ((r.k % 12 : Nat) : Int) := tm r.k 12
  have hlk := lock_vc hr
  have htk := rtake_vc hl (lockL r)
  by_cases hA : r.k % 12 < 2
  · have hch := copied_vc (l := l.held) (by omega)
    have hlen : (l.held ++ l.waits).length = l.held.length + l.waits.length := List.length_append
    by_cases hP : 0 < (l.held ++ l.waits).length
    · have e : stepL l r = (dropG rmt l (((l.held ++ l.waits)[r.a % (l.held ++ l.waits).length]?).getD default)).l := by unfold stepL; rw [if_pos ⟨hA, hP⟩]
      have hml : r.a % (l.held ++ l.waits).length < (l.held ++ l.waits).length := Nat.mod_lt _ hP
      obtain ⟨x, hx⟩ : ∃ x, (l.held ++ l.waits)[r.a % (l.held ++ l.waits).length]? = some x := ⟨_, List.getElem?_eq_getElem hml⟩
      rw [hx] at e
      simp only [Option.getD_some] at e
      rw [e]
      have hxe := gm (enc := encL) (n := ((r.a % (l.held ++ l.waits).length : Nat) : Int)) hx (Int.toNat_natCast _)
      have m2 : Int.tmod (r.a : Int) (((l.held ++ l.waits).map encL).length : Nat) = ((r.a % (l.held ++ l.waits).length : Nat) : Int) := by rw [List.length_map]; exact tm _ _
      have m3 : (((l.held ++ l.waits).map encL).length : Int) ≠ 0 := by rw [List.length_map]; omega
      have m4 : ((r.a % (l.held ++ l.waits).length : Nat) : Int) < (((l.held ++ l.waits).map encL).length : Nat) := by rw [List.length_map]; omega
      have w1 : IntKind.i64.wrap (r.a : Int) = (r.a : Int) := wrap64 (by omega) (by omega)
      have g3 : decide ((((l.held ++ l.waits).map encL).length : Int) > 0) = true := by rw [List.length_map]; simp; omega
      have hd := rdrop_vc hl x
      have two : r.k % 12 = 0 ∨ r.k % 12 = 1 := by omega
      refine vc_of vf34 ?_ (Nat.le_of_ble_eq_true rfl) (by intro vs h; cases h)
      repeat first | refine o_copy ?_ | refine nl ?_ | refine ct_seq ?_ | refine rg ?_ | refine ct_block ?_ | refine bq ?_ | refine o_rem ?_ | refine o_loads ?_ | refine o_loadp ?_ | refine o_faddr ?_ | refine o_iaddr ?_ | refine o_iaddrO ?_ | refine o_iaddrR ?_ | refine o_bin ?_ | refine o_lenq ?_ | refine o_len ?_ | refine o_loadsA ?_ | refine o_loadpA ?_ | refine o_box ?_ | refine o_alloc ?_ | refine o_bslice ?_ | refine o_store ?_ | refine o_field ?_ | refine o_iaddrA ?_
      rcases two with h0 | h0
      · have g1 : (((r.k % 12 : Nat) : Int) == 0) = true := by rw [h0]; rfl
        refine cndt (ct_skip ?_)
        refine cndt ?_
        repeat first | refine o_copy ?_ | refine nl ?_ | refine ct_seq ?_ | refine rg ?_ | refine ct_block ?_ | refine bq ?_ | refine cv hch ?_ | refine o_v (vaps encL l.held l.waits) ?_ | refine o_loads ?_ | refine o_loadp ?_ | refine o_faddr ?_ | refine o_iaddr ?_ | refine o_iaddrO ?_ | refine o_iaddrR ?_ | refine o_bin ?_ | refine o_lenq ?_ | refine o_len ?_ | refine o_loadsA ?_ | refine o_loadpA ?_ | refine o_box ?_ | refine o_alloc ?_ | refine o_bslice ?_ | refine o_store ?_ | refine o_field ?_ | refine o_iaddrA ?_
        refine cndt ?_
        repeat first | refine o_copy ?_ | refine nl ?_ | refine ct_seq ?_ | refine rg ?_ | refine ct_block ?_ | refine bq ?_ | refine o_convE ?_ | refine o_rem ?_ | refine cf hd ?_ | refine o_loads ?_ | refine o_loadp ?_ | refine o_faddr ?_ | refine o_iaddr ?_ | refine o_iaddrO ?_ | refine o_iaddrR ?_ | refine o_bin ?_ | refine o_lenq ?_ | refine o_len ?_ | refine o_loadsA ?_ | refine o_loadpA ?_ | refine o_box ?_ | refine o_alloc ?_ | refine o_bslice ?_ | refine o_store ?_ | refine o_field ?_ | refine o_iaddrA ?_
        exact ct_ret ⟨.inr rfl, oAny rfl⟩
      · have g1 : (((r.k % 12 : Nat) : Int) == 0) = false := by rw [h0]; rfl
        have g2 : (((r.k % 12 : Nat) : Int) == 1) = true := by rw [h0]; rfl
        refine cndf ?_
        repeat first | refine o_copy ?_ | refine nl ?_ | refine ct_seq ?_ | refine rg ?_ | refine ct_block ?_ | refine bq ?_ | refine o_loads ?_ | refine o_loadp ?_ | refine o_faddr ?_ | refine o_iaddr ?_ | refine o_iaddrO ?_ | refine o_iaddrR ?_ | refine o_bin ?_ | refine o_lenq ?_ | refine o_len ?_ | refine o_loadsA ?_ | refine o_loadpA ?_ | refine o_box ?_ | refine o_alloc ?_ | refine o_bslice ?_ | refine o_store ?_ | refine o_field ?_ | refine o_iaddrA ?_
        refine cndt ?_
        repeat first | refine o_copy ?_ | refine nl ?_ | refine ct_seq ?_ | refine rg ?_ | refine ct_block ?_ | refine bq ?_ | refine cv hch ?_ | refine o_v (vaps encL l.held l.waits) ?_ | refine o_loads ?_ | refine o_loadp ?_ | refine o_faddr ?_ | refine o_iaddr ?_ | refine o_iaddrO ?_ | refine o_iaddrR ?_ | refine o_bin ?_ | refine o_lenq ?_ | refine o_len ?_ | refine o_loadsA ?_ | refine o_loadpA ?_ | refine o_box ?_ | refine o_alloc ?_ | refine o_bslice ?_ | refine o_store ?_ | refine o_field ?_ | refine o_iaddrA ?_
        refine cndt ?_
        repeat first | refine o_copy ?_ | refine nl ?_ | refine ct_seq ?_ | refine rg ?_ | refine ct_block ?_ | refine bq ?_ | refine o_convE ?_ | refine o_rem ?_ | refine cf hd ?_ | refine o_loads ?_ | refine o_loadp ?_ | refine o_faddr ?_ | refine o_iaddr ?_ | refine o_iaddrO ?_ | refine o_iaddrR ?_ | refine o_bin ?_ | refine o_lenq ?_ | refine o_len ?_ | refine o_loadsA ?_ | refine o_loadpA ?_ | refine o_box ?_ | refine o_alloc ?_ | refine o_bslice ?_ | refine o_store ?_ | refine o_field ?_ | refine o_iaddrA ?_
        exact ct_ret ⟨.inr rfl, oAny rfl⟩
    · have e : stepL l r = (rtakeL l (lockL r)).1 := by unfold stepL; rw [if_neg (fun h => hP h.2), if_neg (by omega), if_neg (by omega)]
      rw [e]
      have g3 : decide ((((l.held ++ l.waits).map encL).length : Int) > 0) = false := by rw [List.length_map]; simp; omega
      have two : r.k % 12 = 0 ∨ r.k % 12 = 1 := by omega
      refine vc_of vf34 ?_ (Nat.le_of_ble_eq_true rfl) (by intro vs h; cases h)
      repeat first | refine o_copy ?_ | refine nl ?_ | refine ct_seq ?_ | refine rg ?_ | refine ct_block ?_ | refine bq ?_ | refine o_rem ?_ | refine o_loads ?_ | refine o_loadp ?_ | refine o_faddr ?_ | refine o_iaddr ?_ | refine o_iaddrO ?_ | refine o_iaddrR ?_ | refine o_bin ?_ | refine o_lenq ?_ | refine o_len ?_ | refine o_loadsA ?_ | refine o_loadpA ?_ | refine o_box ?_ | refine o_alloc ?_ | refine o_bslice ?_ | refine o_store ?_ | refine o_field ?_ | refine o_iaddrA ?_
      rcases two with h0 | h0
      · have g1 : (((r.k % 12 : Nat) : Int) == 0) = true := by rw [h0]; rfl
        refine cndt (ct_skip ?_)
        refine cndt ?_
        repeat first | refine o_copy ?_ | refine nl ?_ | refine ct_seq ?_ | refine rg ?_ | refine ct_block ?_ | refine bq ?_ | refine cv hch ?_ | refine o_v (vaps encL l.held l.waits) ?_ | refine o_loads ?_ | refine o_loadp ?_ | refine o_faddr ?_ | refine o_iaddr ?_ | refine o_iaddrO ?_ | refine o_iaddrR ?_ | refine o_bin ?_ | refine o_lenq ?_ | refine o_len ?_ | refine o_loadsA ?_ | refine o_loadpA ?_ | refine o_box ?_ | refine o_alloc ?_ | refine o_bslice ?_ | refine o_store ?_ | refine o_field ?_ | refine o_iaddrA ?_
        refine cndf (ct_skip ?_)
        repeat first | refine o_copy ?_ | refine nl ?_ | refine ct_seq ?_ | refine rg ?_ | refine ct_block ?_ | refine bq ?_ | refine cv0 hlk ?_ | refine cf htk ?_ | refine o_loads ?_ | refine o_loadp ?_ | refine o_faddr ?_ | refine o_iaddr ?_ | refine o_iaddrO ?_ | refine o_iaddrR ?_ | refine o_bin ?_ | refine o_lenq ?_ | refine o_len ?_ | refine o_loadsA ?_ | refine o_loadpA ?_ | refine o_box ?_ | refine o_alloc ?_ | refine o_bslice ?_ | refine o_store ?_ | refine o_field ?_ | refine o_iaddrA ?_
        exact ct_ret ⟨.inr rfl, oAny rfl⟩
      · have g1 : (((r.k % 12 : Nat) : Int) == 0) = false := by rw [h0]; rfl
        have g2 : (((r.k % 12 : Nat) : Int) == 1) = true := by rw [h0]; rfl
        refine cndf ?_
        repeat first | refine o_copy ?_ | refine nl ?_ | refine ct_seq ?_ | refine rg ?_ | refine ct_block ?_ | refine bq ?_ | refine o_loads ?_ | refine o_loadp ?_ | refine o_faddr ?_ | refine o_iaddr ?_ | refine o_iaddrO ?_ | refine o_iaddrR ?_ | refine o_bin ?_ | refine o_lenq ?_ | refine o_len ?_ | refine o_loadsA ?_ | refine o_loadpA ?_ | refine o_box ?_ | refine o_alloc ?_ | refine o_bslice ?_ | refine o_store ?_ | refine o_field ?_ | refine o_iaddrA ?_
        refine cndt ?_
        repeat first | refine o_copy ?_ | refine nl ?_ | refine ct_seq ?_ | refine rg ?_ | refine ct_block ?_ | refine bq ?_ | refine cv hch ?_ | refine o_v (vaps encL l.held l.waits) ?_ | refine o_loads ?_ | refine o_loadp ?_ | refine o_faddr ?_ | refine o_iaddr ?_ | refine o_iaddrO ?_ | refine o_iaddrR ?_ | refine o_bin ?_ | refine o_lenq ?_ | refine o_len ?_ | refine o_loadsA ?_ | refine o_loadpA ?_ | refine o_box ?_ | refine o_alloc ?_ | refine o_bslice ?_ | refine o_store ?_ | refine o_field ?_ | refine o_iaddrA ?_
        refine cndf (ct_skip ?_)
        repeat first | refine o_copy ?_ | refine nl ?_ | refine ct_seq ?_ | refine rg ?_ | refine ct_block ?_ | refine bq ?_ | refine cv0 hlk ?_ | refine cf htk ?_ | refine o_loads ?_ | refine o_loadp ?_ | refine o_faddr ?_ | refine o_iaddr ?_ | refine o_iaddrO ?_ | refine o_iaddrR ?_ | refine o_bin ?_ | refine o_lenq ?_ | refine o_len ?_ | refine o_loadsA ?_ | refine o_loadpA ?_ | refine o_box ?_ | refine o_alloc ?_ | refine o_bslice ?_ | refine o_store ?_ | refine o_field ?_ | refine o_iaddrA ?_
        exact ct_ret ⟨.inr rfl, oAny rfl⟩
  have g1 : (((r.k % 12 : Nat) : Int) == 0) = false := by simp; omega
  have g2 : (((r.k % 12 : Nat) : Int) == 1) = false := by simp; omega
  by_cases hB : r.k % 12 = 2
  · have e : stepL l r = (leaveG rmt l (r.a % 5 : Nat)).l := by unfold stepL; rw [if_neg (by omega), if_pos hB]
    rw [e]
    have g3 : (((r.k % 12 : Nat) : Int) == 2) = true := by rw [hB]; rfl
    have m2 : Int.tmod (r.a : Int) 5 = ((r.a % 5 : Nat) : Int) := tm r.a 5
    have w2 : IntKind.i64.wrap ((r.a % 5 : Nat) : Int) = ((r.a % 5 : Nat) : Int) := wrap64 (by omega) (by omega)
    have hlv := rleave_vc hl ((r.a % 5 : Nat) : Int)
    refine vc_of vf34 ?_ (Nat.le_of_ble_eq_true rfl) (by intro vs h; cases h)
    repeat first | refine o_copy ?_ | refine nl ?_ | refine ct_seq ?_ | refine rg ?_ | refine ct_block ?_ | refine bq ?_ | refine o_rem ?_ | refine o_loads ?_ | refine o_loadp ?_ | refine o_faddr ?_ | refine o_iaddr ?_ | refine o_iaddrO ?_ | refine o_iaddrR ?_ | refine o_bin ?_ | refine o_lenq ?_ | refine o_len ?_ | refine o_loadsA ?_ | refine o_loadpA ?_ | refine o_box ?_ | refine o_alloc ?_ | refine o_bslice ?_ | refine o_store ?_ | refine o_field ?_ | refine o_iaddrA ?_
    refine cndf ?_
    repeat first | refine o_copy ?_ | refine nl ?_ | refine ct_seq ?_ | refine rg ?_ | refine ct_block ?_ | refine bq ?_ | refine o_loads ?_ | refine o_loadp ?_ | refine o_faddr ?_ | refine o_iaddr ?_ | refine o_iaddrO ?_ | refine o_iaddrR ?_ | refine o_bin ?_ | refine o_lenq ?_ | refine o_len ?_ | refine o_loadsA ?_ | refine o_loadpA ?_ | refine o_box ?_ | refine o_alloc ?_ | refine o_bslice ?_ | refine o_store ?_ | refine o_field ?_ | refine o_iaddrA ?_
    refine cndf ?_
    repeat first | refine o_copy ?_ | refine nl ?_ | refine ct_seq ?_ | refine rg ?_ | refine ct_block ?_ | refine bq ?_ | refine o_loads ?_ | refine o_loadp ?_ | refine o_faddr ?_ | refine o_iaddr ?_ | refine o_iaddrO ?_ | refine o_iaddrR ?_ | refine o_bin ?_ | refine o_lenq ?_ | refine o_len ?_ | refine o_loadsA ?_ | refine o_loadpA ?_ | refine o_box ?_ | refine o_alloc ?_ | refine o_bslice ?_ | refine o_store ?_ | refine o_field ?_ | refine o_iaddrA ?_
    refine cndt ?_
    repeat first | refine o_copy ?_ | refine nl ?_ | refine ct_seq ?_ | refine rg ?_ | refine ct_block ?_ | refine bq ?_ | refine o_rem ?_ | refine o_convE ?_ | refine cf hlv ?_ | refine o_loads ?_ | refine o_loadp ?_ | refine o_faddr ?_ | refine o_iaddr ?_ | refine o_iaddrO ?_ | refine o_iaddrR ?_ | refine o_bin ?_ | refine o_lenq ?_ | refine o_len ?_ | refine o_loadsA ?_ | refine o_loadpA ?_ | refine o_box ?_ | refine o_alloc ?_ | refine o_bslice ?_ | refine o_store ?_ | refine o_field ?_ | refine o_iaddrA ?_
    exact ct_ret ⟨.inr rfl, oAny rfl⟩
  have g3 : (((r.k % 12 : Nat) : Int) == 2) = false := by simp; omega
  by_cases hC : r.k % 12 = 3
  · have e : stepL l r = movedG rmt l (fromL r.a) (toL r.b) := by unfold stepL; rw [if_neg (by omega), if_neg hB, if_pos hC]
    rw [e]
    have g4 : (((r.k % 12 : Nat) : Int) == 3) = true := by rw [hC]; rfl
    have m2 : Int.tmod (r.a : Int) 2 = ((r.a % 2 : Nat) : Int) := tm r.a 2
    have m3 : Int.tmod (r.b : Int) 2 = ((r.b % 2 : Nat) : Int) := tm r.b 2
    have hxa : [[PV.str [98, 47]], [.str [99, 47]]][((r.a % 2 : Nat) : Int).toNat]? = some [.str (fromL r.a)] := by
      unfold fromL
      rw [Int.toNat_natCast]
      have : r.a % 2 < 2 := Nat.mod_lt _ (by omega)
      generalize r.a % 2 = m at this
      match m, this with
      | 0, _ => rfl
      | 1, _ => rfl
    have hxb : [[PV.str [97, 47]], [.str [100, 47]]][((r.b % 2 : Nat) : Int).toNat]? = some [.str (toL r.b)] := by
      unfold toL
      rw [Int.toNat_natCast]
      have : r.b % 2 < 2 := Nat.mod_lt _ (by omega)
      generalize r.b % 2 = m at this
      match m, this with
      | 0, _ => rfl
      | 1, _ => rfl
    have hmv := rmoved_vc (l := l) (by omega) (fromL r.a) (toL r.b) h1 h2 (by rw [from_len]; omega) (by rw [to_len]; omega)
    have l1 : r.a % 2 < 2 := Nat.mod_lt _ (by omega)
    have l2 : r.b % 2 < 2 := Nat.mod_lt _ (by omega)
    refine vc_of vf34 ?_ (Nat.le_of_ble_eq_true rfl) (by intro vs h; cases h)
    repeat first | refine o_copy ?_ | refine nl ?_ | refine ct_seq ?_ | refine rg ?_ | refine ct_block ?_ | refine bq ?_ | refine o_rem ?_ | refine o_loads ?_ | refine o_loadp ?_ | refine o_faddr ?_ | refine o_iaddr ?_ | refine o_iaddrO ?_ | refine o_iaddrR ?_ | refine o_bin ?_ | refine o_lenq ?_ | refine o_len ?_ | refine o_loadsA ?_ | refine o_loadpA ?_ | refine o_box ?_ | refine o_alloc ?_ | refine o_bslice ?_ | refine o_store ?_ | refine o_field ?_ | refine o_iaddrA ?_
    refine cndf ?_
    repeat first | refine o_copy ?_ | refine nl ?_ | refine ct_seq ?_ | refine rg ?_ | refine ct_block ?_ | refine bq ?_ | refine o_loads ?_ | refine o_loadp ?_ | refine o_faddr ?_ | refine o_iaddr ?_ | refine o_iaddrO ?_ | refine o_iaddrR ?_ | refine o_bin ?_ | refine o_lenq ?_ | refine o_len ?_ | refine o_loadsA ?_ | refine o_loadpA ?_ | refine o_box ?_ | refine o_alloc ?_ | refine o_bslice ?_ | refine o_store ?_ | refine o_field ?_ | refine o_iaddrA ?_
    refine cndf ?_
    repeat first | refine o_copy ?_ | refine nl ?_ | refine ct_seq ?_ | refine rg ?_ | refine ct_block ?_ | refine bq ?_ | refine o_loads ?_ | refine o_loadp ?_ | refine o_faddr ?_ | refine o_iaddr ?_ | refine o_iaddrO ?_ | refine o_iaddrR ?_ | refine o_bin ?_ | refine o_lenq ?_ | refine o_len ?_ | refine o_loadsA ?_ | refine o_loadpA ?_ | refine o_box ?_ | refine o_alloc ?_ | refine o_bslice ?_ | refine o_store ?_ | refine o_field ?_ | refine o_iaddrA ?_
    refine cndf ?_
    repeat first | refine o_copy ?_ | refine nl ?_ | refine ct_seq ?_ | refine rg ?_ | refine ct_block ?_ | refine bq ?_ | refine o_loads ?_ | refine o_loadp ?_ | refine o_faddr ?_ | refine o_iaddr ?_ | refine o_iaddrO ?_ | refine o_iaddrR ?_ | refine o_bin ?_ | refine o_lenq ?_ | refine o_len ?_ | refine o_loadsA ?_ | refine o_loadpA ?_ | refine o_box ?_ | refine o_alloc ?_ | refine o_bslice ?_ | refine o_store ?_ | refine o_field ?_ | refine o_iaddrA ?_
    refine cndt ?_
    repeat first | refine o_copy ?_ | refine nl ?_ | refine ct_seq ?_ | refine rg ?_ | refine ct_block ?_ | refine bq ?_ | refine o_rem ?_ | refine cf hmv ?_ | refine o_loads ?_ | refine o_loadp ?_ | refine o_faddr ?_ | refine o_iaddr ?_ | refine o_iaddrO ?_ | refine o_iaddrR ?_ | refine o_bin ?_ | refine o_lenq ?_ | refine o_len ?_ | refine o_loadsA ?_ | refine o_loadpA ?_ | refine o_box ?_ | refine o_alloc ?_ | refine o_bslice ?_ | refine o_store ?_ | refine o_field ?_ | refine o_iaddrA ?_
    exact ct_ret ⟨.inr rfl, oAny rfl⟩
  have g4 : (((r.k % 12 : Nat) : Int) == 3) = false := by simp; omega
  have e : stepL l r = (rtakeL l (lockL r)).1 := by unfold stepL; rw [if_neg (by omega), if_neg hB, if_neg hC]
  rw [e]
  refine vc_of vf34 ?_ (Nat.le_of_ble_eq_true rfl) (by intro vs h; cases h)
  repeat first | refine o_copy ?_ | refine nl ?_ | refine ct_seq ?_ | refine rg ?_ | refine ct_block ?_ | refine bq ?_ | refine o_rem ?_ | refine o_loads ?_ | refine o_loadp ?_ | refine o_faddr ?_ | refine o_iaddr ?_ | refine o_iaddrO ?_ | refine o_iaddrR ?_ | refine o_bin ?_ | refine o_lenq ?_ | refine o_len ?_ | refine o_loadsA ?_ | refine o_loadpA ?_ | refine o_box ?_ | refine o_alloc ?_ | refine o_bslice ?_ | refine o_store ?_ | refine o_field ?_ | refine o_iaddrA ?_
  refine cndf ?_
  repeat first | refine o_copy ?_ | refine nl ?_ | refine ct_seq ?_ | refine rg ?_ | refine ct_block ?_ | refine bq ?_ | refine o_loads ?_ | refine o_loadp ?_ | refine o_faddr ?_ | refine o_iaddr ?_ | refine o_iaddrO ?_ | refine o_iaddrR ?_ | refine o_bin ?_ | refine o_lenq ?_ | refine o_len ?_ | refine o_loadsA ?_ | refine o_loadpA ?_ | refine o_box ?_ | refine o_alloc ?_ | refine o_bslice ?_ | refine o_store ?_ | refine o_field ?_ | refine o_iaddrA ?_
  refine cndf ?_
  repeat first | refine o_copy ?_ | refine nl ?_ | refine ct_seq ?_ | refine rg ?_ | refine ct_block ?_ | refine bq ?_ | refine o_loads ?_ | refine o_loadp ?_ | refine o_faddr ?_ | refine o_iaddr ?_ | refine o_iaddrO ?_ | refine o_iaddrR ?_ | refine o_bin ?_ | refine o_lenq ?_ | refine o_len ?_ | refine o_loadsA ?_ | refine o_loadpA ?_ | refine o_box ?_ | refine o_alloc ?_ | refine o_bslice ?_ | refine o_store ?_ | refine o_field ?_ | refine o_iaddrA ?_
  refine cndf ?_
  repeat first | refine o_copy ?_ | refine nl ?_ | refine ct_seq ?_ | refine rg ?_ | refine ct_block ?_ | refine bq ?_ | refine o_loads ?_ | refine o_loadp ?_ | refine o_faddr ?_ | refine o_iaddr ?_ | refine o_iaddrO ?_ | refine o_iaddrR ?_ | refine o_bin ?_ | refine o_lenq ?_ | refine o_len ?_ | refine o_loadsA ?_ | refine o_loadpA ?_ | refine o_box ?_ | refine o_alloc ?_ | refine o_bslice ?_ | refine o_store ?_ | refine o_field ?_ | refine o_iaddrA ?_
  refine cndf (ct_skip ?_)
  repeat first | refine o_copy ?_ | refine nl ?_ | refine ct_seq ?_ | refine rg ?_ | refine ct_block ?_ | refine bq ?_ | refine cv0 hlk ?_ | refine cf htk ?_ | refine o_loads ?_ | refine o_loadp ?_ | refine o_faddr ?_ | refine o_iaddr ?_ | refine o_iaddrO ?_ | refine o_iaddrR ?_ | refine o_bin ?_ | refine o_lenq ?_ | refine o_len ?_ | refine o_loadsA ?_ | refine o_loadpA ?_ | refine o_box ?_ | refine o_alloc ?_ | refine o_bslice ?_ | refine o_store ?_ | refine o_field ?_ | refine o_iaddrA ?_
  exact ct_ret ⟨.inr rfl, oAny rfl⟩
end Go.Proofs
open Go.V Go.Pu
set_option linter.unusedVariables false
set_option linter.unusedSimpArgs false
set_option maxRecDepth 20000
namespace Go.Proofs
theorem play_step {rs : List RawL} {i : Nat} {r : RawL} (h : rs[i]? = some r) : playL (rs.take (i + 1)) = stepL (playL (rs.take i)) r := by
  unfold playL
  rw [List.take_add_one, h, Option.toList, List.foldl_append]
  rfl
theorem scr_five {l : LocksL} {n : Nat} (h : ScrP n l) : lenP l.held 100000000 ∧ lenP l.waits 100000000 := by
  constructor
  · intro y hy
    have := five_len (h.p y (by simp [hy])); omega
  · intro y hy
    have := five_len (h.p y (by simp [hy])); omega
set_option maxHeartbeats 2000000 in
theorem play_vc {rs : List RawL} (hl : rs.length ≤ 9223372036854775807) (hr : ∀ r ∈ rs, r.ok) (n : Nat) (hn : n ≤ 1000) : VC Try.prog 12 [.sh false (rs.map encR), .int .i64 n] [] (.agg (encLs (playL (rs.take n)))) [] := by
  have hrl : (rs.map encR).length = rs.length := List.length_map _
  refine vc_of vf12 ?_ (Nat.le_of_ble_eq_true rfl) (by intro vs h; cases h)
  have hst : ∀ i r, rs[i]? = some r → VC Try.prog 34 [.agg (encLs (playL (rs.take i))), .agg (encR r)] [] (.agg (encLs (playL (rs.take (i + 1))))) [] := by
    intro i r h
    have h1 := play_scr (rs.take i)
    obtain ⟨p1, p2⟩ := scr_five h1
    rw [play_step h]
    exact step_vc (by have := h1.s.len; omega) p1 p2 (hr r (List.mem_of_getElem? h))
  refine ct_seq (rg ?_)
  repeat first | refine o_copy ?_ | refine o_iaddr ?_ | refine o_iaddrO ?_ | refine o_iaddrR ?_ | refine o_add ?_ | refine o_cat ?_ | refine o_bin ?_ | refine o_lenq ?_ | refine o_len ?_ | refine o_loadsA ?_ | refine o_loadpA ?_ | refine o_alloc ?_ | refine o_store ?_ | refine o_pickt ?_ | refine o_pickf ?_ | refine o_build ?_ | refine skF ?_ | refine skU ?_
  refine nl ?_
  refine ct_seq (rg ?_)
  repeat first | refine o_copy ?_ | refine o_iaddr ?_ | refine o_iaddrO ?_ | refine o_iaddrR ?_ | refine o_add ?_ | refine o_cat ?_ | refine o_bin ?_ | refine o_lenq ?_ | refine o_len ?_ | refine o_loadsA ?_ | refine o_loadpA ?_ | refine o_alloc ?_ | refine o_store ?_ | refine o_pickt ?_ | refine o_pickf ?_ | refine o_build ?_ | refine skF ?_ | refine skU ?_
  refine nl ?_
  refine ct_imp ((Imp.wkC (b1 := ⟨1, 8200⟩) 0 rfl rfl (CLe.nils (ex := false)) rfl rfl).trans (Imp.wkC (b1 := ⟨1, 8200⟩) 1 rfl rfl (CLe.nils (ex := false)) rfl rfl)) ?_
  repeat first | refine o_copy ?_ | refine nl ?_ | refine ct_seq ?_ | refine rg ?_ | refine ct_block ?_ | refine bq ?_ | refine o_iaddr ?_ | refine o_iaddrO ?_ | refine o_iaddrR ?_ | refine o_add ?_ | refine o_cat ?_ | refine o_bin ?_ | refine o_lenq ?_ | refine o_len ?_ | refine o_loadsA ?_ | refine o_loadpA ?_ | refine o_alloc ?_ | refine o_store ?_ | refine o_pickt ?_ | refine o_pickf ?_ | refine o_build ?_ | refine skF ?_ | refine skU ?_
  refine ct_loopG (fun (g : Nat) => [(0, .sh false (rs.map encR)), (1, .int .i64 n), (4, .ptr ⟨1, 0⟩ 1 0 0), (5, .ptr ⟨1, 8200⟩ 1 0 0), (6, .int .i64 g)]) (fun g => [(⟨1, 0⟩, ⟨true, false, 2, [[.nils, .nils]]⟩), (⟨1, 8200⟩, ⟨true, false, 2, [encLs (playL (rs.take g))]⟩)]) (fun g => rs.length - g)
    (fun g => g ≤ rs.length ∧ g ≤ n) 0 goesD ⟨Nat.zero_le _, Nat.zero_le _⟩ ?_
  rintro i ⟨hi, hin⟩
  dsimp only at hi hin ⊢
  by_cases hA : i < rs.length
  · have g1 : decide ((i : Int) < (rs.map encR).length) = true := by rw [hrl]; simp; omega
    obtain ⟨r, hx⟩ : ∃ y, rs[i]? = some y := ⟨_, List.getElem?_eq_getElem hA⟩
    have hxe := gm (enc := encR) (n := (i : Int)) hx (by omega)
    have hs := hst i r hx
    by_cases hB : i < n
    · have g2 : decide ((i : Int) < (n : Int)) = true := by simp; omega
      repeat first | refine o_copy ?_ | refine nl ?_ | refine ct_seq ?_ | refine rg ?_ | refine ct_block ?_ | refine bq ?_ | refine o_iaddr ?_ | refine o_iaddrO ?_ | refine o_iaddrR ?_ | refine o_add ?_ | refine o_cat ?_ | refine o_bin ?_ | refine o_lenq ?_ | refine o_len ?_ | refine o_loadsA ?_ | refine o_loadpA ?_ | refine o_alloc ?_ | refine o_store ?_ | refine o_pickt ?_ | refine o_pickf ?_ | refine o_build ?_ | refine skF ?_ | refine skU ?_
      refine cndt (ct_skip ?_)
      repeat first | refine o_copy ?_ | refine nl ?_ | refine ct_seq ?_ | refine rg ?_ | refine ct_block ?_ | refine bq ?_ | refine cf hs ?_ | refine o_iaddr ?_ | refine o_iaddrO ?_ | refine o_iaddrR ?_ | refine o_add ?_ | refine o_cat ?_ | refine o_bin ?_ | refine o_lenq ?_ | refine o_len ?_ | refine o_loadsA ?_ | refine o_loadpA ?_ | refine o_alloc ?_ | refine o_store ?_ | refine o_pickt ?_ | refine o_pickf ?_ | refine o_build ?_ | refine skF ?_ | refine skU ?_
      exact agn (i + 1) ⟨by omega, by omega⟩ goesD
    · have g2 : decide ((i : Int) < (n : Int)) = false := by simp; omega
      have he : rs.take n = rs.take i := by rw [show i = n by omega]
      repeat first | refine o_copy ?_ | refine nl ?_ | refine ct_seq ?_ | refine rg ?_ | refine ct_block ?_ | refine bq ?_ | refine o_iaddr ?_ | refine o_iaddrO ?_ | refine o_iaddrR ?_ | refine o_add ?_ | refine o_cat ?_ | refine o_bin ?_ | refine o_lenq ?_ | refine o_len ?_ | refine o_loadsA ?_ | refine o_loadpA ?_ | refine o_alloc ?_ | refine o_store ?_ | refine o_pickt ?_ | refine o_pickf ?_ | refine o_build ?_ | refine skF ?_ | refine skU ?_
      refine cndf (ct_exit ?_)
      repeat first | refine o_copy ?_ | refine nl ?_ | refine ct_seq ?_ | refine rg ?_ | refine ct_block ?_ | refine bq ?_ | refine o_iaddr ?_ | refine o_iaddrO ?_ | refine o_iaddrR ?_ | refine o_add ?_ | refine o_cat ?_ | refine o_bin ?_ | refine o_lenq ?_ | refine o_len ?_ | refine o_loadsA ?_ | refine o_loadpA ?_ | refine o_alloc ?_ | refine o_store ?_ | refine o_pickt ?_ | refine o_pickf ?_ | refine o_build ?_ | refine skF ?_ | refine skU ?_
      refine ct_ret ⟨.inr rfl, ?_⟩
      rw [he]
      exact oAny rfl
  · have g1 : decide ((i : Int) < (rs.map encR).length) = false := by rw [hrl]; simp; omega
    have he : rs.take n = rs.take i := by rw [List.take_of_length_le (by omega), List.take_of_length_le (by omega)]
    repeat first | refine o_copy ?_ | refine nl ?_ | refine ct_seq ?_ | refine rg ?_ | refine ct_block ?_ | refine bq ?_ | refine o_iaddr ?_ | refine o_iaddrO ?_ | refine o_iaddrR ?_ | refine o_add ?_ | refine o_cat ?_ | refine o_bin ?_ | refine o_lenq ?_ | refine o_len ?_ | refine o_loadsA ?_ | refine o_loadpA ?_ | refine o_alloc ?_ | refine o_store ?_ | refine o_pickt ?_ | refine o_pickf ?_ | refine o_build ?_ | refine skF ?_ | refine skU ?_
    refine cndf (ct_exit ?_)
    repeat first | refine o_copy ?_ | refine nl ?_ | refine ct_seq ?_ | refine rg ?_ | refine ct_block ?_ | refine bq ?_ | refine o_iaddr ?_ | refine o_iaddrO ?_ | refine o_iaddrR ?_ | refine o_add ?_ | refine o_cat ?_ | refine o_bin ?_ | refine o_lenq ?_ | refine o_len ?_ | refine o_loadsA ?_ | refine o_loadpA ?_ | refine o_alloc ?_ | refine o_store ?_ | refine o_pickt ?_ | refine o_pickf ?_ | refine o_build ?_ | refine skF ?_ | refine skU ?_
    refine ct_ret ⟨.inr rfl, ?_⟩
    rw [he]
    exact oAny rfl
end Go.Proofs
open Go.V Go.Pu
set_option linter.unusedVariables false
set_option linter.unusedSimpArgs false
set_option maxRecDepth 20000
namespace Go.Proofs
/-- downspout/lock.meets$1 -/
def vc58 : VCode :=
 (.seq
 (.region 0 false [
 ⟨(some 2), .box (.t 0), none, 0, []⟩,
 ⟨(some 3), .copy (.c (.bool false)), none, 8, []⟩])
 (.seq
 (.region 1 false [
 ⟨(some 4), .load true 5 (.t 1), none, 8192, []⟩,
 ⟨(some 5), .load true 5 (.t 2), none, 8200, []⟩,
 ⟨(some 6), .call (.c (.fn 59 [])) [(.t 4), (.t 5)], none, 8208, [0, 1]⟩,
 ⟨(some 3), .copy (.t 6), none, 8216, [2, 0, 1]⟩])
 .ret))
theorem vf58 : VF Try.prog 58 = some (7, vc58, [.tmp 3]) := by kernel_rfl
/-- downspout/lock.meets$2 -/
def vc61 : VCode :=
 (.seq
 (.region 0 false [
 ⟨(some 3), .copy (.c (.bool false)), none, 0, []⟩])
 (.seq
 (.region 1 false [
 ⟨(some 4), .copy (.t 0), none, 8192, []⟩,
 ⟨(some 5), .load false 1 (.t 1), none, 8200, []⟩,
 ⟨(some 6), .call (.c (.fn 62 [])) [(.t 4), (.t 5)], none, 8208, [0, 1]⟩,
 ⟨(some 3), .copy (.t 6), none, 8216, [2, 0, 1]⟩])
 .ret))
theorem vf61 : VF Try.prog 61 = some (7, vc61, [.tmp 3]) := by kernel_rfl
/-- slices.ContainsFunc[[][]downspout/api.Lock,[]downspout/api.Lock] -/
def vc60 : VCode :=
 (.seq
 (.region 0 false [
 ⟨(some 4), .copy (.c (.bool false)), none, 0, []⟩])
 (.seq
 (.region 1 false [
 ⟨(some 5), .copy (.t 0), none, 8192, []⟩,
 ⟨(some 6), .copy (.t 1), none, 8200, []⟩,
 ⟨(some 7), .call (.c (.fn 68 [])) [(.t 5), (.t 6)], none, 8208, [0, 1]⟩,
 ⟨(some 8), .bin .geq (.t 7) (.c (.int .i64 0)), none, 8216, [2, 0, 1]⟩,
 ⟨(some 4), .copy (.t 8), none, 8224, [3, 2, 0, 1]⟩])
 .ret))
theorem vf60 : VF Try.prog 60 = some (9, vc60, [.tmp 4]) := by kernel_rfl
/-- slices.IndexFunc[[][]downspout/api.Lock,[]downspout/api.Lock] -/
def vc68 : VCode :=
 (.seq
 (.region 0 false [
 ⟨(some 4), .copy (.c (.int .i64 0)), none, 0, []⟩])
 (.seq
 (.seq
 (.region 1 false [
 ⟨(some 6), .copy (.t 0), none, 8192, []⟩,
 ⟨(some 7), .len (.t 6), none, 8200, [0]⟩,
 ⟨(some 8), .copy (.c (.int .i64 0)), none, 8208, []⟩])
 (.block 0
 (.loop
 (.seq
 (.region 2 false [
 ⟨(some 9), .bin .lss (.t 8) (.t 7), none, 16384, []⟩])
 (.seq
 (.cond (.t 9)
 .skip
 (.exit 0))
 (.seq
 (.block 1
 (.seq
 (.region 3 false [
 ⟨(some 10), .copy (.t 8), none, 24576, []⟩,
 ⟨(some 5), .copy (.t 10), none, 24584, [0]⟩])
 (.seq
 (.region 4 false [
 ⟨(some 11), .copy (.t 1), none, 32768, []⟩,
 ⟨(some 12), .copy (.t 0), none, 32776, []⟩,
 ⟨(some 13), .copy (.t 5), none, 32784, []⟩,
 ⟨(some 14), .iaddr 1 (.t 12) (.t 13), none, 32792, [1, 2]⟩,
 ⟨(some 15), .load false 1 (.t 14), none, 32800, [3, 1, 2]⟩,
 ⟨(some 16), .call (.t 11) [(.t 15)], none, 32808, [0, 4, 3, 1, 2]⟩])
 (.cond (.t 16)
 (.seq
 (.region 5 false [
 ⟨(some 17), .copy (.t 5), none, 40960, []⟩,
 ⟨(some 4), .copy (.t 17), none, 40968, [0]⟩])
 .ret)
 .skip))))
 (.region 6 false [
 ⟨(some 18), .bin .add (.t 8) (.c (.int .i64 1)), none, 49152, []⟩,
 ⟨(some 8), .copy (.t 18), none, 49160, [0]⟩])))))))
 (.seq
 (.region 7 false [
 ⟨(some 4), .copy (.c (.int .i64 (-1))), none, 57344, []⟩])
 .ret)))
theorem vf68 : VF Try.prog 68 = some (19, vc68, [.tmp 4]) := by kernel_rfl
/-- slices.ContainsFunc[[]downspout/api.Lock,downspout/api.Lock] -/
def vc62 : VCode :=
 (.seq
 (.region 0 false [
 ⟨(some 4), .copy (.c (.bool false)), none, 0, []⟩])
 (.seq
 (.region 1 false [
 ⟨(some 5), .copy (.t 0), none, 8192, []⟩,
 ⟨(some 6), .copy (.t 1), none, 8200, []⟩,
 ⟨(some 7), .call (.c (.fn 69 [])) [(.t 5), (.t 6)], none, 8208, [0, 1]⟩,
 ⟨(some 8), .bin .geq (.t 7) (.c (.int .i64 0)), none, 8216, [2, 0, 1]⟩,
 ⟨(some 4), .copy (.t 8), none, 8224, [3, 2, 0, 1]⟩])
 .ret))
theorem vf62 : VF Try.prog 62 = some (9, vc62, [.tmp 4]) := by kernel_rfl
/-- slices.IndexFunc[[]downspout/api.Lock,downspout/api.Lock] -/
def vc69 : VCode :=
 (.seq
 (.region 0 false [
 ⟨(some 4), .copy (.c (.int .i64 0)), none, 0, []⟩])
 (.seq
 (.seq
 (.region 1 false [
 ⟨(some 6), .copy (.t 0), none, 8192, []⟩,
 ⟨(some 7), .len (.t 6), none, 8200, [0]⟩,
 ⟨(some 8), .copy (.c (.int .i64 0)), none, 8208, []⟩])
 (.block 0
 (.loop
 (.seq
 (.region 2 false [
 ⟨(some 9), .bin .lss (.t 8) (.t 7), none, 16384, []⟩])
 (.seq
 (.cond (.t 9)
 .skip
 (.exit 0))
 (.seq
 (.block 1
 (.seq
 (.region 3 false [
 ⟨(some 10), .copy (.t 8), none, 24576, []⟩,
 ⟨(some 5), .copy (.t 10), none, 24584, [0]⟩])
 (.seq
 (.region 4 false [
 ⟨(some 11), .copy (.t 1), none, 32768, []⟩,
 ⟨(some 12), .copy (.t 0), none, 32776, []⟩,
 ⟨(some 13), .copy (.t 5), none, 32784, []⟩,
 ⟨(some 14), .iaddr 5 (.t 12) (.t 13), none, 32792, [1, 2]⟩,
 ⟨(some 15), .load true 5 (.t 14), none, 32800, [3, 1, 2]⟩,
 ⟨(some 16), .call (.t 11) [(.t 15)], none, 32808, [0, 4, 3, 1, 2]⟩])
 (.cond (.t 16)
 (.seq
 (.region 5 false [
 ⟨(some 17), .copy (.t 5), none, 40960, []⟩,
 ⟨(some 4), .copy (.t 17), none, 40968, [0]⟩])
 .ret)
 .skip))))
 (.region 6 false [
 ⟨(some 18), .bin .add (.t 8) (.c (.int .i64 1)), none, 49152, []⟩,
 ⟨(some 8), .copy (.t 18), none, 49160, [0]⟩])))))))
 (.seq
 (.region 7 false [
 ⟨(some 4), .copy (.c (.int .i64 (-1))), none, 57344, []⟩])
 .ret)))
theorem vf69 : VF Try.prog 69 = some (19, vc69, [.tmp 4]) := by kernel_rfl
/-- downspout/lock.meets -/
def vc39 : VCode :=
 (.seq
 (.region 0 false [
 ⟨(some 2), .box (.t 0), none, 0, []⟩,
 ⟨(some 4), .copy (.c (.bool false)), none, 8, []⟩])
 (.seq
 (.region 1 false [
 ⟨(some 6), .fn 58 [(.t 2)], none, 8192, []⟩,
 ⟨(some 5), .alloc [.nilf], none, 8200, []⟩,
 ⟨none, .store 1 (.t 5) (.t 6), none, 8208, [1, 0]⟩])
 (.seq
 (.region 2 false [
 ⟨(some 7), .copy (.t 1), none, 16384, []⟩,
 ⟨(some 8), .fn 61 [(.t 5)], none, 16392, []⟩,
 ⟨(some 9), .call (.c (.fn 60 [])) [(.t 7), (.t 8)], none, 16400, [0, 1]⟩,
 ⟨(some 4), .copy (.t 9), none, 16408, [2, 0, 1]⟩])
 .ret)))
theorem vf39 : VF Try.prog 39 = some (10, vc39, [.tmp 4]) := by kernel_rfl
/-- downspout/lock.Allows -/
def vc16 : VCode :=
 (.seq
 (.region 0 false [
 ⟨(some 2), .box (.t 0), none, 0, []⟩,
 ⟨(some 3), .box (.t 1), none, 8, []⟩,
 ⟨(some 4), .copy (.c (.bool false)), none, 16, []⟩])
 (.seq
 (.region 1 false [
 ⟨(some 5), .load true 5 (.t 3), none, 8192, []⟩,
 ⟨(some 6), .call (.c (.fn 38 [])) [(.t 5)], none, 8200, [0]⟩,
 ⟨(some 7), .copy (.t 6), none, 8208, [1, 0]⟩,
 ⟨(some 8), .load true 5 (.t 3), (some (2, 7, true)), 8216, [2, 1, 0]⟩,
 ⟨(some 9), .faddr 0 (.t 2), (some (2, 7, true)), 8224, [2, 1, 0]⟩,
 ⟨(some 10), .load false 1 (.t 9), (some (2, 7, true)), 8232, [4, 2, 1, 0]⟩,
 ⟨(some 11), .faddr 1 (.t 2), (some (2, 7, true)), 8240, [2, 1, 0]⟩,
 ⟨(some 12), .load false 1 (.t 11), (some (2, 7, true)), 8248, [6, 2, 1, 0]⟩,
 ⟨(some 13), .bslice 1 [.nils] 2 [(0, (.t 10)), (1, (.t 12))], (some (2, 7, true)), 8256, [5, 4, 2, 1, 0, 7, 6]⟩,
 ⟨(some 14), .call (.c (.fn 39 [])) [(.t 8), (.t 13)], (some (2, 7, true)), 8264, [3, 2, 1, 0, 8, 5, 4, 7, 6]⟩,
 ⟨(some 15), .not (.t 14), (some (2, 7, true)), 8272, [9, 3, 2, 1, 0, 8, 5, 4, 7, 6]⟩,
 ⟨(some 16), .pick (.t 7) (.t 15) (.c (.bool false)), none, 8280, [2, 1, 0, 10, 9, 3, 8, 5, 4, 7, 6]⟩,
 ⟨(some 4), .copy (.t 16), none, 8288, [11, 2, 1, 0, 10, 9, 3, 8, 5, 4, 7, 6]⟩])
 .ret))
theorem vf16 : VF Try.prog 16 = some (17, vc16, [.tmp 4]) := by kernel_rfl
abbrev bxL (x : LockL) : Blk := ⟨true, false, 5, [encL x]⟩
abbrev bxF (b : Bid) : Blk := ⟨true, false, 1, [[.fn 58 [.ptr b 1 0 0]]]⟩
theorem m1_vc (x y : LockL) : VC Try.prog 58 [.agg (encL y), .ptr ⟨0, 0⟩ 1 0 0] [bxL x] (.bool (confL x y)) [bxL x] := by
  refine vc_of vf58 ?_ (Nat.le_of_ble_eq_true rfl) (by intro vs h; cases h)
  repeat first | refine o_copy ?_ | refine nl ?_ | refine ct_seq ?_ | refine rg ?_ | refine ct_block ?_ | refine bq ?_ | refine cv0 (conf_vc x y) ?_ | refine o_loadsA ?_ | refine o_loadpA ?_ | refine o_box ?_
  refine ct_ret ⟨.inr rfl, ?_⟩
  exact oG []
/-- The place of the first that is so, or -1. -/
def idxI {α : Type} (p : α → Bool) (l : List α) : Int := if l.any p = true then (l.findIdx p : Nat) else -1
theorem idx_found {α : Type} {p : α → Bool} {l : List α} {i : Nat} {x : α} (hx : l[i]? = some x) (hp : p x = true) (hv : (l.take i).any p = false) : idxI p l = (i : Int) := by
  have hls : l = l.take i ++ x :: l.drop (i + 1) := by rw [← drop_get hx, List.take_append_drop]
  have hi : i < l.length := (List.getElem?_eq_some_iff.1 hx).1
  have ha : l.any p = true := by rw [hls]; simp [hp]
  unfold idxI
  rw [if_pos ha]
  have : l.findIdx p = i := by
    rw [hls, List.findIdx_append, if_neg]
    · simp [List.findIdx_cons, hp]; omega
    · have h3 : ∀ y ∈ l.take i, p y = false := by simpa using hv
      intro h4
      have := List.findIdx_getElem (w := h4)
      rw [h3 _ (List.getElem_mem _)] at this
      cases this
  rw [this]
theorem idx_ge {α : Type} (p : α → Bool) (l : List α) : decide (idxI p l ≥ 0) = l.any p := by
  unfold idxI
  cases h : l.any p <;> simp
theorem idx1_vc {l : List LockL} (hl : l.length ≤ 60000) (x : LockL) : VC Try.prog 69 [.sh false (l.map encL), (.fn 58 [.ptr ⟨0, 0⟩ 1 0 0])] [bxL x] (.int .i64 (idxI (confL x) l)) [bxL x] := by
  refine vc_of vf69 ?_ (Nat.le_of_ble_eq_true rfl) (by intro vs h; cases h)
  repeat first | refine o_copy ?_ | refine nl ?_ | refine ct_seq ?_ | refine rg ?_ | refine ct_block ?_ | refine bq ?_ | refine o_iaddr ?_ | refine o_iaddrO ?_ | refine o_iaddrR ?_ | refine o_add ?_ | refine o_cat ?_ | refine o_bin ?_ | refine o_lenq ?_ | refine o_len ?_ | refine o_loadsA ?_ | refine o_loadpA ?_
  refine ct_loopG (fun (g : Nat) => [(0, .sh false (l.map encL)), (1, (.fn 58 [.ptr ⟨0, 0⟩ 1 0 0])), (7, .int .i64 (l.map encL).length), (8, .int .i64 g)]) (fun g => [(⟨0, 0⟩, bxL x)]) (fun g => l.length - g)
    (fun g => g ≤ l.length ∧ (l.take g).any (confL x) = false) 0 goesD ⟨Nat.zero_le _, rfl⟩ ?_
  rintro i ⟨hi, hv⟩
  (try dsimp only at hi hv ⊢)
  repeat first | refine o_copy ?_ | refine nl ?_ | refine ct_seq ?_ | refine rg ?_ | refine ct_block ?_ | refine bq ?_ | refine o_iaddr ?_ | refine o_iaddrO ?_ | refine o_iaddrR ?_ | refine o_add ?_ | refine o_cat ?_ | refine o_bin ?_ | refine o_lenq ?_ | refine o_len ?_ | refine o_loadsA ?_ | refine o_loadpA ?_
  refine cnd (fun h => ct_skip ?_) (fun h => ct_exit ?_)
  · have hlt : i < l.length := by have h' := of_decide_eq_true h; simp only [List.length_map] at h'; omega
    obtain ⟨y, hy⟩ : ∃ y, l[i]? = some y := ⟨_, List.getElem?_eq_getElem hlt⟩
    have hxe := gm (enc := encL) (n := (i : Int)) hy (by omega)
    repeat first | refine o_copy ?_ | refine nl ?_ | refine ct_seq ?_ | refine rg ?_ | refine ct_block ?_ | refine bq ?_ | refine cl (lent := [⟨0, 0⟩]) (m1_vc x y) ?_ | refine o_iaddr ?_ | refine o_iaddrO ?_ | refine o_iaddrR ?_ | refine o_add ?_ | refine o_cat ?_ | refine o_bin ?_ | refine o_lenq ?_ | refine o_len ?_ | refine o_loadsA ?_ | refine o_loadpA ?_
    refine cnd (fun h2 => ?_) (fun h2 => ct_skip ?_)
    · repeat first | refine o_copy ?_ | refine nl ?_ | refine ct_seq ?_ | refine rg ?_ | refine ct_block ?_ | refine bq ?_ | refine o_iaddr ?_ | refine o_iaddrO ?_ | refine o_iaddrR ?_ | refine o_add ?_ | refine o_cat ?_ | refine o_bin ?_ | refine o_lenq ?_ | refine o_len ?_ | refine o_loadsA ?_ | refine o_loadpA ?_
      refine ct_ret ⟨.inr rfl, ?_⟩
      rw [idx_found hy h2 hv]
      exact oG []
    · repeat first | refine o_copy ?_ | refine nl ?_ | refine ct_seq ?_ | refine rg ?_ | refine ct_block ?_ | refine bq ?_ | refine o_iaddr ?_ | refine o_iaddrO ?_ | refine o_iaddrR ?_ | refine o_add ?_ | refine o_cat ?_ | refine o_bin ?_ | refine o_lenq ?_ | refine o_len ?_ | refine o_loadsA ?_ | refine o_loadpA ?_
      refine agn (Q := fun _ _ => True) (i + 1) ⟨by omega, ?_⟩ goesD
      rw [List.take_add_one, hy]
      simp only [Option.toList, List.any_append, List.any_cons, List.any_nil, h2, Bool.or_false] at hv ⊢
      exact hv
  · have hge : i = l.length := by have h' := of_decide_eq_false h; simp only [List.length_map] at h'; omega
    subst hge
    rw [List.take_length] at hv
    repeat first | refine o_copy ?_ | refine nl ?_ | refine ct_seq ?_ | refine rg ?_ | refine ct_block ?_ | refine bq ?_ | refine o_iaddr ?_ | refine o_iaddrO ?_ | refine o_iaddrR ?_ | refine o_add ?_ | refine o_cat ?_ | refine o_bin ?_ | refine o_lenq ?_ | refine o_len ?_ | refine o_loadsA ?_ | refine o_loadpA ?_
    refine ct_ret ⟨.inr rfl, ?_⟩
    have e : idxI (confL x) l = -1 := by unfold idxI; rw [if_neg (by simp [hv])]
    rw [e]
    exact oG []
theorem cont1_vc {l : List LockL} (hl : l.length ≤ 60000) (x : LockL) : VC Try.prog 62 [.sh false (l.map encL), .fn 58 [.ptr ⟨0, 0⟩ 1 0 0]] [bxL x] (.bool (meetsL x l)) [bxL x] := by
  have h := idx1_vc hl x
  have e : meetsL x l = decide (idxI (confL x) l ≥ 0) := by rw [idx_ge]; rfl
  rw [e]
  refine vc_of vf62 ?_ (Nat.le_of_ble_eq_true rfl) (by intro vs h; cases h)
  repeat first | refine o_copy ?_ | refine nl ?_ | refine ct_seq ?_ | refine rg ?_ | refine ct_block ?_ | refine bq ?_ | refine cl (lent := [⟨0, 0⟩]) h ?_ | refine o_bin ?_
  refine ct_ret ⟨.inr rfl, ?_⟩
  exact oG []
theorem m2_vc {l : List LockL} (hl : l.length ≤ 60000) (x : LockL) : VC Try.prog 61 [.sh false (l.map encL), .ptr ⟨0, 1⟩ 1 0 0] [bxL x, bxF ⟨0, 0⟩] (.bool (meetsL x l)) [bxL x, bxF ⟨0, 0⟩] := by
  refine vc_of vf61 ?_ (Nat.le_of_ble_eq_true rfl) (by intro vs h; cases h)
  repeat first | refine o_copy ?_ | refine nl ?_ | refine ct_seq ?_ | refine rg ?_ | refine ct_block ?_ | refine bq ?_ | refine cl (lent := [⟨0, 0⟩]) (cont1_vc hl x) ?_ | refine o_loads ?_ | refine o_loadp ?_
  refine ct_ret ⟨.inr rfl, ?_⟩
  exact oG []
abbrev encLL (l : List LockL) : List PV := [.sh false (l.map encL)]
theorem idx2_vc {ls : List (List LockL)} (hn : ls.length ≤ 60000) (hl : ∀ l ∈ ls, l.length ≤ 60000) (x : LockL) : VC Try.prog 68 [.sh false (ls.map encLL), .fn 61 [.ptr ⟨0, 1⟩ 1 0 0]] [bxL x, bxF ⟨0, 0⟩] (.int .i64 (idxI (meetsL x) ls)) [bxL x, bxF ⟨0, 0⟩] := by
  refine vc_of vf68 ?_ (Nat.le_of_ble_eq_true rfl) (by intro vs h; cases h)
  repeat first | refine o_copy ?_ | refine nl ?_ | refine ct_seq ?_ | refine rg ?_ | refine ct_block ?_ | refine bq ?_ | refine o_loads ?_ | refine o_loadp ?_ | refine o_iaddr ?_ | refine o_iaddrO ?_ | refine o_iaddrR ?_ | refine o_add ?_ | refine o_cat ?_ | refine o_bin ?_ | refine o_lenq ?_ | refine o_len ?_
  refine ct_loopG (fun (g : Nat) => [(0, .sh false (ls.map encLL)), (1, .fn 61 [.ptr ⟨0, 1⟩ 1 0 0]), (7, .int .i64 (ls.map encLL).length), (8, .int .i64 g)]) (fun g => [(⟨0, 0⟩, bxL x), (⟨0, 1⟩, bxF ⟨0, 0⟩)]) (fun g => ls.length - g)
    (fun g => g ≤ ls.length ∧ (ls.take g).any (meetsL x) = false) 0 goesD ⟨Nat.zero_le _, rfl⟩ ?_
  rintro i ⟨hi, hv⟩
  (try dsimp only at hi hv ⊢)
  repeat first | refine o_copy ?_ | refine nl ?_ | refine ct_seq ?_ | refine rg ?_ | refine ct_block ?_ | refine bq ?_ | refine o_loads ?_ | refine o_loadp ?_ | refine o_iaddr ?_ | refine o_iaddrO ?_ | refine o_iaddrR ?_ | refine o_add ?_ | refine o_cat ?_ | refine o_bin ?_ | refine o_lenq ?_ | refine o_len ?_
  refine cnd (fun h => ct_skip ?_) (fun h => ct_exit ?_)
  · have hlt : i < ls.length := by have h' := of_decide_eq_true h; simp only [List.length_map] at h'; omega
    obtain ⟨y, hy⟩ : ∃ y, ls[i]? = some y := ⟨_, List.getElem?_eq_getElem hlt⟩
    have hxe := gm (enc := encLL) (n := (i : Int)) hy (by omega)
    have hm := m2_vc (hl y (List.mem_of_getElem? hy)) x
    repeat first | refine o_copy ?_ | refine nl ?_ | refine ct_seq ?_ | refine rg ?_ | refine ct_block ?_ | refine bq ?_ | refine cl (lent := [⟨0, 0⟩, ⟨0, 1⟩]) hm ?_ | refine o_loads ?_ | refine o_loadp ?_ | refine o_iaddr ?_ | refine o_iaddrO ?_ | refine o_iaddrR ?_ | refine o_add ?_ | refine o_cat ?_ | refine o_bin ?_ | refine o_lenq ?_ | refine o_len ?_
    refine cnd (fun h2 => ?_) (fun h2 => ct_skip ?_)
    · repeat first | refine o_copy ?_ | refine nl ?_ | refine ct_seq ?_ | refine rg ?_ | refine ct_block ?_ | refine bq ?_ | refine o_loads ?_ | refine o_loadp ?_ | refine o_iaddr ?_ | refine o_iaddrO ?_ | refine o_iaddrR ?_ | refine o_add ?_ | refine o_cat ?_ | refine o_bin ?_ | refine o_lenq ?_ | refine o_len ?_
      refine ct_ret ⟨.inr rfl, ?_⟩
      rw [idx_found hy h2 hv]
      exact oG []
    · repeat first | refine o_copy ?_ | refine nl ?_ | refine ct_seq ?_ | refine rg ?_ | refine ct_block ?_ | refine bq ?_ | refine o_loads ?_ | refine o_loadp ?_ | refine o_iaddr ?_ | refine o_iaddrO ?_ | refine o_iaddrR ?_ | refine o_add ?_ | refine o_cat ?_ | refine o_bin ?_ | refine o_lenq ?_ | refine o_len ?_
      refine agn (Q := fun _ _ => True) (i + 1) ⟨by omega, ?_⟩ goesD
      rw [List.take_add_one, hy]
      simp only [Option.toList, List.any_append, List.any_cons, List.any_nil, h2, Bool.or_false] at hv ⊢
      exact hv
  · have hge : i = ls.length := by have h' := of_decide_eq_false h; simp only [List.length_map] at h'; omega
    subst hge
    rw [List.take_length] at hv
    repeat first | refine o_copy ?_ | refine nl ?_ | refine ct_seq ?_ | refine rg ?_ | refine ct_block ?_ | refine bq ?_ | refine o_loads ?_ | refine o_loadp ?_ | refine o_iaddr ?_ | refine o_iaddrO ?_ | refine o_iaddrR ?_ | refine o_add ?_ | refine o_cat ?_ | refine o_bin ?_ | refine o_lenq ?_ | refine o_len ?_
    refine ct_ret ⟨.inr rfl, ?_⟩
    have e : idxI (meetsL x) ls = -1 := by unfold idxI; rw [if_neg (by simp [hv])]
    rw [e]
    exact oG []
theorem cont2_vc {ls : List (List LockL)} (hn : ls.length ≤ 60000) (hl : ∀ l ∈ ls, l.length ≤ 60000) (x : LockL) : VC Try.prog 60 [.sh false (ls.map encLL), .fn 61 [.ptr ⟨0, 1⟩ 1 0 0]] [bxL x, bxF ⟨0, 0⟩] (.bool (ls.any (meetsL x))) [bxL x, bxF ⟨0, 0⟩] := by
  have h := idx2_vc hn hl x
  rw [← idx_ge]
  refine vc_of vf60 ?_ (Nat.le_of_ble_eq_true rfl) (by intro vs h; cases h)
  repeat first | refine o_copy ?_ | refine nl ?_ | refine ct_seq ?_ | refine rg ?_ | refine ct_block ?_ | refine bq ?_ | refine cl (lent := [⟨0, 0⟩, ⟨0, 1⟩]) h ?_ | refine o_bin ?_
  refine ct_ret ⟨.inr rfl, ?_⟩
  exact oG []
theorem meets_vc {h w : List LockL} (h1 : h.length ≤ 60000) (h2 : w.length ≤ 60000) (x : LockL) : VC Try.prog 39 [.agg (encL x), .sh false [[.sh false (h.map encL)], [.sh false (w.map encL)]]] [] (.bool (meetsL x h || meetsL x w)) [] := by
  have hc := cont2_vc (ls := [h, w]) (by simp) (by simp [h1, h2]) x
  have e : ([h, w].any (meetsL x)) = (meetsL x h || meetsL x w) := by simp
  rw [e] at hc
  refine vc_of vf39 ?_ (Nat.le_of_ble_eq_true rfl) (by intro vs h; cases h)
  repeat first | refine o_copy ?_ | refine nl ?_ | refine ct_seq ?_ | refine rg ?_ | refine ct_block ?_ | refine bq ?_ | refine cl (lent := [⟨1, 0⟩, ⟨1, 8200⟩]) hc ?_ | refine o_box ?_ | refine o_alloc ?_ | refine o_store ?_ | refine o_fn ?_
  exact ct_ret ⟨.inr rfl, oB rfl⟩
theorem allows_vc {l : LocksL} (h1 : l.held.length ≤ 60000) (h2 : l.waits.length ≤ 60000) (x : LockL) : VC Try.prog 16 [.agg (encLs l), .agg (encL x)] [] (.bool (allowsL l x)) [] := by
  have hr := right_vc x
  have hm := meets_vc h1 h2 x
  unfold allowsL
  cases h0 : rightL x with
  | false =>
    rw [h0] at hr
    refine vc_of vf16 ?_ (Nat.le_of_ble_eq_true rfl) (by intro vs h; cases h)
    repeat first | refine o_copy ?_ | refine nl ?_ | refine ct_seq ?_ | refine rg ?_ | refine ct_block ?_ | refine bq ?_ | refine cv0 hr ?_ | refine o_loads ?_ | refine o_loadp ?_ | refine o_faddr ?_ | refine o_loadsA ?_ | refine o_loadpA ?_ | refine o_box ?_ | refine o_bslice ?_ | refine o_not ?_ | refine o_pickt ?_ | refine o_pickf ?_ | refine skF ?_ | refine skU ?_
    exact ct_ret ⟨.inr rfl, oB rfl⟩
  | true =>
    rw [h0] at hr
    refine vc_of vf16 ?_ (Nat.le_of_ble_eq_true rfl) (by intro vs h; cases h)
    repeat first | refine o_copy ?_ | refine nl ?_ | refine ct_seq ?_ | refine rg ?_ | refine ct_block ?_ | refine bq ?_ | refine cv0 hr ?_ | refine cv0 hm ?_ | refine o_loads ?_ | refine o_loadp ?_ | refine o_faddr ?_ | refine o_loadsA ?_ | refine o_loadpA ?_ | refine o_box ?_ | refine o_bslice ?_ | refine o_not ?_ | refine o_pickt ?_ | refine o_pickf ?_ | refine skF ?_ | refine skU ?_
    exact ct_ret ⟨.inr rfl, oB rfl⟩
end Go.Proofs
open Go.V Go.Pu
set_option linter.unusedVariables false
set_option linter.unusedSimpArgs false
set_option maxRecDepth 20000
namespace Go.Proofs
/-- slices.Clone[[]downspout/api.Lock,downspout/api.Lock] -/
def vc56 : VCode :=
 (.seq
 (.region 0 false [
 ⟨(some 2), .copy (.c .nils), none, 0, []⟩])
 (.seq
 (.seq
 (.region 1 false [
 ⟨(some 3), .copy (.t 0), none, 8192, []⟩,
 ⟨(some 4), .isnil false (.t 3), none, 8200, [0]⟩])
 (.cond (.t 4)
 (.seq
 (.region 2 false [
 ⟨(some 2), .copy (.c .nils), none, 16384, []⟩])
 .ret)
 .skip))
 (.seq
 (.region 3 false [
 ⟨(some 5), .bslice 5 [(.int .i64 0), (.str []), (.int .i64 0), (.int .i64 0), (.bool false)] 0 [], none, 24576, []⟩,
 ⟨(some 6), .copy (.t 0), none, 24584, []⟩,
 ⟨(some 7), .append 5 48 [(.int .i64 0), (.str []), (.int .i64 0), (.int .i64 0), (.bool false)] (.t 5) (.t 6), none, 24592, [0, 1]⟩,
 ⟨(some 2), .copy (.t 7), none, 24600, [2, 0, 1]⟩])
 .ret)))
theorem vf56 : VF Try.prog 56 = some (8, vc56, [.tmp 2]) := by kernel_rfl
/-- downspout/lock.grant -/
def vc46 : VCode :=
 (.seq
 (.region 0 false [
 ⟨(some 4), .alloc [.nils, .nils], none, 0, []⟩,
 ⟨(some 5), .copy (.c .nils), none, 8, []⟩])
 (.seq
 (.region 1 false [
 ⟨(some 10), .copy (.t 0), none, 8192, []⟩,
 ⟨(some 11), .call (.c (.fn 56 [])) [(.t 10)], none, 8200, [0]⟩,
 ⟨(some 12), .build [.nils, .nils] [(0, 1, (.t 11))], none, 8208, [1, 0]⟩,
 ⟨(some 6), .alloc [.nils, .nils], none, 8216, []⟩,
 ⟨none, .store 2 (.t 6) (.t 12), none, 8224, [3, 2, 1, 0]⟩])
 (.seq
 (.region 2 false [
 ⟨(some 7), .copy (.c .nils), none, 16384, []⟩])
 (.seq
 (.seq
 (.region 3 false [
 ⟨(some 13), .copy (.t 1), none, 24576, []⟩,
 ⟨(some 14), .len (.t 13), none, 24584, [0]⟩,
 ⟨(some 15), .copy (.c (.int .i64 0)), none, 24592, []⟩])
 (.block 0
 (.loop
 (.seq
 (.region 4 false [
 ⟨(some 16), .bin .lss (.t 15) (.t 14), none, 32768, []⟩])
 (.seq
 (.cond (.t 16)
 .skip
 (.exit 0))
 (.seq
 (.block 1
 (.seq
 (.region 5 false [
 ⟨(some 17), .iaddr 5 (.t 13) (.t 15), none, 40960, []⟩,
 ⟨(some 18), .load true 5 (.t 17), none, 40968, [0]⟩,
 ⟨(some 9), .alloc [(.int .i64 0), (.str []), (.int .i64 0), (.int .i64 0), (.bool false)], none, 40976, []⟩,
 ⟨none, .store 5 (.t 9) (.t 18), none, 40984, [2, 1, 0]⟩])
 (.seq
 (.seq
 (.region 6 false [
 ⟨(some 19), .load true 5 (.t 9), none, 49152, []⟩,
 ⟨(some 20), .faddr 0 (.t 6), none, 49160, []⟩,
 ⟨(some 21), .load false 1 (.t 20), none, 49168, [1]⟩,
 ⟨(some 22), .faddr 1 (.t 6), none, 49176, []⟩,
 ⟨(some 23), .load false 1 (.t 22), none, 49184, [3]⟩,
 ⟨(some 24), .bslice 1 [.nils] 2 [(0, (.t 21)), (1, (.t 23))], none, 49192, [2, 1, 4, 3]⟩,
 ⟨(some 25), .call (.c (.fn 39 [])) [(.t 19), (.t 24)], none, 49200, [0, 5, 2, 1, 4, 3]⟩])
 (.cond (.t 25)
 (.seq
 (.region 7 false [
 ⟨(some 26), .faddr 1 (.t 6), none, 57344, []⟩,
 ⟨(some 27), .load false 1 (.t 26), none, 57352, [0]⟩,
 ⟨(some 28), .load true 5 (.t 9), none, 57360, []⟩,
 ⟨(some 29), .bslice 5 [(.int .i64 0), (.str []), (.int .i64 0), (.int .i64 0), (.bool false)] 1 [(0, (.t 28))], none, 57368, [2]⟩,
 ⟨(some 30), .append 5 48 [(.int .i64 0), (.str []), (.int .i64 0), (.int .i64 0), (.bool false)] (.t 27) (.t 29), none, 57376, [1, 0, 3, 2]⟩,
 ⟨(some 31), .faddr 1 (.t 6), none, 57384, [0, 1, 2, 3, 4]⟩,
 ⟨none, .store 1 (.t 31) (.t 30), none, 57392, [5, 0, 1, 2, 3, 4]⟩])
 (.exit 1))
 .skip))
 (.seq
 (.region 8 false [
 ⟨(some 32), .faddr 0 (.t 6), none, 65536, []⟩,
 ⟨(some 33), .load false 1 (.t 32), none, 65544, [0]⟩,
 ⟨(some 34), .load true 5 (.t 9), none, 65552, []⟩,
 ⟨(some 35), .bslice 5 [(.int .i64 0), (.str []), (.int .i64 0), (.int .i64 0), (.bool false)] 1 [(0, (.t 34))], none, 65560, [2]⟩,
 ⟨(some 36), .append 5 48 [(.int .i64 0), (.str []), (.int .i64 0), (.int .i64 0), (.bool false)] (.t 33) (.t 35), none, 65568, [1, 0, 3, 2]⟩,
 ⟨(some 37), .faddr 0 (.t 6), none, 65576, [0, 1, 2, 3, 4]⟩,
 ⟨none, .store 1 (.t 37) (.t 36), none, 65584, [5, 0, 1, 2, 3, 4]⟩])
 (.region 9 false [
 ⟨(some 38), .copy (.t 7), none, 73728, []⟩,
 ⟨(some 39), .load true 5 (.t 9), none, 73736, []⟩,
 ⟨(some 40), .bslice 5 [(.int .i64 0), (.str []), (.int .i64 0), (.int .i64 0), (.bool false)] 1 [(0, (.t 39))], none, 73744, [1]⟩,
 ⟨(some 41), .append 5 48 [(.int .i64 0), (.str []), (.int .i64 0), (.int .i64 0), (.bool false)] (.t 38) (.t 40), none, 73752, [0, 2, 1]⟩,
 ⟨(some 7), .copy (.t 41), none, 73760, [3, 0, 2, 1]⟩])))))
 (.region 10 false [
 ⟨(some 42), .bin .add (.t 15) (.c (.int .i64 1)), none, 81920, []⟩,
 ⟨(some 15), .copy (.t 42), none, 81928, [0]⟩])))))))
 (.seq
 (.region 11 false [
 ⟨(some 43), .load true 2 (.t 6), none, 90112, []⟩,
 ⟨(some 44), .copy (.t 7), none, 90120, []⟩,
 ⟨none, .store 2 (.t 4) (.t 43), none, 90128, [0]⟩,
 ⟨(some 5), .copy (.t 44), none, 90136, [1, 2, 0]⟩])
 .ret)))))
theorem vf46 : VF Try.prog 46 = some (45, vc46, [.cell true 2 4, .tmp 5]) := by kernel_rfl
theorem clone_vc {q : PV} {xs : List LockL} (hq : Sl q (xs.map encL)) (hl : xs.length ≤ 60000) : VC Try.prog 56 [q] [] (ownV ⟨0, 0⟩ (xs.map encL)) [blkV 5 (xs.map encL)] := by
  refine vc_of vf56 ?_ (Nat.le_of_ble_eq_true rfl) (by intro vs h; cases h)
  have nilc : ∀ (h : xs.map encL = []), xs = [] := fun h => List.map_eq_nil_iff.1 h
  rcases hq with ⟨rfl, h⟩ | ⟨rfl, h⟩ | ⟨ex, rfl⟩
  · have := nilc h
    subst this
    repeat first | refine o_copy ?_ | refine nl ?_ | refine ct_seq ?_ | refine rg ?_ | refine ct_block ?_ | refine bq ?_ | refine o_bslice ?_ | refine o_isnil ?_
    refine cndt ?_
    repeat first | refine o_copy ?_ | refine nl ?_ | refine ct_seq ?_ | refine rg ?_ | refine ct_block ?_ | refine bq ?_ | refine o_bslice ?_ | refine o_isnil ?_
    refine ct_imp (Imp.nil (t := 2) (b := ⟨1, 900000⟩) (esz := 5) rfl rfl (by decide)) ?_
    exact ct_ret ⟨.inr rfl, oOwn rfl⟩
  · have := nilc h
    subst this
    repeat first | refine o_copy ?_ | refine nl ?_ | refine ct_seq ?_ | refine rg ?_ | refine ct_block ?_ | refine bq ?_ | refine o_bslice ?_ | refine o_isnil ?_
    refine cndf (ct_skip ?_)
    repeat first | refine o_copy ?_ | refine nl ?_ | refine ct_seq ?_ | refine rg ?_ | refine ct_block ?_ | refine bq ?_ | refine o_v (vaps encL [] []) ?_ | refine o_bslice ?_ | refine o_isnil ?_
    exact ct_ret ⟨.inr rfl, oOwn rfl⟩
  · cases xs with
    | nil =>
      refine ct_split (t := 0) (ex := ex) (tm := entry 0 [.sh ex []]) rfl ?_ ?_
      · repeat first | refine o_copy ?_ | refine nl ?_ | refine ct_seq ?_ | refine rg ?_ | refine ct_block ?_ | refine bq ?_ | refine o_bslice ?_ | refine o_isnil ?_
        refine cndt ?_
        repeat first | refine o_copy ?_ | refine nl ?_ | refine ct_seq ?_ | refine rg ?_ | refine ct_block ?_ | refine bq ?_ | refine o_bslice ?_ | refine o_isnil ?_
        refine ct_imp (Imp.nil (t := 2) (b := ⟨1, 900000⟩) (esz := 5) rfl rfl (by decide)) ?_
        exact ct_ret ⟨.inr rfl, oOwn rfl⟩
      · repeat first | refine o_copy ?_ | refine nl ?_ | refine ct_seq ?_ | refine rg ?_ | refine ct_block ?_ | refine bq ?_ | refine o_bslice ?_ | refine o_isnil ?_
        refine cndf (ct_skip ?_)
        repeat first | refine o_copy ?_ | refine nl ?_ | refine ct_seq ?_ | refine rg ?_ | refine ct_block ?_ | refine bq ?_ | refine o_v (vaps encL [] []) ?_ | refine o_bslice ?_ | refine o_isnil ?_
        exact ct_ret ⟨.inr rfl, oOwn rfl⟩
    | cons x xs =>
      have hl2 : xs.length + 1 ≤ 60000 := hl
      repeat first | refine o_copy ?_ | refine nl ?_ | refine ct_seq ?_ | refine rg ?_ | refine ct_block ?_ | refine bq ?_ | refine o_bslice ?_ | refine o_isnil ?_
      refine cndf (ct_skip ?_)
      repeat first | refine o_copy ?_ | refine nl ?_ | refine ct_seq ?_ | refine rg ?_ | refine ct_block ?_ | refine bq ?_ | refine o_v (vaps encL [] (x :: xs)) ?_ | refine o_bslice ?_ | refine o_isnil ?_
      exact ct_ret ⟨.inr rfl, oOwn rfl⟩
theorem l_grT {hf : HF} {a b c : Bid} {h w g : List LockL} (ha : hf a = some (blkV 5 (h.map encL))) (hb : hf b = some (blkV 5 (w.map encL))) (hc : hf c = some (blkV 5 (g.map encL))) :
    lendVs hf [] [.agg [ownV a (h.map encL), ownV b (w.map encL)], ownV c (g.map encL)] = some ([a, b, c], [.agg (encLs ⟨h, w⟩), .sh false (g.map encL)]) := by
  have h1 : lendS hf [] (ownV a (h.map encL)) = some ([a], .sh false (h.map encL)) := l_own ha rfl
  have h2 : lendS hf [] (ownV b (w.map encL)) = some ([b], .sh false (w.map encL)) := l_own hb rfl
  have h3 : lendV hf [] (ownV c (g.map encL)) = some ([c], .sh false (g.map encL)) := l_own hc rfl
  rw [lendVs, lendVs, h3]
  simp only [lendV, lendSs]
  rw [h1, h2]
  rfl
abbrev pmt (x : LockL) (l : List LockL) : Bool := meetsL x l
set_option maxHeartbeats 4000000 in
theorem grant_vc {l : LocksL} (hl : l.held.length + l.waits.length ≤ 20000) {h1 w1 g1 : List LockL} (hg : grantF pmt l.waits l.held [] [] = (h1, w1, g1)) : VC Try.prog 46 [.sh false (l.held.map encL), .sh false (l.waits.map encL)] [] (.tup [.agg (encLs ⟨h1, w1⟩), .sh false (g1.map encL)]) [] := by
  refine vc_closeT (hout := [blkV 5 (h1.map encL), blkV 5 (w1.map encL), blkV 5 (g1.map encL)]) (vs := [.agg [ownV ⟨0, 0⟩ (h1.map encL), ownV ⟨0, 1⟩ (w1.map encL)], ownV ⟨0, 2⟩ (g1.map encL)]) ?_ (l_grT rfl rfl rfl) (by simp) (by simp)
  refine vc_of vf46 ?_ (Nat.le_of_ble_eq_true rfl) (by intro vs h; cases h; simp)
  refine ct_seq (rg ?_)
  repeat first | refine o_copy ?_ | refine o_loads ?_ | refine o_loadp ?_ | refine o_faddr ?_ | refine o_iaddr ?_ | refine o_iaddrO ?_ | refine o_iaddrR ?_ | refine o_add ?_ | refine o_cat ?_ | refine o_bin ?_ | refine o_lenq ?_ | refine o_len ?_ | refine o_loadsA ?_ | refine o_loadpA ?_ | refine o_alloc ?_ | refine o_bslice ?_ | refine o_store ?_ | refine o_build ?_
  refine nl ?_
  refine ct_seq (rg ?_)
  repeat first | refine o_copy ?_ | refine cv (clone_vc (q := .sh false (l.held.map encL)) (xs := l.held) Sl.sh (by omega)) ?_ | refine o_loads ?_ | refine o_loadp ?_ | refine o_faddr ?_ | refine o_iaddr ?_ | refine o_iaddrO ?_ | refine o_iaddrR ?_ | refine o_add ?_ | refine o_cat ?_ | refine o_bin ?_ | refine o_lenq ?_ | refine o_len ?_ | refine o_loadsA ?_ | refine o_loadpA ?_ | refine o_alloc ?_ | refine o_bslice ?_ | refine o_store ?_ | refine o_build ?_
  refine nl ?_
  refine ct_seq (rg ?_)
  repeat first | refine o_copy ?_ | refine o_loads ?_ | refine o_loadp ?_ | refine o_faddr ?_ | refine o_iaddr ?_ | refine o_iaddrO ?_ | refine o_iaddrR ?_ | refine o_add ?_ | refine o_cat ?_ | refine o_bin ?_ | refine o_lenq ?_ | refine o_len ?_ | refine o_loadsA ?_ | refine o_loadpA ?_ | refine o_alloc ?_ | refine o_bslice ?_ | refine o_store ?_ | refine o_build ?_
  refine nl ?_
  refine ct_imp ((Imp.nilC (b := ⟨1, 7⟩) (b1 := ⟨1, 8216⟩) (esz := 5) 1 rfl rfl rfl (by decide)).trans (Imp.nil (t := 7) (b := ⟨1, 9⟩) (esz := 5) rfl rfl (by decide))) ?_
  repeat first | refine o_copy ?_ | refine nl ?_ | refine ct_seq ?_ | refine rg ?_ | refine ct_block ?_ | refine bq ?_ | refine o_loads ?_ | refine o_loadp ?_ | refine o_faddr ?_ | refine o_iaddr ?_ | refine o_iaddrO ?_ | refine o_iaddrR ?_ | refine o_add ?_ | refine o_cat ?_ | refine o_bin ?_ | refine o_lenq ?_ | refine o_len ?_ | refine o_loadsA ?_ | refine o_loadpA ?_ | refine o_alloc ?_ | refine o_bslice ?_ | refine o_store ?_ | refine o_build ?_
  refine ct_loopG (fun (g : Nat × List LockL × List LockL × List LockL) => [(4, .ptr ⟨1, 0⟩ 1 0 0), (6, .ptr ⟨1, 8216⟩ 1 0 0), (7, ownV ⟨1, 9⟩ (g.2.2.2.map encL)), (13, .sh false (l.waits.map encL)), (14, .int .i64 (l.waits.map encL).length), (15, .int .i64 g.1)])
    (fun g => [(⟨1, 0⟩, ⟨true, false, 2, [[.nils, .nils]]⟩), (⟨1, 8216⟩, ⟨true, false, 2, [[ownV ⟨1, 8200⟩ (g.2.1.map encL), ownV ⟨1, 7⟩ (g.2.2.1.map encL)]]⟩),
      (⟨1, 8200⟩, blkV 5 (g.2.1.map encL)), (⟨1, 7⟩, blkV 5 (g.2.2.1.map encL)), (⟨1, 9⟩, blkV 5 (g.2.2.2.map encL))]) (fun g => l.waits.length - g.1)
    (fun g => g.1 ≤ l.waits.length ∧ grantF pmt (l.waits.drop g.1) g.2.1 g.2.2.1 g.2.2.2 = (h1, w1, g1) ∧ g.2.1.length + g.2.2.1.length + g.2.2.2.length ≤ l.held.length + g.1 + g.1) (0, l.held, [], []) goesD ⟨Nat.zero_le _, hg, by simp⟩ ?_
  rintro ⟨i, h, w, g⟩ ⟨hi, hv, hn⟩
  dsimp only at hi hv hn ⊢
  repeat first | refine o_copy ?_ | refine nl ?_ | refine ct_seq ?_ | refine rg ?_ | refine ct_block ?_ | refine bq ?_ | refine o_loads ?_ | refine o_loadp ?_ | refine o_faddr ?_ | refine o_iaddr ?_ | refine o_iaddrO ?_ | refine o_iaddrR ?_ | refine o_add ?_ | refine o_cat ?_ | refine o_bin ?_ | refine o_lenq ?_ | refine o_len ?_ | refine o_loadsA ?_ | refine o_loadpA ?_ | refine o_alloc ?_ | refine o_bslice ?_ | refine o_store ?_ | refine o_build ?_
  refine cnd (fun hh => ct_skip ?_) (fun hh => ct_exit ?_)
  · have hlt : i < l.waits.length := by have h' := of_decide_eq_true hh; simp only [List.length_map] at h'; omega
    obtain ⟨x, hx⟩ : ∃ y, l.waits[i]? = some y := ⟨_, List.getElem?_eq_getElem hlt⟩
    have hxe := gm (enc := encL) (n := (i : Int)) hx (by omega)
    rw [drop_get hx, grantF] at hv
    have hm := meets_vc (h := h) (w := w) (by omega) (by omega) x
    cases hA : (meetsL x h || meetsL x w) with
    | true =>
      rw [if_pos (show (pmt x h || pmt x w) = true from hA)] at hv
      rw [hA] at hm
      repeat first | refine o_copy ?_ | refine nl ?_ | refine ct_seq ?_ | refine rg ?_ | refine ct_block ?_ | refine bq ?_ | refine o_loads ?_ | refine o_loadp ?_ | refine o_faddr ?_ | refine o_iaddr ?_ | refine o_iaddrO ?_ | refine o_iaddrR ?_ | refine o_add ?_ | refine o_cat ?_ | refine o_bin ?_ | refine o_lenq ?_ | refine o_len ?_ | refine o_loadsA ?_ | refine o_loadpA ?_ | refine o_alloc ?_ | refine o_bslice ?_ | refine o_store ?_ | refine o_build ?_
      refine svar hm ?_
      repeat first | refine o_copy ?_ | refine nl ?_ | refine ct_seq ?_ | refine rg ?_ | refine ct_block ?_ | refine bq ?_ | refine o_loads ?_ | refine o_loadp ?_ | refine o_faddr ?_ | refine o_iaddr ?_ | refine o_iaddrO ?_ | refine o_iaddrR ?_ | refine o_add ?_ | refine o_cat ?_ | refine o_bin ?_ | refine o_lenq ?_ | refine o_len ?_ | refine o_loadsA ?_ | refine o_loadpA ?_ | refine o_alloc ?_ | refine o_bslice ?_ | refine o_store ?_ | refine o_build ?_
      refine cndt ?_
      repeat first | refine o_copy ?_ | refine nl ?_ | refine ct_seq ?_ | refine rg ?_ | refine ct_block ?_ | refine bq ?_ | refine o_v (vap encL x) ?_ | refine o_loads ?_ | refine o_loadp ?_ | refine o_faddr ?_ | refine o_iaddr ?_ | refine o_iaddrO ?_ | refine o_iaddrR ?_ | refine o_add ?_ | refine o_cat ?_ | refine o_bin ?_ | refine o_lenq ?_ | refine o_len ?_ | refine o_loadsA ?_ | refine o_loadpA ?_ | refine o_alloc ?_ | refine o_bslice ?_ | refine o_store ?_ | refine o_build ?_
      refine ct_exit ?_
      repeat first | refine o_copy ?_ | refine nl ?_ | refine ct_seq ?_ | refine rg ?_ | refine ct_block ?_ | refine bq ?_ | refine o_loads ?_ | refine o_loadp ?_ | refine o_faddr ?_ | refine o_iaddr ?_ | refine o_iaddrO ?_ | refine o_iaddrR ?_ | refine o_add ?_ | refine o_cat ?_ | refine o_bin ?_ | refine o_lenq ?_ | refine o_len ?_ | refine o_loadsA ?_ | refine o_loadpA ?_ | refine o_alloc ?_ | refine o_bslice ?_ | refine o_store ?_ | refine o_build ?_
      exact agn (Q := fun _ _ => True) (i + 1, h, w ++ [x], g) ⟨by simp only; omega, hv, by simp only [List.length_append, List.length_cons, List.length_nil]; omega⟩ goesD
    | false =>
      rw [if_neg (show ¬ (pmt x h || pmt x w) = true by show ¬ (meetsL x h || meetsL x w) = true; rw [hA]; simp)] at hv
      rw [hA] at hm
      repeat first | refine o_copy ?_ | refine nl ?_ | refine ct_seq ?_ | refine rg ?_ | refine ct_block ?_ | refine bq ?_ | refine o_loads ?_ | refine o_loadp ?_ | refine o_faddr ?_ | refine o_iaddr ?_ | refine o_iaddrO ?_ | refine o_iaddrR ?_ | refine o_add ?_ | refine o_cat ?_ | refine o_bin ?_ | refine o_lenq ?_ | refine o_len ?_ | refine o_loadsA ?_ | refine o_loadpA ?_ | refine o_alloc ?_ | refine o_bslice ?_ | refine o_store ?_ | refine o_build ?_
      refine svar hm ?_
      repeat first | refine o_copy ?_ | refine nl ?_ | refine ct_seq ?_ | refine rg ?_ | refine ct_block ?_ | refine bq ?_ | refine o_loads ?_ | refine o_loadp ?_ | refine o_faddr ?_ | refine o_iaddr ?_ | refine o_iaddrO ?_ | refine o_iaddrR ?_ | refine o_add ?_ | refine o_cat ?_ | refine o_bin ?_ | refine o_lenq ?_ | refine o_len ?_ | refine o_loadsA ?_ | refine o_loadpA ?_ | refine o_alloc ?_ | refine o_bslice ?_ | refine o_store ?_ | refine o_build ?_
      refine cndf (ct_skip ?_)
      repeat first | refine o_copy ?_ | refine nl ?_ | refine ct_seq ?_ | refine rg ?_ | refine ct_block ?_ | refine bq ?_ | refine o_v (vap encL x) ?_ | refine o_loads ?_ | refine o_loadp ?_ | refine o_faddr ?_ | refine o_iaddr ?_ | refine o_iaddrO ?_ | refine o_iaddrR ?_ | refine o_add ?_ | refine o_cat ?_ | refine o_bin ?_ | refine o_lenq ?_ | refine o_len ?_ | refine o_loadsA ?_ | refine o_loadpA ?_ | refine o_alloc ?_ | refine o_bslice ?_ | refine o_store ?_ | refine o_build ?_
      exact agn (Q := fun _ _ => True) (i + 1, h ++ [x], w, g ++ [x]) ⟨by simp only; omega, hv, by simp only [List.length_append, List.length_cons, List.length_nil]; omega⟩ goesD
  · have hge : i = l.waits.length := by have h' := of_decide_eq_false hh; simp only [List.length_map] at h'; omega
    subst hge
    simp only [List.drop_length, grantF, Prod.mk.injEq] at hv
    obtain ⟨rfl, rfl, rfl⟩ := hv
    repeat first | refine o_copy ?_ | refine nl ?_ | refine ct_seq ?_ | refine rg ?_ | refine ct_block ?_ | refine bq ?_ | refine o_loads ?_ | refine o_loadp ?_ | refine o_faddr ?_ | refine o_iaddr ?_ | refine o_iaddrO ?_ | refine o_iaddrR ?_ | refine o_add ?_ | refine o_cat ?_ | refine o_bin ?_ | refine o_lenq ?_ | refine o_len ?_ | refine o_loadsA ?_ | refine o_loadpA ?_ | refine o_alloc ?_ | refine o_bslice ?_ | refine o_store ?_ | refine o_build ?_
    refine ct_ret ⟨.inr rfl, ?_⟩
    exact oG [⟨1, 8200⟩, ⟨1, 7⟩, ⟨1, 9⟩] (v' := .tup [.agg [ownV ⟨0, 0⟩ (h.map encL), ownV ⟨0, 1⟩ (w.map encL)], ownV ⟨0, 2⟩ (g.map encL)])
end Go.Proofs
open Go.V Go.Pu
set_option linter.unusedVariables false
set_option linter.unusedSimpArgs false
set_option maxRecDepth 20000
namespace Go.Proofs
/-- slices.Grow[[]downspout/api.Lock,downspout/api.Lock] -/
def vc71 : VCode :=
 (.seq
 (.region 0 false [
 ⟨(some 4), .copy (.c .nils), none, 0, []⟩])
 (.seq
 (.seq
 (.region 1 false [
 ⟨(some 5), .copy (.t 1), none, 8192, []⟩,
 ⟨(some 6), .bin .lss (.t 5) (.c (.int .i64 0)), none, 8200, [0]⟩])
 (.cond (.t 6)
 (.region 2 false [
 ⟨(some 7), .mkifc 9 (.c (.str [99, 97, 110, 110, 111, 116, 32, 98, 101, 32, 110, 101, 103, 97, 116, 105, 118, 101])), none, 16384, []⟩,
 ⟨none, .bad, none, 16392, [0]⟩])
 .skip))
 (.seq
 (.seq
 (.region 3 false [
 ⟨(some 8), .copy (.t 1), none, 24576, []⟩,
 ⟨(some 9), .copy (.t 0), none, 24584, []⟩,
 ⟨(some 10), .cap (.t 9), none, 24592, [1]⟩,
 ⟨(some 11), .copy (.t 0), none, 24600, []⟩,
 ⟨(some 12), .len (.t 11), none, 24608, [3]⟩,
 ⟨(some 13), .bin .sub (.t 10) (.t 12), none, 24616, [2, 1, 4, 3]⟩,
 ⟨(some 14), .bin .sub (.t 8) (.t 13), none, 24624, [0, 5, 2, 1, 4, 3]⟩,
 ⟨(some 1), .copy (.t 14), none, 24632, [6, 0, 5, 2, 1, 4, 3]⟩])
 (.seq
 (.region 4 false [
 ⟨(some 15), .copy (.t 1), none, 32768, []⟩,
 ⟨(some 16), .bin .gtr (.t 15) (.c (.int .i64 0)), none, 32776, [0]⟩])
 (.cond (.t 16)
 (.region 5 false [
 ⟨(some 17), .copy (.t 0), none, 40960, []⟩,
 ⟨(some 18), .copy (.t 0), none, 40968, []⟩,
 ⟨(some 19), .cap (.t 18), none, 40976, [1]⟩,
 ⟨(some 20), .slsl 5 (.t 17) none (some (.t 19)) none, none, 40984, [0, 2, 1]⟩,
 ⟨(some 21), .copy (.t 1), none, 40992, []⟩,
 ⟨(some 22), .appZ 5 48 [(.int .i64 0), (.str []), (.int .i64 0), (.int .i64 0), (.bool false)] (.t 20) (.t 21), none, 41000, [3, 0, 2, 1, 4]⟩,
 ⟨(some 23), .copy (.t 0), none, 41008, []⟩,
 ⟨(some 24), .len (.t 23), none, 41016, [6]⟩,
 ⟨(some 25), .slsl 5 (.t 22) none (some (.t 24)) none, none, 41024, [5, 3, 0, 2, 1, 4, 7, 6]⟩,
 ⟨(some 0), .copy (.t 25), none, 41032, [8, 5, 3, 0, 2, 1, 4, 7, 6]⟩])
 .skip)))
 (.seq
 (.region 6 false [
 ⟨(some 26), .copy (.t 0), none, 49152, []⟩,
 ⟨(some 4), .copy (.t 26), none, 49160, [0]⟩])
 .ret))))
theorem vf71 : VF Try.prog 71 = some (27, vc71, [.tmp 4]) := by kernel_rfl
/-- slices.Concat[[]downspout/api.Lock,downspout/api.Lock] -/
def vc66 : VCode :=
 (.seq
 (.region 0 false [
 ⟨(some 2), .copy (.c .nils), none, 0, []⟩])
 (.seq
 (.region 1 false [
 ⟨(some 3), .copy (.c (.int .i64 0)), none, 8192, []⟩])
 (.seq
 (.seq
 (.region 2 false [
 ⟨(some 9), .copy (.t 0), none, 16384, []⟩,
 ⟨(some 10), .len (.t 9), none, 16392, [0]⟩,
 ⟨(some 11), .copy (.c (.int .i64 0)), none, 16400, []⟩])
 (.block 0
 (.loop
 (.seq
 (.region 3 false [
 ⟨(some 12), .bin .lss (.t 11) (.t 10), none, 24576, []⟩])
 (.seq
 (.cond (.t 12)
 .skip
 (.exit 0))
 (.seq
 (.block 1
 (.seq
 (.region 4 false [
 ⟨(some 13), .iaddr 1 (.t 9) (.t 11), none, 32768, []⟩,
 ⟨(some 14), .load false 1 (.t 13), none, 32776, [0]⟩,
 ⟨(some 5), .copy (.t 14), none, 32784, [1, 0]⟩])
 (.seq
 (.region 5 false [
 ⟨(some 15), .copy (.t 3), none, 40960, []⟩,
 ⟨(some 16), .copy (.t 5), none, 40968, []⟩,
 ⟨(some 17), .len (.t 16), none, 40976, [1]⟩,
 ⟨(some 18), .bin .add (.t 15) (.t 17), none, 40984, [0, 2, 1]⟩,
 ⟨(some 3), .copy (.t 18), none, 40992, [3, 0, 2, 1]⟩])
 (.seq
 (.region 6 false [
 ⟨(some 19), .copy (.t 3), none, 49152, []⟩,
 ⟨(some 20), .bin .lss (.t 19) (.c (.int .i64 0)), none, 49160, [0]⟩])
 (.cond (.t 20)
 (.region 7 false [
 ⟨(some 21), .mkifc 9 (.c (.str [108, 101, 110, 32, 111, 117, 116, 32, 111, 102, 32, 114, 97, 110, 103, 101])), none, 57344, []⟩,
 ⟨none, .bad, none, 57352, [0]⟩])
 .skip)))))
 (.region 8 false [
 ⟨(some 22), .bin .add (.t 11) (.c (.int .i64 1)), none, 65536, []⟩,
 ⟨(some 11), .copy (.t 22), none, 65544, [0]⟩])))))))
 (.seq
 (.region 9 false [
 ⟨(some 23), .copy (.t 3), none, 73728, []⟩,
 ⟨(some 24), .call (.c (.fn 71 [])) [(.c .nils), (.t 23)], none, 73736, [0]⟩,
 ⟨(some 6), .copy (.t 24), none, 73744, [1, 0]⟩])
 (.seq
 (.seq
 (.region 10 false [
 ⟨(some 25), .copy (.t 0), none, 81920, []⟩,
 ⟨(some 26), .len (.t 25), none, 81928, [0]⟩,
 ⟨(some 27), .copy (.c (.int .i64 0)), none, 81936, []⟩])
 (.block 2
 (.loop
 (.seq
 (.region 11 false [
 ⟨(some 28), .bin .lss (.t 27) (.t 26), none, 90112, []⟩])
 (.seq
 (.cond (.t 28)
 .skip
 (.exit 2))
 (.seq
 (.block 3
 (.seq
 (.region 12 false [
 ⟨(some 29), .iaddr 1 (.t 25) (.t 27), none, 98304, []⟩,
 ⟨(some 30), .load false 1 (.t 29), none, 98312, [0]⟩,
 ⟨(some 8), .copy (.t 30), none, 98320, [1, 0]⟩])
 (.region 13 false [
 ⟨(some 31), .copy (.t 6), none, 106496, []⟩,
 ⟨(some 32), .copy (.t 8), none, 106504, []⟩,
 ⟨(some 33), .append 5 48 [(.int .i64 0), (.str []), (.int .i64 0), (.int .i64 0), (.bool false)] (.t 31) (.t 32), none, 106512, [0, 1]⟩,
 ⟨(some 6), .copy (.t 33), none, 106520, [2, 0, 1]⟩])))
 (.region 14 false [
 ⟨(some 34), .bin .add (.t 27) (.c (.int .i64 1)), none, 114688, []⟩,
 ⟨(some 27), .copy (.t 34), none, 114696, [0]⟩])))))))
 (.seq
 (.region 15 false [
 ⟨(some 35), .copy (.t 6), none, 122880, []⟩,
 ⟨(some 2), .copy (.t 35), none, 122888, [0]⟩])
 .ret))))))
theorem vf66 : VF Try.prog 66 = some (36, vc66, [.tmp 2]) := by kernel_rfl
def zL : LockL := ⟨0, [], 0, 0, false⟩
theorem grow0_vc : VC Try.prog 71 [.nils, .int .i64 0] [] .nils [] := by
  refine vc_of vf71 ?_ (Nat.le_of_ble_eq_true rfl) (by intro vs h; cases h)
  repeat first | refine o_copy ?_ | refine nl ?_ | refine ct_seq ?_ | refine rg ?_ | refine ct_block ?_ | refine bq ?_ | refine o_sub ?_ | refine o_bin ?_ | refine o_lenq ?_ | refine o_len ?_
  refine cndf (ct_skip ?_)
  repeat first | refine o_copy ?_ | refine nl ?_ | refine ct_seq ?_ | refine rg ?_ | refine ct_block ?_ | refine bq ?_ | refine o_v0 vcap0 ?_ | refine o_sub ?_ | refine o_bin ?_ | refine o_lenq ?_ | refine o_len ?_
  refine cndf (ct_skip ?_)
  repeat first | refine o_copy ?_ | refine nl ?_ | refine ct_seq ?_ | refine rg ?_ | refine ct_block ?_ | refine bq ?_ | refine o_sub ?_ | refine o_bin ?_ | refine o_lenq ?_ | refine o_len ?_
  exact ct_ret ⟨.inr rfl, oAny rfl⟩
theorem grow_vc {n : Nat} (h0 : 0 < n) (h1 : n ≤ 1000000) : VC Try.prog 71 [.nils, .int .i64 n] [] (.own ⟨0, 0⟩ n 0 0) [blkV 5 (List.replicate n (encL zL))] := by
  refine vc_of vf71 ?_ (Nat.le_of_ble_eq_true rfl) (by intro vs h; cases h)
  have s1 : bin .sub (.int .i64 0) (.int .i64 (([] : List (List PV)).length : Int)) = some (.int .i64 0) := rfl
  have s2 : bin .sub (.int .i64 (n : Int)) (.int .i64 0) = some (.int .i64 (n : Int)) := by
    show some (PV.int .i64 (IntKind.i64.wrap ((n : Int) - 0))) = _
    rw [Int.sub_zero, wrap64 (by omega) (by omega)]
  repeat first | refine o_copy ?_ | refine nl ?_ | refine ct_seq ?_ | refine rg ?_ | refine ct_block ?_ | refine bq ?_ | refine o_sub ?_ | refine o_bin ?_ | refine o_lenq ?_ | refine o_len ?_
  refine cndf (ct_skip ?_) rfl (decide_eq_false (by omega))
  repeat first | refine o_copy ?_ | refine nl ?_ | refine ct_seq ?_ | refine rg ?_ | refine ct_block ?_ | refine bq ?_ | refine o_v0 vcap0 ?_ | refine o_binE s1 ?_ | refine o_binE s2 ?_ | refine o_sub ?_ | refine o_bin ?_ | refine o_lenq ?_ | refine o_len ?_
  refine cndt ?_ rfl (decide_eq_true (by omega))
  repeat first | refine o_copy ?_ | refine nl ?_ | refine ct_seq ?_ | refine rg ?_ | refine ct_block ?_ | refine bq ?_ | refine o_v0 vcap0 ?_ | refine o_v0 vsln ?_ | refine o_v (vappz (n := n)) ?_ | refine o_slslO (a := 0) (z := 0) ?_ | refine o_sub ?_ | refine o_bin ?_ | refine o_lenq ?_ | refine o_len ?_
  exact ct_ret ⟨.inr rfl, out_own rfl rfl rfl (by decide)⟩
def totL (ls : List (List LockL)) : Nat := (ls.map List.length).sum
theorem tot_cons (l : List LockL) (ls : List (List LockL)) : totL (l :: ls) = l.length + totL ls := by simp [totL]
theorem tot_flat (ls : List (List LockL)) : ls.flatten.length = totL ls := by simp [totL, List.length_flatten]
set_option maxHeartbeats 1000000 in
theorem concat_vc {q : PV} {ls : List (List LockL)} (hq : Sl q (ls.map encLL)) (hl : ls.length ≤ 1000000) (ht : totL ls ≤ 1000000) : VC Try.prog 66 [q] [] (ownV ⟨0, 0⟩ (ls.flatten.map encL)) [blkV 5 (ls.flatten.map encL)] := by
  refine vc_of vf66 ?_ (Nat.le_of_ble_eq_true rfl) (by intro vs h; cases h)
  have hml : (ls.map encLL).length = ls.length := List.length_map ..
  have htf := tot_flat ls
  repeat first | refine o_copy ?_ | refine nl ?_ | refine ct_seq ?_ | refine rg ?_ | refine ct_block ?_ | refine bq ?_ | refine o_loads ?_ | refine o_loadp ?_ | refine o_iaddr ?_ | refine o_iaddrO ?_ | refine o_iaddrR ?_ | refine o_add ?_ | refine o_cat ?_ | refine o_bin ?_ | refine o_lenq ?_ | refine o_len ?_
  refine ct_loopG (fun (g : Nat × Nat) => [(0, q), (3, .int .i64 g.2), (9, q), (10, .int .i64 (ls.map encLL).length), (11, .int .i64 g.1)])
    (fun g => []) (fun g => ls.length - g.1)
    (fun g => g.1 ≤ ls.length ∧ g.2 + totL (ls.drop g.1) = totL ls) (0, 0) goes ⟨Nat.zero_le _, by simp⟩ ?_
  rintro ⟨i, n⟩ ⟨hi, hn⟩
  dsimp only at hi hn ⊢
  repeat first | refine o_copy ?_ | refine nl ?_ | refine ct_seq ?_ | refine rg ?_ | refine ct_block ?_ | refine bq ?_ | refine o_loads ?_ | refine o_loadp ?_ | refine o_iaddr ?_ | refine o_iaddrO ?_ | refine o_iaddrR ?_ | refine o_add ?_ | refine o_cat ?_ | refine o_bin ?_ | refine o_lenq ?_ | refine o_len ?_
  refine cnd (fun h => ct_skip ?_) (fun h => ct_exit ?_)
  · have hlt : i < ls.length := by have h' := of_decide_eq_true h; omega
    obtain ⟨l, hl⟩ : ∃ x, ls[i]? = some x := ⟨_, List.getElem?_eq_getElem hlt⟩
    have hle := gm (enc := encLL) (n := (i : Int)) hl (by omega)
    rw [drop_get hl, tot_cons] at hn
    have hll : (l.map encL).length = l.length := List.length_map ..
    repeat first | refine o_copy ?_ | refine nl ?_ | refine ct_seq ?_ | refine rg ?_ | refine ct_block ?_ | refine bq ?_ | refine o_loads ?_ | refine o_loadp ?_ | refine o_iaddr ?_ | refine o_iaddrO ?_ | refine o_iaddrR ?_ | refine o_add ?_ | refine o_cat ?_ | refine o_bin ?_ | refine o_lenq ?_ | refine o_len ?_
    refine cndf (ct_skip ?_) rfl (decide_eq_false (by omega))
    repeat first | refine o_copy ?_ | refine nl ?_ | refine ct_seq ?_ | refine rg ?_ | refine ct_block ?_ | refine bq ?_ | refine o_loads ?_ | refine o_loadp ?_ | refine o_iaddr ?_ | refine o_iaddrO ?_ | refine o_iaddrR ?_ | refine o_add ?_ | refine o_cat ?_ | refine o_bin ?_ | refine o_lenq ?_ | refine o_len ?_
    exact agn (i + 1, n + l.length) ⟨by simp only; omega, by simp only; omega⟩ (goes (h1 := by
      refine ⟨rfl, ?_, rfl, rfl, rfl, trivial⟩
      exact congrArg (fun z => some (PV.int .i64 z)) (by simp only [hll]; omega)))
  have hge : i = ls.length := by have h' := of_decide_eq_false h; omega
  subst hge
  have hn2 : n = totL ls := by rw [List.drop_length] at hn; simpa [totL] using hn
  subst hn2
  clear hn h
  rcases Nat.eq_zero_or_pos (totL ls) with h0 | hpos
  · have hall : ∀ (m : List (List LockL)), totL m = 0 → ∀ l ∈ m, l = [] := by
      intro m
      induction m with
      | nil => intro _ l hl; cases hl
      | cons x m ih =>
        intro h l hl
        rw [tot_cons] at h
        rcases List.mem_cons.1 hl with rfl | hl
        · exact List.length_eq_zero_iff.1 (by omega)
        · exact ih (by omega) l hl
    have hfl : ls.flatten = [] := List.length_eq_zero_iff.1 (by omega)
    rw [hfl, h0]
    repeat first | refine o_copy ?_ | refine nl ?_ | refine ct_seq ?_ | refine rg ?_ | refine ct_block ?_ | refine bq ?_ | refine cv0 grow0_vc ?_ | refine o_loads ?_ | refine o_loadp ?_ | refine o_iaddr ?_ | refine o_iaddrO ?_ | refine o_iaddrR ?_ | refine o_add ?_ | refine o_cat ?_ | refine o_bin ?_ | refine o_lenq ?_ | refine o_len ?_
    refine ct_loopG (fun (g : Nat) => [(6, ownV ⟨1, 106512⟩ (([] : List LockL).map encL)), (25, q), (26, .int .i64 (ls.map encLL).length), (27, .int .i64 g)])
      (fun g => [(⟨1, 106512⟩, blkV 5 (([] : List LockL).map encL))]) (fun g => ls.length - g)
      (fun g => g ≤ ls.length) 0 ((Imp.nil (t := 6) (b := ⟨1, 106512⟩) (esz := 5) rfl rfl (by decide)).trans goes) (Nat.zero_le _) ?_
    intro i hi
    (try dsimp only)
    repeat first | refine o_copy ?_ | refine nl ?_ | refine ct_seq ?_ | refine rg ?_ | refine ct_block ?_ | refine bq ?_ | refine o_loads ?_ | refine o_loadp ?_ | refine o_iaddr ?_ | refine o_iaddrO ?_ | refine o_iaddrR ?_ | refine o_add ?_ | refine o_cat ?_ | refine o_bin ?_ | refine o_lenq ?_ | refine o_len ?_
    refine cnd (fun h => ct_skip ?_) (fun h => ct_exit ?_)
    · have hlt : i < ls.length := by have h' := of_decide_eq_true h; omega
      obtain ⟨l, hl⟩ : ∃ x, ls[i]? = some x := ⟨_, List.getElem?_eq_getElem hlt⟩
      have hle := gm (enc := encLL) (n := (i : Int)) hl (by omega)
      have hl0 := hall ls h0 l (List.mem_of_getElem? hl)
      subst hl0
      repeat first | refine o_copy ?_ | refine nl ?_ | refine ct_seq ?_ | refine rg ?_ | refine ct_block ?_ | refine bq ?_ | refine o_v (vaps encL [] []) ?_ | refine o_loads ?_ | refine o_loadp ?_ | refine o_iaddr ?_ | refine o_iaddrO ?_ | refine o_iaddrR ?_ | refine o_add ?_ | refine o_cat ?_ | refine o_bin ?_ | refine o_lenq ?_ | refine o_len ?_
      exact agn (i + 1) (by omega) goes
    · repeat first | refine o_copy ?_ | refine nl ?_ | refine ct_seq ?_ | refine rg ?_ | refine ct_block ?_ | refine bq ?_ | refine o_loads ?_ | refine o_loadp ?_ | refine o_iaddr ?_ | refine o_iaddrO ?_ | refine o_iaddrR ?_ | refine o_add ?_ | refine o_cat ?_ | refine o_bin ?_ | refine o_lenq ?_ | refine o_len ?_
      exact ct_ret ⟨.inr rfl, oOwn rfl⟩
  · have hrep : List.replicate (totL ls) (encL zL) = (List.replicate (totL ls) zL).map encL := by rw [List.map_replicate]
    have hg := grow_vc hpos ht
    rw [hrep] at hg
    generalize totL ls = N at *
    have hcl : (blkV 5 ((List.replicate N zL).map encL)).frz = false ∧ ∀ e ∈ (blkV 5 ((List.replicate N zL).map encL)).els, ∀ c ∈ e, cS c = true := ⟨rfl, by intro e he; obtain ⟨a, _, rfl⟩ := List.mem_map.1 he; simp [cS, cN, clean]⟩
    repeat first | refine o_copy ?_ | refine nl ?_ | refine ct_seq ?_ | refine rg ?_ | refine ct_block ?_ | refine bq ?_ | refine cv hg ?_ | refine o_loads ?_ | refine o_loadp ?_ | refine o_iaddr ?_ | refine o_iaddrO ?_ | refine o_iaddrR ?_ | refine o_add ?_ | refine o_cat ?_ | refine o_bin ?_ | refine o_lenq ?_ | refine o_len ?_
    refine ct_loopG (fun (g : Nat × List LockL) => [(6, .own ⟨1, 73736⟩ N 0 g.2.length), (25, q), (26, .int .i64 (ls.map encLL).length), (27, .int .i64 g.1)])
      (fun g => [(⟨1, 73736⟩, blkV 5 ((g.2 ++ List.replicate (N - g.2.length) zL).map encL))]) (fun g => ls.length - g.1)
      (fun g => g.1 ≤ ls.length ∧ g.2 ++ (ls.drop g.1).flatten = ls.flatten) (0, []) goes ⟨Nat.zero_le _, rfl⟩ ?_
    rintro ⟨i, o⟩ ⟨hi, hv⟩
    dsimp only at hi hv ⊢
    have hol := congrArg List.length hv
    rw [List.length_append, htf] at hol
    repeat first | refine o_copy ?_ | refine nl ?_ | refine ct_seq ?_ | refine rg ?_ | refine ct_block ?_ | refine bq ?_ | refine o_loads ?_ | refine o_loadp ?_ | refine o_iaddr ?_ | refine o_iaddrO ?_ | refine o_iaddrR ?_ | refine o_add ?_ | refine o_cat ?_ | refine o_bin ?_ | refine o_lenq ?_ | refine o_len ?_
    refine cnd (fun h => ct_skip ?_) (fun h => ct_exit ?_)
    · have hlt : i < ls.length := by have h' := of_decide_eq_true h; omega
      obtain ⟨l, hl⟩ : ∃ x, ls[i]? = some x := ⟨_, List.getElem?_eq_getElem hlt⟩
      have hle := gm (enc := encLL) (n := (i : Int)) hl (by omega)
      rw [drop_get hl, List.flatten_cons] at hv hol
      rw [List.length_append] at hol
      have e1 : o ++ l ++ (List.replicate (N - o.length) zL).drop l.length = (o ++ l) ++ List.replicate (N - (o ++ l).length) zL := by
        rw [List.drop_replicate, List.length_append]; congr 2; omega
      have hrl : (List.replicate (N - o.length) zL).length = N - o.length := List.length_replicate ..
      have e2 : o.length + l.length = (o ++ l).length := List.length_append.symm
      repeat first | refine o_copy ?_ | refine nl ?_ | refine ct_seq ?_ | refine rg ?_ | refine ct_block ?_ | refine bq ?_ | refine o_v (vapfE encL o l (List.replicate (N - o.length) zL) e1 e2) ?_ | refine o_loads ?_ | refine o_loadp ?_ | refine o_iaddr ?_ | refine o_iaddrO ?_ | refine o_iaddrR ?_ | refine o_add ?_ | refine o_cat ?_ | refine o_bin ?_ | refine o_lenq ?_ | refine o_len ?_
      refine agn (i + 1, o ++ l) ⟨by simp only; omega, by rw [← hv]; simp⟩ goes
    · have hge : i = ls.length := by have h' := of_decide_eq_false h; omega
      subst hge
      rw [List.drop_length] at hv hol
      rw [List.flatten_nil, List.append_nil] at hv
      rw [List.flatten_nil, List.length_nil] at hol
      subst hv
      simp only [htf, Nat.sub_self, List.replicate_zero, List.append_nil]
      repeat first | refine o_copy ?_ | refine nl ?_ | refine ct_seq ?_ | refine rg ?_ | refine ct_block ?_ | refine bq ?_ | refine o_loads ?_ | refine o_loadp ?_ | refine o_iaddr ?_ | refine o_iaddrO ?_ | refine o_iaddrR ?_ | refine o_add ?_ | refine o_cat ?_ | refine o_bin ?_ | refine o_lenq ?_ | refine o_len ?_
      exact ct_ret ⟨.inr rfl, oOwn rfl⟩
end Go.Proofs
open Go.V Go.Pu
set_option linter.unusedVariables false
set_option linter.unusedSimpArgs false
set_option maxRecDepth 20000
namespace Go.Proofs
/-- downspout/lock.remove -/
def vc55 : VCode :=
 (.seq
 (.region 0 false [
 ⟨(some 3), .box (.t 1), none, 0, []⟩,
 ⟨(some 4), .copy (.c .nils), none, 8, []⟩,
 ⟨(some 5), .copy (.c (.bool false)), none, 16, [1]⟩])
 (.seq
 (.seq
 (.region 1 false [
 ⟨(some 8), .copy (.t 0), none, 8192, []⟩,
 ⟨(some 9), .len (.t 8), none, 8200, [0]⟩,
 ⟨(some 10), .copy (.c (.int .i64 0)), none, 8208, []⟩])
 (.block 0
 (.loop
 (.seq
 (.region 2 false [
 ⟨(some 11), .bin .lss (.t 10) (.t 9), none, 16384, []⟩])
 (.seq
 (.cond (.t 11)
 .skip
 (.exit 0))
 (.seq
 (.block 1
 (.seq
 (.region 3 false [
 ⟨(some 12), .copy (.t 10), none, 24576, []⟩,
 ⟨(some 13), .iaddr 5 (.t 8) (.t 10), none, 24584, []⟩,
 ⟨(some 14), .load true 5 (.t 13), none, 24592, [1]⟩,
 ⟨(some 7), .alloc [(.int .i64 0), (.str []), (.int .i64 0), (.int .i64 0), (.bool false)], none, 24600, []⟩,
 ⟨(some 6), .copy (.t 12), none, 24608, [0, 1, 2, 3]⟩,
 ⟨none, .store 5 (.t 7) (.t 14), none, 24616, [3, 2, 1, 4, 0]⟩])
 (.seq
 (.region 4 false [
 ⟨(some 15), .load true 5 (.t 7), none, 32768, []⟩,
 ⟨(some 16), .load true 5 (.t 3), none, 32776, []⟩,
 ⟨(some 17), .eqc false [1, 2, 1, 1, 0] (.t 15) (.t 16), none, 32784, [0, 1]⟩])
 (.cond (.t 17)
 (.seq
 (.region 5 true [
 ⟨(some 18), .copy (.t 0), none, 40960, []⟩,
 ⟨(some 19), .copy (.t 6), none, 40968, []⟩,
 ⟨(some 20), .slsl 5 (.t 18) none (some (.t 19)) none, none, 40976, [0, 1]⟩,
 ⟨(some 21), .copy (.t 0), none, 40984, []⟩,
 ⟨(some 22), .copy (.t 6), none, 40992, []⟩,
 ⟨(some 23), .bin .add (.t 22) (.c (.int .i64 1)), none, 41000, [4]⟩,
 ⟨(some 24), .slsl 5 (.t 21) (some (.t 23)) none none, none, 41008, [3, 5, 4]⟩,
 ⟨(some 25), .bslice 1 [.nils] 2 [(0, (.t 20)), (1, (.t 24))], none, 41016, [2, 0, 1, 6, 3, 5, 4]⟩,
 ⟨(some 26), .call (.c (.fn 66 [])) [(.t 25)], none, 41024, [7, 2, 0, 1, 6, 3, 5, 4]⟩,
 ⟨(some 4), .copy (.t 26), none, 41032, [8, 7, 2, 0, 1, 6, 3, 5, 4]⟩,
 ⟨(some 5), .copy (.c (.bool true)), none, 41040, [9, 8, 7, 2, 0, 1, 6, 3, 5, 4]⟩])
 .ret)
 .skip))))
 (.region 6 false [
 ⟨(some 27), .bin .add (.t 10) (.c (.int .i64 1)), none, 49152, []⟩,
 ⟨(some 10), .copy (.t 27), none, 49160, [0]⟩])))))))
 (.seq
 (.region 7 false [
 ⟨(some 28), .copy (.t 0), none, 57344, []⟩,
 ⟨(some 4), .copy (.t 28), none, 57352, [0]⟩,
 ⟨(some 5), .copy (.c (.bool false)), none, 57360, [1, 0]⟩])
 .ret)))
theorem vf55 : VF Try.prog 55 = some (29, vc55, [.tmp 4, .tmp 5]) := by kernel_rfl
theorem not_mem_idx {l : List LockL} {x : LockL} {i : Nat} (hx : l[i]? = some x) (hv : x ∉ l.take i) : l.findIdx (· == x) = i := by
  have hls : l = l.take i ++ x :: l.drop (i + 1) := by rw [← drop_get hx, List.take_append_drop]
  have hi : i < l.length := (List.getElem?_eq_some_iff.1 hx).1
  rw [hls, List.findIdx_append, if_neg]
  · simp [List.findIdx_cons]; omega
  · intro h4
    have h5 := List.findIdx_getElem (w := h4)
    simp only [beq_iff_eq] at h5
    exact hv (h5 ▸ List.getElem_mem _)
set_option maxHeartbeats 2000000 in
theorem remove_vc {l : List LockL} (hl : l.length ≤ 60000) (x : LockL) : VC Try.prog 55 [.sh false (l.map encL), .agg (encL x)] [] (.tup [.sh false ((if x ∈ l then outL l x else l).map encL), .bool (decide (x ∈ l))]) [] := by
  refine vc_of vf55 ?_ (Nat.le_of_ble_eq_true rfl) (by intro vs h; cases h; simp)
  repeat first | refine o_copy ?_ | refine nl ?_ | refine ct_seq ?_ | refine rg ?_ | refine ct_block ?_ | refine bq ?_ | refine o_iaddr ?_ | refine o_iaddrO ?_ | refine o_iaddrR ?_ | refine o_add ?_ | refine o_cat ?_ | refine o_bin ?_ | refine o_lenq ?_ | refine o_len ?_ | refine o_loadsA ?_ | refine o_loadpA ?_ | refine o_box ?_ | refine o_alloc ?_ | refine o_bslice ?_ | refine o_store ?_ | refine o_eqc ?_
  refine ct_loopG (fun (g : Nat) => [(0, .sh false (l.map encL)), (3, .ptr ⟨1, 0⟩ 1 0 0), (8, .sh false (l.map encL)), (9, .int .i64 (l.map encL).length), (10, .int .i64 g)]) (fun g => [(⟨1, 0⟩, ⟨true, false, 5, [encL x]⟩)]) (fun g => l.length - g)
    (fun g => g ≤ l.length ∧ x ∉ l.take g) 0 goesD ⟨Nat.zero_le _, by simp⟩ ?_
  rintro i ⟨hi, hv⟩
  repeat first | refine o_copy ?_ | refine nl ?_ | refine ct_seq ?_ | refine rg ?_ | refine ct_block ?_ | refine bq ?_ | refine o_iaddr ?_ | refine o_iaddrO ?_ | refine o_iaddrR ?_ | refine o_add ?_ | refine o_cat ?_ | refine o_bin ?_ | refine o_lenq ?_ | refine o_len ?_ | refine o_loadsA ?_ | refine o_loadpA ?_ | refine o_box ?_ | refine o_alloc ?_ | refine o_bslice ?_ | refine o_store ?_ | refine o_eqc ?_
  refine cnd (fun h => ct_skip ?_) (fun h => ct_exit ?_)
  · have hlt : i < l.length := by have h' := of_decide_eq_true h; simp only [List.length_map] at h'; omega
    obtain ⟨y, hy⟩ : ∃ y, l[i]? = some y := ⟨_, List.getElem?_eq_getElem hlt⟩
    have hxe := gm (enc := encL) (n := (i : Int)) hy (by omega)
    repeat first | refine o_copy ?_ | refine nl ?_ | refine ct_seq ?_ | refine rg ?_ | refine ct_block ?_ | refine bq ?_ | refine o_v (veqL y x) ?_ | refine o_iaddr ?_ | refine o_iaddrO ?_ | refine o_iaddrR ?_ | refine o_add ?_ | refine o_cat ?_ | refine o_bin ?_ | refine o_lenq ?_ | refine o_len ?_ | refine o_loadsA ?_ | refine o_loadpA ?_ | refine o_box ?_ | refine o_alloc ?_ | refine o_bslice ?_ | refine o_store ?_ | refine o_eqc ?_
    refine cnd (fun h2 => ?_) (fun h2 => ct_skip ?_)
    · have h2 : y = x := by simpa using h2
      subst h2
      have hm : y ∈ l := List.mem_of_getElem? hy
      have e : outL l y = [l.take i, l.drop (i + 1)].flatten := by
        unfold outL withoutL
        rw [not_mem_idx hy hv]
        simp
      rw [if_pos hm, decide_eq_true hm, e]
      have hw : IntKind.i64.wrap ((i : Int) + 1) = ((i + 1 : Nat) : Int) := wrap64 (by omega) (by omega)
      have hc := concat_vc (q := .sh false ([l.take i, l.drop (i + 1)].map encLL)) (ls := [l.take i, l.drop (i + 1)]) Sl.sh (by simp) (by simp [totL]; omega)
      have hc2 := vc_close (q := .sh false ([l.take i, l.drop (i + 1)].flatten.map encL)) (rd := [⟨0, 0⟩]) hc (l_own rfl rfl)
      repeat first | refine o_copy ?_ | refine nl ?_ | refine ct_seq ?_ | refine rg ?_ | refine ct_block ?_ | refine bq ?_ | refine o_v (slL l 0 i (Nat.zero_le _) (by omega)) ?_ | refine o_addE ?_ | refine o_v (slR l (i + 1) (by omega)) ?_ | refine cf hc2 ?_ | refine o_iaddr ?_ | refine o_iaddrO ?_ | refine o_iaddrR ?_ | refine o_add ?_ | refine o_cat ?_ | refine o_bin ?_ | refine o_lenq ?_ | refine o_len ?_ | refine o_loadsA ?_ | refine o_loadpA ?_ | refine o_box ?_ | refine o_alloc ?_ | refine o_bslice ?_ | refine o_store ?_ | refine o_eqc ?_
      exact ct_ret ⟨.inr rfl, oAny rfl⟩
    · have h2 : ¬ y = x := by simpa using h2
      repeat first | refine o_copy ?_ | refine nl ?_ | refine ct_seq ?_ | refine rg ?_ | refine ct_block ?_ | refine bq ?_ | refine o_iaddr ?_ | refine o_iaddrO ?_ | refine o_iaddrR ?_ | refine o_add ?_ | refine o_cat ?_ | refine o_bin ?_ | refine o_lenq ?_ | refine o_len ?_ | refine o_loadsA ?_ | refine o_loadpA ?_ | refine o_box ?_ | refine o_alloc ?_ | refine o_bslice ?_ | refine o_store ?_ | refine o_eqc ?_
      refine agn (Q := fun _ _ => True) (i + 1) ⟨by omega, ?_⟩ goesD
      rw [List.take_add_one, hy]
      simp only [Option.toList, List.mem_append, List.mem_singleton, not_or]
      exact ⟨hv, fun e => h2 e.symm⟩
  · have hge : i = l.length := by have h' := of_decide_eq_false h; simp only [List.length_map] at h'; omega
    subst hge
    rw [List.take_length] at hv
    rw [if_neg hv, decide_eq_false hv]
    repeat first | refine o_copy ?_ | refine nl ?_ | refine ct_seq ?_ | refine rg ?_ | refine ct_block ?_ | refine bq ?_ | refine o_iaddr ?_ | refine o_iaddrO ?_ | refine o_iaddrR ?_ | refine o_add ?_ | refine o_cat ?_ | refine o_bin ?_ | refine o_lenq ?_ | refine o_len ?_ | refine o_loadsA ?_ | refine o_loadpA ?_ | refine o_box ?_ | refine o_alloc ?_ | refine o_bslice ?_ | refine o_store ?_ | refine o_eqc ?_
    exact ct_ret ⟨.inr rfl, oAny rfl⟩
end Go.Proofs
open Go.V Go.Pu
set_option linter.unusedVariables false
set_option linter.unusedSimpArgs false
set_option maxRecDepth 20000
namespace Go.Proofs
/-- downspout/lock.Drop -/
def vc35 : VCode :=
 (.seq
 (.region 0 false [
 ⟨(some 2), .box (.t 0), none, 0, []⟩,
 ⟨(some 3), .box (.t 1), none, 8, []⟩,
 ⟨(some 4), .alloc [.nils, .nils], none, 16, []⟩,
 ⟨(some 5), .copy (.c .nils), none, 24, []⟩,
 ⟨(some 6), .copy (.c (.int .i64 0)), none, 32, [3]⟩])
 (.seq
 (.region 1 false [
 ⟨(some 13), .faddr 0 (.t 2), none, 8192, []⟩,
 ⟨(some 14), .load false 1 (.t 13), none, 8200, [0]⟩,
 ⟨(some 15), .load true 5 (.t 3), none, 8208, []⟩,
 ⟨(some 16), .call (.c (.fn 55 [])) [(.t 14), (.t 15)], none, 8216, [1, 0, 2]⟩,
 ⟨(some 12), .copy (.t 16), none, 8224, [3, 1, 0, 2]⟩,
 ⟨(some 17), .extract (.t 12) 0, none, 8232, [4, 3, 1, 0, 2]⟩,
 ⟨(some 18), .extract (.t 12) 1, none, 8240, [4, 3, 1, 0, 2]⟩,
 ⟨(some 7), .copy (.t 17), none, 8248, [5, 4, 3, 1, 0, 2]⟩,
 ⟨(some 8), .copy (.t 18), none, 8256, [6, 4, 3, 1, 0, 2, 7, 5]⟩])
 (.seq
 (.region 2 false [
 ⟨(some 19), .faddr 1 (.t 2), none, 16384, []⟩,
 ⟨(some 20), .load false 1 (.t 19), none, 16392, [0]⟩,
 ⟨(some 9), .copy (.t 20), none, 16400, [1, 0]⟩])
 (.seq
 (.seq
 (.region 3 false [
 ⟨(some 21), .copy (.t 8), none, 24576, []⟩,
 ⟨(some 22), .not (.t 21), none, 24584, [0]⟩])
 (.cond (.t 22)
 (.seq
 (.region 4 false [
 ⟨(some 24), .faddr 1 (.t 2), none, 32768, []⟩,
 ⟨(some 25), .load false 1 (.t 24), none, 32776, [0]⟩,
 ⟨(some 26), .load true 5 (.t 3), none, 32784, []⟩,
 ⟨(some 27), .call (.c (.fn 55 [])) [(.t 25), (.t 26)], none, 32792, [1, 0, 2]⟩,
 ⟨(some 23), .copy (.t 27), none, 32800, [3, 1, 0, 2]⟩,
 ⟨(some 28), .extract (.t 23) 0, none, 32808, [4, 3, 1, 0, 2]⟩,
 ⟨(some 29), .extract (.t 23) 1, none, 32816, [4, 3, 1, 0, 2]⟩,
 ⟨(some 9), .copy (.t 28), none, 32824, [5, 4, 3, 1, 0, 2]⟩,
 ⟨(some 8), .copy (.t 29), none, 32832, [6, 4, 3, 1, 0, 2, 7, 5]⟩])
 (.seq
 (.region 5 false [
 ⟨(some 30), .copy (.t 8), none, 40960, []⟩,
 ⟨(some 31), .not (.t 30), none, 40968, [0]⟩])
 (.cond (.t 31)
 (.seq
 (.region 6 false [
 ⟨(some 32), .load true 2 (.t 2), none, 49152, []⟩,
 ⟨none, .store 2 (.t 4) (.t 32), none, 49160, [0]⟩,
 ⟨(some 5), .copy (.c .nils), none, 49168, [1, 0]⟩,
 ⟨(some 6), .copy (.c (.int .i64 330)), none, 49176, [2, 1, 0]⟩])
 .ret)
 .skip)))
 .skip))
 (.seq
 (.region 7 false [
 ⟨(some 34), .copy (.t 7), none, 57344, []⟩,
 ⟨(some 35), .copy (.t 9), none, 57352, []⟩,
 ⟨(some 36), .call (.c (.fn 46 [])) [(.t 34), (.t 35)], none, 57360, [0, 1]⟩,
 ⟨(some 33), .copy (.t 36), none, 57368, [2, 0, 1]⟩,
 ⟨(some 37), .extract (.t 33) 0, none, 57376, [3, 2, 0, 1]⟩,
 ⟨(some 38), .extract (.t 33) 1, none, 57384, [3, 2, 0, 1]⟩,
 ⟨(some 10), .alloc [.nils, .nils], none, 57392, []⟩,
 ⟨none, .store 2 (.t 10) (.t 37), none, 57400, [6, 4, 3, 2, 0, 1]⟩,
 ⟨(some 11), .copy (.t 38), none, 57408, [5, 3, 2, 0, 1, 7, 6, 4]⟩])
 (.seq
 (.region 8 false [
 ⟨(some 39), .load true 2 (.t 10), none, 65536, []⟩,
 ⟨(some 40), .copy (.t 11), none, 65544, []⟩,
 ⟨none, .store 2 (.t 4) (.t 39), none, 65552, [0]⟩,
 ⟨(some 5), .copy (.t 40), none, 65560, [1, 2, 0]⟩,
 ⟨(some 6), .copy (.c (.int .i64 0)), none, 65568, [3, 1, 2, 0]⟩])
 .ret))))))
theorem vf35 : VF Try.prog 35 = some (41, vc35, [.cell true 2 4, .tmp 5, .tmp 6]) := by kernel_rfl
/-- What Drop hands back: the locks, what was granted, an error. -/
abbrev encD (g : GrL) : List PV := [.agg (encLs g.l), .sh false (g.g.map encL), .int .i64 g.e]
theorem pgr_vc {l : LocksL} (hl : l.held.length + l.waits.length ≤ 20000) : VC Try.prog 46 [.sh false (l.held.map encL), .sh false (l.waits.map encL)] [] (.tup [.agg (encLs (grG pmt l).l), .sh false ((grG pmt l).g.map encL)]) [] := by
  rcases hr : grantF pmt l.waits l.held [] [] with ⟨h, w, g⟩
  have := grant_vc hl hr
  have e : grG pmt l = ⟨⟨h, w⟩, g, 0⟩ := by unfold grG; rw [hr]
  rw [e]
  exact this
theorem grG_e (m : LockL → List LockL → Bool) (l : LocksL) : (grG m l).e = 0 := rfl
theorem outL_len {l : List LockL} {x : LockL} (h : x ∈ l) : (outL l x).length ≤ l.length := by
  have := without_len (findI_mem h).2
  unfold outL
  omega
set_option maxHeartbeats 4000000 in
theorem drop_vc {l : LocksL} (hl : l.held.length + l.waits.length ≤ 10000) (x : LockL) : VC Try.prog 35 [.agg (encLs l), .agg (encL x)] [] (.tup (encD (dropG pmt l x))) [] := by
  have hf1 := remove_vc (l := l.held) (by omega) x
  have hf2 := remove_vc (l := l.waits) (by omega) x
  by_cases h1 : x ∈ l.held
  · have e : dropG pmt l x = grG pmt ⟨outL l.held x, l.waits⟩ := by unfold dropG; rw [if_pos h1]
    have hlen := outL_len h1
    have hg := pgr_vc (l := ⟨outL l.held x, l.waits⟩) (by simp only; omega)
    rw [e]
    show VC Try.prog 35 [.agg (encLs l), .agg (encL x)] [] (.tup [.agg (encLs (grG pmt ⟨outL l.held x, l.waits⟩).l), .sh false ((grG pmt ⟨outL l.held x, l.waits⟩).g.map encL), .int .i64 0]) []
    rw [if_pos h1, decide_eq_true h1] at hf1
    refine vc_of vf35 ?_ (Nat.le_of_ble_eq_true rfl) (by intro vs h; cases h; simp)
    repeat first | refine o_copy ?_ | refine nl ?_ | refine ct_seq ?_ | refine rg ?_ | refine ct_block ?_ | refine bq ?_ | refine cf hf1 ?_ | refine o_loads ?_ | refine o_loadp ?_ | refine o_faddr ?_ | refine o_loadsA ?_ | refine o_loadpA ?_ | refine o_box ?_ | refine o_alloc ?_ | refine o_store ?_ | refine o_not ?_ | refine o_extract ?_
    refine cndf (ct_skip ?_)
    repeat first | refine o_copy ?_ | refine nl ?_ | refine ct_seq ?_ | refine rg ?_ | refine ct_block ?_ | refine bq ?_ | refine cf hg ?_ | refine o_loads ?_ | refine o_loadp ?_ | refine o_faddr ?_ | refine o_loadsA ?_ | refine o_loadpA ?_ | refine o_box ?_ | refine o_alloc ?_ | refine o_store ?_ | refine o_not ?_ | refine o_extract ?_
    exact ct_ret ⟨.inr rfl, oAny rfl⟩
  · rw [if_neg h1, decide_eq_false h1] at hf1
    by_cases h2 : x ∈ l.waits
    · have e : dropG pmt l x = grG pmt ⟨l.held, outL l.waits x⟩ := by unfold dropG; rw [if_neg h1, if_pos h2]
      have hlen := outL_len h2
      have hg := pgr_vc (l := ⟨l.held, outL l.waits x⟩) (by simp only; omega)
      rw [e]
      show VC Try.prog 35 [.agg (encLs l), .agg (encL x)] [] (.tup [.agg (encLs (grG pmt ⟨l.held, outL l.waits x⟩).l), .sh false ((grG pmt ⟨l.held, outL l.waits x⟩).g.map encL), .int .i64 0]) []
      rw [if_pos h2, decide_eq_true h2] at hf2
      refine vc_of vf35 ?_ (Nat.le_of_ble_eq_true rfl) (by intro vs h; cases h; simp)
      repeat first | refine o_copy ?_ | refine nl ?_ | refine ct_seq ?_ | refine rg ?_ | refine ct_block ?_ | refine bq ?_ | refine cf hf1 ?_ | refine o_loads ?_ | refine o_loadp ?_ | refine o_faddr ?_ | refine o_loadsA ?_ | refine o_loadpA ?_ | refine o_box ?_ | refine o_alloc ?_ | refine o_store ?_ | refine o_not ?_ | refine o_extract ?_
      refine cndt ?_
      repeat first | refine o_copy ?_ | refine nl ?_ | refine ct_seq ?_ | refine rg ?_ | refine ct_block ?_ | refine bq ?_ | refine cf hf2 ?_ | refine o_loads ?_ | refine o_loadp ?_ | refine o_faddr ?_ | refine o_loadsA ?_ | refine o_loadpA ?_ | refine o_box ?_ | refine o_alloc ?_ | refine o_store ?_ | refine o_not ?_ | refine o_extract ?_
      refine cndf (ct_skip ?_)
      repeat first | refine o_copy ?_ | refine nl ?_ | refine ct_seq ?_ | refine rg ?_ | refine ct_block ?_ | refine bq ?_ | refine cf hg ?_ | refine o_loads ?_ | refine o_loadp ?_ | refine o_faddr ?_ | refine o_loadsA ?_ | refine o_loadpA ?_ | refine o_box ?_ | refine o_alloc ?_ | refine o_store ?_ | refine o_not ?_ | refine o_extract ?_
      exact ct_ret ⟨.inr rfl, oAny rfl⟩
    · have e : dropG pmt l x = ⟨l, [], 330⟩ := by unfold dropG; rw [if_neg h1, if_neg h2]
      rw [e]
      rw [if_neg h2, decide_eq_false h2] at hf2
      refine vc_weak (v := .tup [.agg (encLs l), .nils, .int .i64 330]) ?_ all2_refl ?_
      · refine vc_of vf35 ?_ (Nat.le_of_ble_eq_true rfl) (by intro vs h; cases h; simp)
        repeat first | refine o_copy ?_ | refine nl ?_ | refine ct_seq ?_ | refine rg ?_ | refine ct_block ?_ | refine bq ?_ | refine cf hf1 ?_ | refine o_loads ?_ | refine o_loadp ?_ | refine o_faddr ?_ | refine o_loadsA ?_ | refine o_loadpA ?_ | refine o_box ?_ | refine o_alloc ?_ | refine o_store ?_ | refine o_not ?_ | refine o_extract ?_
        refine cndt ?_
        repeat first | refine o_copy ?_ | refine nl ?_ | refine ct_seq ?_ | refine rg ?_ | refine ct_block ?_ | refine bq ?_ | refine cf hf2 ?_ | refine o_loads ?_ | refine o_loadp ?_ | refine o_faddr ?_ | refine o_loadsA ?_ | refine o_loadpA ?_ | refine o_box ?_ | refine o_alloc ?_ | refine o_store ?_ | refine o_not ?_ | refine o_extract ?_
        refine cndt ?_
        repeat first | refine o_copy ?_ | refine nl ?_ | refine ct_seq ?_ | refine rg ?_ | refine ct_block ?_ | refine bq ?_ | refine o_loads ?_ | refine o_loadp ?_ | refine o_faddr ?_ | refine o_loadsA ?_ | refine o_loadpA ?_ | refine o_box ?_ | refine o_alloc ?_ | refine o_store ?_ | refine o_not ?_ | refine o_extract ?_
        exact ct_ret ⟨.inr rfl, oAny rfl⟩
      · exact PLe.tup (.cons (fun _ _ _ _ _ h => h) (.cons ((CLe.nils.s rfl).a rfl) (.cons (fun _ _ _ _ _ h => h) .nil)))
end Go.Proofs
