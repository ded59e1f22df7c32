/- Sb -/
import Derived.Test.YtoeihplmffcgcaaSa
import Derived.Test.YtoeihplmffcgcaaVD
open Go.V Go.Pu
set_option linter.unusedVariables false
set_option linter.unusedSimpArgs false
set_option maxRecDepth 20000
namespace Go.Proofs
/-- downspout/sched.Run -/
def vc12 : VCode :=
 (.seq
 (.region 0 false [
 ⟨(some 2), .box (.t 0), none, 0, []⟩,
 ⟨(some 3), .box (.t 1), none, 8, []⟩,
 ⟨(some 4), .alloc [.nils, .nils, (.int .i64 0), .nils], none, 16, []⟩,
 ⟨(some 5), .copy (.c .nils), none, 24, []⟩])
 (.seq
 (.region 1 false [
 ⟨(some 8), .load true 4 (.t 2), none, 8192, []⟩,
 ⟨(some 9), .call (.c (.fn 25 [])) [(.t 8)], none, 8200, [0]⟩,
 ⟨none, .store 4 (.t 2) (.t 9), none, 8208, [1, 0]⟩])
 (.seq
 (.region 2 false [
 ⟨(some 6), .alloc [.nils], none, 16384, []⟩])
 (.seq
 (.seq
 (.region 3 false [
 ⟨(some 10), .call (.c (.fn 26 [])) [(.t 2)], none, 24576, []⟩])
 (.block 0
 (.range (.t 10) [11]
 (.region 4 false [
 ⟨(some 7), .alloc [(.int .i64 0), (.int .i64 0), (.int .i64 0)], none, 32768, []⟩,
 ⟨none, .store 3 (.t 7) (.t 11), none, 32776, [0]⟩])
 (.block 1
 (.seq
 (.seq
 (.region 5 false [
 ⟨(some 12), .faddr 2 (.t 7), none, 40960, []⟩,
 ⟨(some 13), .load false 1 (.t 12), none, 40968, [0]⟩,
 ⟨(some 14), .load false 1 (.t 3), none, 40976, []⟩,
 ⟨(some 15), .bin .gtr (.t 13) (.t 14), none, 40984, [1, 0, 2]⟩])
 (.cond (.t 15)
 (.exit 0)
 .skip))
 (.seq
 (.region 6 false [
 ⟨(some 16), .load false 1 (.t 3), none, 49152, []⟩,
 ⟨(some 17), .faddr 2 (.t 7), none, 49160, []⟩,
 ⟨(some 18), .load false 1 (.t 17), none, 49168, [1]⟩,
 ⟨(some 19), .bin .sub (.t 16) (.t 18), none, 49176, [0, 2, 1]⟩,
 ⟨none, .store 1 (.t 3) (.t 19), none, 49184, [3, 0, 2, 1]⟩])
 (.region 7 false [
 ⟨(some 20), .load false 1 (.t 6), none, 57344, []⟩,
 ⟨(some 21), .load true 3 (.t 7), none, 57352, []⟩,
 ⟨(some 22), .bslice 3 [(.int .i64 0), (.int .i64 0), (.int .i64 0)] 1 [(0, (.t 21))], none, 57360, [1]⟩,
 ⟨(some 23), .append 3 24 [(.int .i64 0), (.int .i64 0), (.int .i64 0)] (.t 20) (.t 22), none, 57368, [0, 2, 1]⟩,
 ⟨none, .store 1 (.t 6) (.t 23), none, 57376, [3, 0, 2, 1]⟩])))))))
 (.seq
 (.region 8 true [
 ⟨(some 24), .load true 4 (.t 2), none, 65536, []⟩,
 ⟨(some 25), .load false 1 (.t 6), none, 65544, []⟩,
 ⟨none, .store 4 (.t 4) (.t 24), none, 65552, [0]⟩,
 ⟨(some 5), .copy (.t 25), none, 65560, [1, 2, 0]⟩])
 .ret)))))
theorem vf12 : VF Try.prog 12 = some (26, vc12, [.cell true 4 4, .tmp 5]) := by kernel_rfl
/-- downspout/sched.jobs -/
def vc26 : VCode :=
 (.seq
 (.region 0 false [
 ⟨(some 1), .box (.t 0), none, 0, []⟩,
 ⟨(some 2), .copy (.c .nilf), none, 8, []⟩])
 (.seq
 (.region 1 false [
 ⟨(some 3), .fn 34 [(.t 1)], none, 8192, []⟩,
 ⟨(some 2), .copy (.t 3), none, 8200, [0]⟩])
 .ret))
theorem vf26 : VF Try.prog 26 = some (4, vc26, [.tmp 2]) := by kernel_rfl
/-- downspout/sched.jobs$1 -/
def vc34 : VCode :=
 (.block 0
 (.loop
 (.seq
 (.seq
 (.region 0 false [
 ⟨(some 5), .load false 1 (.t 1), none, 0, []⟩,
 ⟨(some 6), .nilc (.t 5), none, 8, [0]⟩,
 ⟨(some 7), .load true 4 (.t 6), none, 16, [1, 0]⟩,
 ⟨(some 8), .call (.c (.fn 29 [])) [(.t 7)], none, 24, [2, 1, 0]⟩,
 ⟨(some 9), .bin .gtr (.t 8) (.c (.int .i64 0)), none, 32, [3, 2, 1, 0]⟩])
 (.cond (.t 9)
 .skip
 (.exit 0)))
 (.block 1
 (.seq
 (.region 1 false [
 ⟨(some 10), .load false 1 (.t 1), none, 8192, []⟩,
 ⟨(some 11), .nilc (.t 10), none, 8200, [0]⟩,
 ⟨(some 12), .faddr 2 (.t 11), none, 8208, [1, 0]⟩,
 ⟨(some 13), .load false 1 (.t 12), none, 8216, [2, 1, 0]⟩,
 ⟨(some 3), .copy (.t 13), none, 8224, [3, 2, 1, 0]⟩])
 (.seq
 (.region 2 false [
 ⟨(some 14), .load false 1 (.t 1), none, 16384, []⟩,
 ⟨(some 15), .nilc (.t 14), none, 16392, [0]⟩,
 ⟨(some 16), .faddr 3 (.t 15), none, 16400, [1, 0]⟩,
 ⟨(some 17), .load false 1 (.t 16), none, 16408, [2, 1, 0]⟩,
 ⟨(some 18), .copy (.t 3), none, 16416, []⟩,
 ⟨(some 19), .iaddr 1 (.t 17) (.t 18), none, 16424, [3, 2, 1, 0, 4]⟩,
 ⟨(some 20), .load false 1 (.t 19), none, 16432, [5, 3, 2, 1, 0, 4]⟩,
 ⟨(some 4), .copy (.t 20), none, 16440, [6, 5, 3, 2, 1, 0, 4]⟩])
 (.seq
 (.block 2
 (.seq
 (.region 3 false [
 ⟨(some 22), .copy (.t 4), none, 24576, []⟩,
 ⟨(some 23), .len (.t 22), none, 24584, [0]⟩,
 ⟨(some 24), .bin .eql (.t 23) (.c (.int .i64 0)), none, 24592, [1, 0]⟩,
 ⟨(some 21), .copy (.t 24), none, 24600, [2, 1, 0]⟩])
 (.cond (.t 21)
 (.region 4 false [
 ⟨(some 25), .load false 1 (.t 1), none, 32768, []⟩,
 ⟨(some 26), .nilc (.t 25), none, 32776, [0]⟩,
 ⟨(some 27), .faddr 1 (.t 26), none, 32784, [1, 0]⟩,
 ⟨(some 28), .load false 1 (.t 27), none, 32792, [2, 1, 0]⟩,
 ⟨(some 29), .copy (.t 3), none, 32800, []⟩,
 ⟨(some 30), .iaddr 1 (.t 28) (.t 29), none, 32808, [3, 2, 1, 0, 4]⟩,
 ⟨none, .store 1 (.t 30) (.c (.int .i64 0)), none, 32816, [5, 3, 2, 1, 0, 4]⟩])
 (.seq
 (.region 5 true [
 ⟨(some 32), .copy (.t 4), none, 40960, []⟩,
 ⟨(some 33), .iaddr 3 (.t 32) (.c (.int .i64 0)), none, 40968, [0]⟩,
 ⟨(some 34), .faddr 2 (.t 33), none, 40976, [1, 0]⟩,
 ⟨(some 35), .load false 1 (.t 34), none, 40984, [2, 1, 0]⟩,
 ⟨(some 36), .load false 1 (.t 1), none, 40992, []⟩,
 ⟨(some 37), .nilc (.t 36), none, 41000, [4]⟩,
 ⟨(some 38), .faddr 1 (.t 37), none, 41008, [5, 4]⟩,
 ⟨(some 39), .load false 1 (.t 38), none, 41016, [6, 5, 4]⟩,
 ⟨(some 40), .copy (.t 3), none, 41024, []⟩,
 ⟨(some 41), .iaddr 1 (.t 39) (.t 40), none, 41032, [7, 6, 5, 4, 8]⟩,
 ⟨(some 42), .load false 1 (.t 41), none, 41040, [9, 7, 6, 5, 4, 8]⟩,
 ⟨(some 43), .bin .leq (.t 35) (.t 42), none, 41048, [3, 2, 1, 0, 10, 9, 7, 6, 5, 4, 8]⟩,
 ⟨(some 31), .copy (.t 43), none, 41056, [11, 3, 2, 1, 0, 10, 9, 7, 6, 5, 4, 8]⟩])
 (.cond (.t 31)
 (.seq
 (.seq
 (.region 6 false [
 ⟨(some 44), .copy (.t 0), none, 49152, []⟩,
 ⟨(some 45), .copy (.t 4), none, 49160, []⟩,
 ⟨(some 46), .iaddr 3 (.t 45) (.c (.int .i64 0)), none, 49168, [1]⟩,
 ⟨(some 47), .load true 3 (.t 46), none, 49176, [2, 1]⟩,
 ⟨(some 48), .call (.t 44) [(.t 47)], none, 49184, [0, 3, 2, 1]⟩,
 ⟨(some 49), .not (.t 48), none, 49192, [4, 0, 3, 2, 1]⟩])
 (.cond (.t 49)
 .ret
 .skip))
 (.seq
 (.region 7 true [
 ⟨(some 50), .load false 1 (.t 1), none, 57344, []⟩,
 ⟨(some 51), .nilc (.t 50), none, 57352, [0]⟩,
 ⟨(some 52), .faddr 1 (.t 51), none, 57360, [1, 0]⟩,
 ⟨(some 53), .load false 1 (.t 52), none, 57368, [2, 1, 0]⟩,
 ⟨(some 54), .copy (.t 3), none, 57376, []⟩,
 ⟨(some 55), .iaddr 1 (.t 53) (.t 54), none, 57384, [3, 2, 1, 0, 4]⟩,
 ⟨(some 56), .load false 1 (.t 55), none, 57392, [5, 3, 2, 1, 0, 4]⟩,
 ⟨(some 57), .copy (.t 4), none, 57400, []⟩,
 ⟨(some 58), .iaddr 3 (.t 57) (.c (.int .i64 0)), none, 57408, [7]⟩,
 ⟨(some 59), .faddr 2 (.t 58), none, 57416, [8, 7]⟩,
 ⟨(some 60), .load false 1 (.t 59), none, 57424, [9, 8, 7]⟩,
 ⟨(some 61), .bin .sub (.t 56) (.t 60), none, 57432, [6, 5, 3, 2, 1, 0, 4, 10, 9, 8, 7]⟩,
 ⟨(some 62), .iaddr 1 (.t 53) (.t 54), none, 57440, [3, 2, 1, 0, 4, 5, 6, 7, 8, 9, 10, 11]⟩,
 ⟨none, .store 1 (.t 62) (.t 61), none, 57448, [12, 3, 2, 1, 0, 4, 5, 6, 7, 8, 9, 10, 11]⟩])
 (.seq
 (.region 8 true [
 ⟨(some 63), .load false 1 (.t 1), none, 65536, []⟩,
 ⟨(some 64), .nilc (.t 63), none, 65544, [0]⟩,
 ⟨(some 65), .faddr 3 (.t 64), none, 65552, [1, 0]⟩,
 ⟨(some 66), .load false 1 (.t 65), none, 65560, [2, 1, 0]⟩,
 ⟨(some 67), .copy (.t 3), none, 65568, []⟩,
 ⟨(some 68), .copy (.t 4), none, 65576, []⟩,
 ⟨(some 69), .slsl 3 (.t 68) (some (.c (.int .i64 1))) none none, none, 65584, [5]⟩,
 ⟨(some 70), .iaddr 1 (.t 66) (.t 67), none, 65592, [3, 2, 1, 0, 4, 5, 6]⟩,
 ⟨none, .store 1 (.t 70) (.t 69), none, 65600, [7, 3, 2, 1, 0, 4, 5, 6]⟩])
 (.exit 1))))
 .skip)))))
 (.seq
 (.region 9 true [
 ⟨(some 71), .load false 1 (.t 1), none, 73728, []⟩,
 ⟨(some 72), .copy (.t 3), none, 73736, []⟩,
 ⟨(some 73), .bin .add (.t 72) (.c (.int .i64 1)), none, 73744, [1]⟩,
 ⟨(some 74), .load false 1 (.t 1), none, 73752, []⟩,
 ⟨(some 75), .nilc (.t 74), none, 73760, [3]⟩,
 ⟨(some 76), .faddr 0 (.t 75), none, 73768, [4, 3]⟩,
 ⟨(some 77), .load false 1 (.t 76), none, 73776, [5, 4, 3]⟩,
 ⟨(some 78), .len (.t 77), none, 73784, [6, 5, 4, 3]⟩,
 ⟨(some 79), .bin .rem (.t 73) (.t 78), none, 73792, [2, 1, 7, 6, 5, 4, 3]⟩,
 ⟨(some 80), .nilc (.t 71), none, 73800, [0, 1, 2, 3, 4, 5, 6, 7, 8]⟩,
 ⟨(some 81), .faddr 2 (.t 80), none, 73808, [9, 0, 1, 2, 3, 4, 5, 6, 7, 8]⟩,
 ⟨none, .store 1 (.t 81) (.t 79), none, 73816, [10, 9, 0, 1, 2, 3, 4, 5, 6, 7, 8]⟩])
 (.region 10 true [
 ⟨(some 82), .load false 1 (.t 1), none, 81920, []⟩,
 ⟨(some 83), .nilc (.t 82), none, 81928, [0]⟩,
 ⟨(some 84), .faddr 1 (.t 83), none, 81936, [1, 0]⟩,
 ⟨(some 85), .load false 1 (.t 84), none, 81944, [2, 1, 0]⟩,
 ⟨(some 86), .load false 1 (.t 1), none, 81952, []⟩,
 ⟨(some 87), .nilc (.t 86), none, 81960, [4]⟩,
 ⟨(some 88), .faddr 2 (.t 87), none, 81968, [5, 4]⟩,
 ⟨(some 89), .load false 1 (.t 88), none, 81976, [6, 5, 4]⟩,
 ⟨(some 90), .iaddr 1 (.t 85) (.t 89), none, 81984, [3, 2, 1, 0, 7, 6, 5, 4]⟩,
 ⟨(some 91), .load false 1 (.t 90), none, 81992, [8, 3, 2, 1, 0, 7, 6, 5, 4]⟩,
 ⟨(some 92), .load false 1 (.t 1), none, 82000, []⟩,
 ⟨(some 93), .nilc (.t 92), none, 82008, [10]⟩,
 ⟨(some 94), .faddr 0 (.t 93), none, 82016, [11, 10]⟩,
 ⟨(some 95), .load false 1 (.t 94), none, 82024, [12, 11, 10]⟩,
 ⟨(some 96), .load false 1 (.t 1), none, 82032, []⟩,
 ⟨(some 97), .nilc (.t 96), none, 82040, [14]⟩,
 ⟨(some 98), .faddr 2 (.t 97), none, 82048, [15, 14]⟩,
 ⟨(some 99), .load false 1 (.t 98), none, 82056, [16, 15, 14]⟩,
 ⟨(some 100), .iaddr 1 (.t 95) (.t 99), none, 82064, [13, 12, 11, 10, 17, 16, 15, 14]⟩,
 ⟨(some 101), .load false 1 (.t 100), none, 82072, [18, 13, 12, 11, 10, 17, 16, 15, 14]⟩,
 ⟨(some 102), .bin .add (.t 91) (.t 101), none, 82080, [9, 8, 3, 2, 1, 0, 7, 6, 5, 4, 19, 18, 13, 12, 11, 10, 17, 16, 15, 14]⟩,
 ⟨(some 103), .iaddr 1 (.t 85) (.t 89), none, 82088, [3, 2, 1, 0, 7, 6, 5, 4, 8, 9, 10, 11, 12, 13, 14, 15, 16, 17, 18, 19, 20]⟩,
 ⟨none, .store 1 (.t 103) (.t 102), none, 82096, [21, 3, 2, 1, 0, 7, 6, 5, 4, 8, 9, 10, 11, 12, 13, 14, 15, 16, 17, 18, 19, 20]⟩])))))))))
theorem vf34 : VF Try.prog 34 = some (104, vc34, []) := by kernel_rfl
abbrev blkS (b c : Bid) (s : SchL) : Blk := ⟨true, false, 4, [[.sh false (s.w.map encI), ownV b (s.c.map encI), .int .i64 s.turn, ownV c (s.q.map encQ)]]⟩
theorem jobs_vc {s : SchL} : VC Try.prog 26 [.ptr ⟨0, 0⟩ 1 0 0] [blkS ⟨0, 1⟩ ⟨0, 2⟩ s, blkV 1 (s.c.map encI), blkV 1 (s.q.map encQ)] (.fn 34 [.ptr ⟨0, 3⟩ 1 0 0]) [blkS ⟨0, 1⟩ ⟨0, 2⟩ s, blkV 1 (s.c.map encI), blkV 1 (s.q.map encQ), ⟨true, false, 1, [[.ptr ⟨0, 0⟩ 1 0 0]]⟩] := by
  refine vc_of vf26 ?_ (Nat.le_of_ble_eq_true rfl) (by intro vs h; cases h)
  repeat first | refine o_copy ?_ | refine nl ?_ | refine ct_seq ?_ | refine rg ?_ | refine ct_block ?_ | refine bq ?_ | refine o_box ?_ | refine o_fn ?_
  refine ct_ret ⟨.inr rfl, ?_⟩
  exact oG [⟨1, 0⟩] (v' := .fn 34 [.ptr ⟨0, 3⟩ 1 0 0]) (hout' := [blkS ⟨0, 1⟩ ⟨0, 2⟩ s, blkV 1 (s.c.map encI), blkV 1 (s.q.map encQ), ⟨true, false, 1, [[.ptr ⟨0, 0⟩ 1 0 0]]⟩])
theorem l_schO {hf : HF} {b c o : Bid} {s : SchL} {l : List JobL} (hb : hf b = some (blkV 1 (s.c.map encI))) (hc : hf c = some (blkV 1 (s.q.map encQ))) (ho : hf o = some (blkV 3 (l.map encJ))) : lendVs hf [] [schV b c s, ownV o (l.map encJ)] = some ([b, c, o], [.agg (encSc s), .sh false (l.map encJ)]) := by
  have h1 : lendS hf [] (ownV b (s.c.map encI)) = some ([b], .sh false (s.c.map encI)) := l_own hb rfl
  have h2 : lendS hf [] (ownV c (s.q.map encQ)) = some ([c], .sh false (s.q.map encQ)) := l_own hc rfl
  have h3 : lendV hf [] (ownV o (l.map encJ)) = some ([o], .sh false (l.map encJ)) := l_own ho rfl
  rw [lendVs, lendVs, h3]
  simp only [schV, lendV, lendSs]
  rw [h1, h2]
  rfl
theorem on_facts {s : SchL} (hw : WF s) {x : List JobL} (hx : s.q[s.turn]? = some x) (c : List Int) (hc : c = if x = [] then s.c.set s.turn 0 else s.c) : ∃ (T : Nat) (w0 c0 : Int), c.length = s.w.length ∧ T < s.w.length ∧ Int.tmod ((s.turn : Int) + 1) ((s.w.map encI).length : Int) = (T : Int) ∧ ((s.w.map encI).length : Int) ≠ 0 ∧
    s.w[T]? = some w0 ∧ c[T]? = some c0 ∧ (1 ≤ w0 ∧ w0 ≤ 100) ∧ (0 ≤ c0 ∧ c0 < 1100) ∧ onL s = { s with c := c.set T (c0 + w0), turn := T } := by
  have hn1 := hw.n1
  have hm : (s.turn + 1) % s.w.length < s.w.length := Nat.mod_lt _ (by omega)
  have hlen : c.length = s.w.length := by rw [hc]; split <;> simp [hw.lc]
  obtain ⟨w0, hw0⟩ : ∃ x, s.w[(s.turn + 1) % s.w.length]? = some x := ⟨_, List.getElem?_eq_getElem hm⟩
  obtain ⟨c0, hc0⟩ : ∃ x, c[(s.turn + 1) % s.w.length]? = some x := ⟨_, List.getElem?_eq_getElem (by rw [hlen]; exact hm)⟩
  refine ⟨(s.turn + 1) % s.w.length, w0, c0, hlen, hm, ?_, by rw [List.length_map]; omega, hw0, hc0, hw.ws _ _ hw0, ?_, ?_⟩
  · rw [List.length_map, Int.tmod_eq_emod_of_nonneg (by omega)]
    push_cast
    rfl
  · have := hc0
    rw [hc] at this
    split at this
    · rw [List.getElem?_set] at this
      split at this
      · split at this
        · cases this; omega
        · cases this
      · have := hw.cs _ _ this; omega
    · have := hw.cs _ _ this; omega
  · have hce : (if s.q[s.turn]? = some [] then s.c.set s.turn 0 else s.c) = c := by
      rw [hx, hc]
      simp
    unfold onL
    simp only [hce, hc0, hw0, Option.getD_some]
theorem tl_v {lvl site : Nat} {tf : TF} {hf : HF} {x : VX} {j : JobL} {js : List JobL} (h1 : ev tf x = some (.sh false ((j :: js).map encJ))) :
      vop lvl site tf hf (.slsl 3 x (some (.c (.int .i64 1))) none none) = some ⟨.sh false (js.map encJ), [], []⟩ := by
  have := v_slsh (lvl := lvl) (site := site) (hf := hf) (esz := 3) (lo := some (.c (.int .i64 1))) (hi := none) (mx := none) (a := 1) (z := ((j :: js).map encJ).length) (c := ((j :: js).map encJ).length) h1 rfl rfl rfl (by omega) (by simp; omega) (by omega) (by omega) (fun e he => by
    obtain ⟨j, _, rfl⟩ := List.mem_map.1 he
    rfl)
  rw [this]
  simp
  exact List.take_of_length_le (by simp)
abbrev RT0 : Tmps := [(2, .ptr ⟨0, 1000⟩ 1 0 0), (3, .ptr ⟨0, 1001⟩ 1 0 0), (4, .ptr ⟨0, 1002⟩ 1 0 0), (6, .ptr ⟨0, 1003⟩ 1 0 0), (10, .fn 34 [.ptr ⟨0, 1004⟩ 1 0 0])]
abbrev RH (s : SchL) (b : Int) (l : List JobL) : Heap := [(⟨0, 1000⟩, blkS ⟨1, 8200⟩ ⟨1, 8201⟩ s), (⟨1, 8200⟩, blkV 1 (s.c.map encI)), (⟨1, 8201⟩, blkV 1 (s.q.map encQ)), (⟨0, 1001⟩, ⟨true, false, 1, [[.int .i64 b]]⟩), (⟨0, 1002⟩, ⟨true, false, 4, [[.nils, .nils, .int .i64 0, .nils]]⟩), (⟨0, 1003⟩, ⟨true, false, 1, [[ownV ⟨1, 7⟩ (l.map encJ)]]⟩), (⟨1, 7⟩, blkV 3 (l.map encJ)), (⟨0, 1004⟩, ⟨true, false, 1, [[.ptr ⟨0, 1000⟩ 1 0 0]]⟩)]
abbrev RHn (n m : Nat) (s : SchL) (b : Int) (l : List JobL) : Heap := [(⟨0, 1000⟩, ⟨true, false, 4, [[.sh false (s.w.map encI), .own ⟨1, 8200⟩ n 0 n, .int .i64 s.turn, .own ⟨1, 8201⟩ m 0 m]]⟩), (⟨1, 8200⟩, blkV 1 (s.c.map encI)), (⟨1, 8201⟩, blkV 1 (s.q.map encQ)), (⟨0, 1001⟩, ⟨true, false, 1, [[.int .i64 b]]⟩), (⟨0, 1002⟩, ⟨true, false, 4, [[.nils, .nils, .int .i64 0, .nils]]⟩), (⟨0, 1003⟩, ⟨true, false, 1, [[ownV ⟨1, 7⟩ (l.map encJ)]]⟩), (⟨1, 7⟩, blkV 3 (l.map encJ)), (⟨0, 1004⟩, ⟨true, false, 1, [[.ptr ⟨0, 1000⟩ 1 0 0]]⟩)]
theorem RH_n (s : SchL) {s2 : SchL} {b : Int} {l : List JobL} (h1 : s2.c.length = s.c.length) (h2 : s2.q.length = s.q.length) : RH s2 b l = RHn (s.c.map encI).length (s.q.map encQ).length s2 b l := by
  simp only [RH, RHn, blkS, ownV, List.length_map, h1, h2]
set_option maxHeartbeats 4000000 in
theorem run_vc {s s' : SchL} {b : Int} {l : List JobL} (hw : WF s) (hr : Runs s b s' l) (hb1 : -1000000000 ≤ b) (hb2 : b ≤ 1000000000) : VC Try.prog 12 [.agg (encSc s), .int .i64 b] [] (.tup [.agg (encSc s'), .sh false (l.map encJ)]) [] := by
  have hn8 := hw.n8
  have hlc := hw.lc
  have hlq := hw.lq
  have hwt := hw.wt
  refine vc_closeT (hout := [blkV 1 (s'.c.map encI), blkV 1 (s'.q.map encQ), blkV 3 (l.map encJ)]) (vs := [schV ⟨0, 0⟩ ⟨0, 1⟩ s', ownV ⟨0, 2⟩ (l.map encJ)]) ?_ (l_schO rfl rfl rfl) (by simp) (by simp [schV])
  refine vc_of vf12 ?_ (Nat.le_of_ble_eq_true rfl) (by intro vs h; cases h; simp [schV])
  --fns 12 34
  refine ct_seq (rg ?_)
  repeat first | refine o_copy ?_ | refine o_loads ?_ | refine o_loadp ?_ | refine o_faddr ?_ | refine o_iaddr ?_ | refine o_iaddrO ?_ | refine o_iaddrR ?_ | refine o_add ?_ | refine o_sub ?_ | refine o_cat ?_ | refine o_bin ?_ | refine o_lenq ?_ | refine o_len ?_ | refine o_loadsA ?_ | refine o_loadpA ?_ | refine o_box ?_ | refine o_alloc ?_ | refine o_bslice ?_ | refine o_store ?_ | refine o_not ?_ | refine o_nilc ?_
  refine nl ?_
  refine ct_seq (rg ?_)
  repeat first | refine o_copy ?_ | refine cf (copied_vc (s := s) (by omega) (by omega)) (h5 := ⟨rfl, rfl, trivial⟩) ?_ | refine o_loads ?_ | refine o_loadp ?_ | refine o_faddr ?_ | refine o_iaddr ?_ | refine o_iaddrO ?_ | refine o_iaddrR ?_ | refine o_add ?_ | refine o_sub ?_ | refine o_cat ?_ | refine o_bin ?_ | refine o_lenq ?_ | refine o_len ?_ | refine o_loadsA ?_ | refine o_loadpA ?_ | refine o_box ?_ | refine o_alloc ?_ | refine o_bslice ?_ | refine o_store ?_ | refine o_not ?_ | refine o_nilc ?_
  refine nl ?_
  refine ct_seq (rg ?_)
  repeat first | refine o_copy ?_ | refine o_loads ?_ | refine o_loadp ?_ | refine o_faddr ?_ | refine o_iaddr ?_ | refine o_iaddrO ?_ | refine o_iaddrR ?_ | refine o_add ?_ | refine o_sub ?_ | refine o_cat ?_ | refine o_bin ?_ | refine o_lenq ?_ | refine o_len ?_ | refine o_loadsA ?_ | refine o_loadpA ?_ | refine o_box ?_ | refine o_alloc ?_ | refine o_bslice ?_ | refine o_store ?_ | refine o_not ?_ | refine o_nilc ?_
  refine nl ?_
  refine ct_mid (lvl := 1) (fun _ => RT0) (fun (g : Int) => RH s' g l) (fun _ => True) ?_ ?_
  · repeat first | refine o_copy ?_ | refine nl ?_ | refine ct_seq ?_ | refine rg ?_ | refine ct_block ?_ | refine bq ?_ | refine cl (lent := [⟨1, 0⟩, ⟨1, 8200⟩, ⟨1, 8201⟩]) (jobs_vc (s := s)) ?_ | refine o_loads ?_ | refine o_loadp ?_ | refine o_faddr ?_ | refine o_iaddr ?_ | refine o_iaddrO ?_ | refine o_iaddrR ?_ | refine o_add ?_ | refine o_sub ?_ | refine o_cat ?_ | refine o_bin ?_ | refine o_lenq ?_ | refine o_len ?_ | refine o_loadsA ?_ | refine o_loadpA ?_ | refine o_box ?_ | refine o_alloc ?_ | refine o_bslice ?_ | refine o_store ?_ | refine o_not ?_ | refine o_nilc ?_
    obtain ⟨n0, hn0⟩ := hr
    refine rng (f := 34) (lvlI := 2) (T := RT0) (H := RH s b [])
      ((((((Imp.nilH (b := ⟨1, 7⟩) (b1 := ⟨1, 16384⟩) (esz := 3) rfl rfl (by decide)).trans (Imp.ren' (b := ⟨1, 0⟩) (c := ⟨0, 1000⟩) (by decide) (.inr rfl))).trans (Imp.ren' (b := ⟨1, 8⟩) (c := ⟨0, 1001⟩) (by decide) (.inr rfl))).trans
        (Imp.ren' (b := ⟨1, 16⟩) (c := ⟨0, 1002⟩) (by decide) (.inr rfl))).trans (Imp.ren' (b := ⟨1, 16384⟩) (c := ⟨0, 1003⟩) (by decide) (.inr rfl))).trans (Imp.ren' (b := ⟨1, 24576⟩) (c := ⟨0, 1004⟩) (by decide) (.inr rfl)) |>.trans goesD) vf34 ?_
    intro y
    refine cl_block ?_
    refine cl_loopG (fun _ => [(0, .yld y), (1, .ptr ⟨0, 1004⟩ 1 0 0)]) (fun (g : Nat × SchL × Int × List JobL) => RH g.2.1 g.2.2.1 g.2.2.2) (fun g => g.1)
      (fun g => WF g.2.1 ∧ runF g.1 g.2.1 g.2.2.1 g.2.2.2 = some (s', l) ∧ g.2.2.2.length + waitL g.2.1.q ≤ 64 ∧ -1000000000 ≤ g.2.2.1 ∧ g.2.2.1 ≤ 1000000000) (n0, s, b, []) goesD ⟨hw, hn0, by simpa using hwt, hb1, hb2⟩ ?_
    clear hn0 hb1 hb2 hwt hlq hlc hn8 hw n0
    rintro ⟨n, s, b, out⟩ ⟨hw, hr, ho, hb1, hb2⟩
    dsimp only at hw hr ho hb1 hb2 ⊢
    have hn8 := hw.n8
    have hlc := hw.lc
    have hlq := hw.lq
    have htn := hw.tn
    have hwt := hw.wt
    cases n with
    | zero => cases hr
    | succ n =>
    rw [runF] at hr
    refine cl_seq (cl_ct ?_)
    repeat first | refine o_copy ?_ | refine nl ?_ | refine ct_seq ?_ | refine rg ?_ | refine ct_block ?_ | refine bq ?_ | refine cv0 (waiting_vc (s := s) (by omega) (by omega)) (h3 := by exact l_sch rfl rfl) ?_ | refine o_loads ?_ | refine o_loadp ?_ | refine o_faddr ?_ | refine o_iaddr ?_ | refine o_iaddrO ?_ | refine o_iaddrR ?_ | refine o_add ?_ | refine o_sub ?_ | refine o_cat ?_ | refine o_bin ?_ | refine o_lenq ?_ | refine o_len ?_ | refine o_loadsA ?_ | refine o_loadpA ?_ | refine o_box ?_ | refine o_alloc ?_ | refine o_bslice ?_ | refine o_store ?_ | refine o_not ?_ | refine o_nilc ?_
    refine cnd (fun h => ct_skip ?_) (fun h => ct_exit ?_)
    · have h0 : waitL s.q ≠ 0 := by have h' := of_decide_eq_true h; omega
      rw [if_neg h0] at hr
      obtain ⟨x, hx⟩ : ∃ x, s.q[s.turn]? = some x := ⟨_, List.getElem?_eq_getElem (by omega)⟩
      rw [hx] at hr
      have hxe := gm (enc := encQ) (n := (s.turn : Int)) hx (by omega)
      refine cl_block (cl_seq (cl_ct ?_))
      repeat first | refine o_copy ?_ | refine nl ?_ | refine ct_seq ?_ | refine rg ?_ | refine ct_block ?_ | refine bq ?_ | refine o_loads ?_ | refine o_loadp ?_ | refine o_faddr ?_ | refine o_iaddr ?_ | refine o_iaddrO ?_ | refine o_iaddrR ?_ | refine o_add ?_ | refine o_sub ?_ | refine o_cat ?_ | refine o_bin ?_ | refine o_lenq ?_ | refine o_len ?_ | refine o_loadsA ?_ | refine o_loadpA ?_ | refine o_box ?_ | refine o_alloc ?_ | refine o_bslice ?_ | refine o_store ?_ | refine o_not ?_ | refine o_nilc ?_
      refine cl_seq (cl_ct ?_)
      repeat first | refine o_copy ?_ | refine nl ?_ | refine ct_seq ?_ | refine rg ?_ | refine ct_block ?_ | refine bq ?_ | refine o_loads ?_ | refine o_loadp ?_ | refine o_faddr ?_ | refine o_iaddr ?_ | refine o_iaddrO ?_ | refine o_iaddrR ?_ | refine o_add ?_ | refine o_sub ?_ | refine o_cat ?_ | refine o_bin ?_ | refine o_lenq ?_ | refine o_len ?_ | refine o_loadsA ?_ | refine o_loadpA ?_ | refine o_box ?_ | refine o_alloc ?_ | refine o_bslice ?_ | refine o_store ?_ | refine o_not ?_ | refine o_nilc ?_
      refine cl_seq (cl_block (cl_seq (cl_ct ?_)))
      repeat first | refine o_copy ?_ | refine nl ?_ | refine ct_seq ?_ | refine rg ?_ | refine ct_block ?_ | refine bq ?_ | refine o_loads ?_ | refine o_loadp ?_ | refine o_faddr ?_ | refine o_iaddr ?_ | refine o_iaddrO ?_ | refine o_iaddrR ?_ | refine o_add ?_ | refine o_sub ?_ | refine o_cat ?_ | refine o_bin ?_ | refine o_lenq ?_ | refine o_len ?_ | refine o_loadsA ?_ | refine o_loadpA ?_ | refine o_box ?_ | refine o_alloc ?_ | refine o_bslice ?_ | refine o_store ?_ | refine o_not ?_ | refine o_nilc ?_
      cases x with
      | nil =>
        refine cl_cndt (cl_ct ?_) rfl rfl
        repeat first | refine o_copy ?_ | refine nl ?_ | refine ct_seq ?_ | refine rg ?_ | refine ct_block ?_ | refine bq ?_ | refine o_v (vst encI (0 : Int)) ?_ | refine o_loads ?_ | refine o_loadp ?_ | refine o_faddr ?_ | refine o_iaddr ?_ | refine o_iaddrO ?_ | refine o_iaddrR ?_ | refine o_add ?_ | refine o_sub ?_ | refine o_cat ?_ | refine o_bin ?_ | refine o_lenq ?_ | refine o_len ?_ | refine o_loadsA ?_ | refine o_loadpA ?_ | refine o_box ?_ | refine o_alloc ?_ | refine o_bslice ?_ | refine o_store ?_ | refine o_not ?_ | refine o_nilc ?_
        obtain ⟨T, w0, c0, f1, f2, f3, f4, f5, f6, f7, f8, f9⟩ := on_facts hw hx (s.c.set s.turn 0) (by simp)
        have hwe := gm (enc := encI) (n := (T : Int)) f5 (by omega)
        have hce := gm (enc := encI) (n := (T : Int)) f6 (by omega)
        refine cl_seq (cl_ct ?_)
        repeat first | refine o_copy ?_ | refine nl ?_ | refine ct_seq ?_ | refine rg ?_ | refine ct_block ?_ | refine bq ?_ | refine o_rem ?_ | refine o_loads ?_ | refine o_loadp ?_ | refine o_faddr ?_ | refine o_iaddr ?_ | refine o_iaddrO ?_ | refine o_iaddrR ?_ | refine o_add ?_ | refine o_sub ?_ | refine o_cat ?_ | refine o_bin ?_ | refine o_lenq ?_ | refine o_len ?_ | refine o_loadsA ?_ | refine o_loadpA ?_ | refine o_box ?_ | refine o_alloc ?_ | refine o_bslice ?_ | refine o_store ?_ | refine o_not ?_ | refine o_nilc ?_
        refine cl_ct ?_
        repeat first | refine o_copy ?_ | refine nl ?_ | refine ct_seq ?_ | refine rg ?_ | refine ct_block ?_ | refine bq ?_ | refine o_v (vst encI (c0 + w0)) ?_ | refine o_loads ?_ | refine o_loadp ?_ | refine o_faddr ?_ | refine o_iaddr ?_ | refine o_iaddrO ?_ | refine o_iaddrR ?_ | refine o_add ?_ | refine o_sub ?_ | refine o_cat ?_ | refine o_bin ?_ | refine o_lenq ?_ | refine o_len ?_ | refine o_loadsA ?_ | refine o_loadpA ?_ | refine o_box ?_ | refine o_alloc ?_ | refine o_bslice ?_ | refine o_store ?_ | refine o_not ?_ | refine o_nilc ?_
        have hr2 : runF n (onL s) b out = some (s', l) := hr
        have hw2 := onL_wf hw (fun j js h => by rw [hx] at h; cases h)
        rw [f9] at hr2 hw2
        refine agL (n, { s with c := (s.c.set s.turn 0).set T (c0 + w0), turn := T }, b, out) ⟨hw2, hr2, ho, hb1, hb2⟩ ?_
        show Imp _ ⟨_, _, RH _ _ _⟩
        rw [RH_n s (s2 := { s with c := (s.c.set s.turn 0).set T (c0 + w0), turn := T }) (by simp) rfl]
        exact goesD
      | cons j js =>
        obtain ⟨ct, hct⟩ : ∃ x, s.c[s.turn]? = some x := ⟨_, List.getElem?_eq_getElem (by omega)⟩
        have hcte := gm (enc := encI) (n := (s.turn : Int)) hct (by omega)
        have hcb := hw.cs _ _ hct
        have hjb := hw.jb _ _ hx j (by simp)
        have hje : ((j :: js).map encJ)[(0 : Int).toNat]? = some (encJ j) := rfl
        have hwl := waitL_get hx
        simp only [List.length_cons] at hwl
        rw [hct] at hr
        simp only [Option.getD_some] at hr
        refine cl_cndf (cl_seq (cl_ct ?_)) rfl (by simp; omega)
        repeat first | refine o_copy ?_ | refine nl ?_ | refine ct_seq ?_ | refine rg ?_ | refine ct_block ?_ | refine bq ?_ | refine o_loads ?_ | refine o_loadp ?_ | refine o_faddr ?_ | refine o_iaddr ?_ | refine o_iaddrO ?_ | refine o_iaddrR ?_ | refine o_add ?_ | refine o_sub ?_ | refine o_cat ?_ | refine o_bin ?_ | refine o_lenq ?_ | refine o_len ?_ | refine o_loadsA ?_ | refine o_loadpA ?_ | refine o_box ?_ | refine o_alloc ?_ | refine o_bslice ?_ | refine o_store ?_ | refine o_not ?_ | refine o_nilc ?_
        refine cl_cnd (fun hj => ?_) (fun hj => cl_ct (ct_skip ?_))
        · have hj' : j.c ≤ ct := by simpa using hj
          rw [if_pos hj'] at hr
          refine cl_seq (cl_seq (cl_region (sl_first 4 ?_)))
          repeat first | refine o_copy ?_ | refine nl ?_ | refine ct_seq ?_ | refine rg ?_ | refine ct_block ?_ | refine bq ?_ | refine o_loads ?_ | refine o_loadp ?_ | refine o_faddr ?_ | refine o_iaddr ?_ | refine o_iaddrO ?_ | refine o_iaddrR ?_ | refine o_add ?_ | refine o_sub ?_ | refine o_cat ?_ | refine o_bin ?_ | refine o_lenq ?_ | refine o_len ?_ | refine o_loadsA ?_ | refine o_loadpA ?_ | refine o_box ?_ | refine o_alloc ?_ | refine o_bslice ?_ | refine o_store ?_ | refine o_not ?_ | refine o_nilc ?_
          refine yl (T := [(0, .yld y), (1, .ptr ⟨0, 1004⟩ 1 0 0), (3, .int .i64 s.turn), (4, .sh false ((j :: js).map encJ)), (44, .yld y), (47, .agg (encJ j))]) (H := RH s b out) 3 goesD ?_
          repeat first | refine o_copy ?_ | refine nl ?_ | refine ct_seq ?_ | refine rg ?_ | refine ct_block ?_ | refine bq ?_ | refine o_loads ?_ | refine o_loadp ?_ | refine o_faddr ?_ | refine o_iaddr ?_ | refine o_iaddrO ?_ | refine o_iaddrR ?_ | refine o_add ?_ | refine o_sub ?_ | refine o_cat ?_ | refine o_bin ?_ | refine o_lenq ?_ | refine o_len ?_ | refine o_loadsA ?_ | refine o_loadpA ?_ | refine o_box ?_ | refine o_alloc ?_ | refine o_bslice ?_ | refine o_store ?_ | refine o_not ?_ | refine o_nilc ?_
          refine ⟨rfl, ?_⟩
          repeat first | refine o_copy ?_ | refine nl ?_ | refine ct_seq ?_ | refine rg ?_ | refine ct_block ?_ | refine bq ?_ | refine o_loads ?_ | refine o_loadp ?_ | refine o_faddr ?_ | refine o_iaddr ?_ | refine o_iaddrO ?_ | refine o_iaddrR ?_ | refine o_add ?_ | refine o_sub ?_ | refine o_cat ?_ | refine o_bin ?_ | refine o_lenq ?_ | refine o_len ?_ | refine o_loadsA ?_ | refine o_loadpA ?_ | refine o_box ?_ | refine o_alloc ?_ | refine o_bslice ?_ | refine o_store ?_ | refine o_not ?_ | refine o_nilc ?_
          refine cnd (fun hb => ct_exit ?_) (fun hb => ct_skip ?_)
          · have hb' : j.c > b := by simpa using hb
            rw [if_pos hb'] at hr
            cases hr
            refine sl_rest ?_
            repeat first | refine o_copy ?_ | refine nl ?_ | refine ct_seq ?_ | refine rg ?_ | refine ct_block ?_ | refine bq ?_ | refine o_loads ?_ | refine o_loadp ?_ | refine o_faddr ?_ | refine o_iaddr ?_ | refine o_iaddrO ?_ | refine o_iaddrR ?_ | refine o_add ?_ | refine o_sub ?_ | refine o_cat ?_ | refine o_bin ?_ | refine o_lenq ?_ | refine o_len ?_ | refine o_loadsA ?_ | refine o_loadpA ?_ | refine o_box ?_ | refine o_alloc ?_ | refine o_bslice ?_ | refine o_store ?_ | refine o_not ?_ | refine o_nilc ?_
            refine cl_cndt (cl_ct (ct_ret ?_))
            exact mid0 b trivial goesD
          · have hb' : ¬ j.c > b := by simpa using hb
            rw [if_neg hb'] at hr
            repeat first | refine o_copy ?_ | refine nl ?_ | refine ct_seq ?_ | refine rg ?_ | refine ct_block ?_ | refine bq ?_ | refine o_v (vap encJ j) ?_ | refine o_loads ?_ | refine o_loadp ?_ | refine o_faddr ?_ | refine o_iaddr ?_ | refine o_iaddrO ?_ | refine o_iaddrR ?_ | refine o_add ?_ | refine o_sub ?_ | refine o_cat ?_ | refine o_bin ?_ | refine o_lenq ?_ | refine o_len ?_ | refine o_loadsA ?_ | refine o_loadpA ?_ | refine o_box ?_ | refine o_alloc ?_ | refine o_bslice ?_ | refine o_store ?_ | refine o_not ?_ | refine o_nilc ?_
            refine sl_rest ?_
            repeat first | refine o_copy ?_ | refine nl ?_ | refine ct_seq ?_ | refine rg ?_ | refine ct_block ?_ | refine bq ?_ | refine o_loads ?_ | refine o_loadp ?_ | refine o_faddr ?_ | refine o_iaddr ?_ | refine o_iaddrO ?_ | refine o_iaddrR ?_ | refine o_add ?_ | refine o_sub ?_ | refine o_cat ?_ | refine o_bin ?_ | refine o_lenq ?_ | refine o_len ?_ | refine o_loadsA ?_ | refine o_loadpA ?_ | refine o_box ?_ | refine o_alloc ?_ | refine o_bslice ?_ | refine o_store ?_ | refine o_not ?_ | refine o_nilc ?_
            refine cl_cndf (cl_ct (ct_skip ?_))
            refine cl_seq (cl_ct ?_)
            repeat first | refine o_copy ?_ | refine nl ?_ | refine ct_seq ?_ | refine rg ?_ | refine ct_block ?_ | refine bq ?_ | refine o_v (vst encI (ct - j.c)) ?_ | refine o_loads ?_ | refine o_loadp ?_ | refine o_faddr ?_ | refine o_iaddr ?_ | refine o_iaddrO ?_ | refine o_iaddrR ?_ | refine o_add ?_ | refine o_sub ?_ | refine o_cat ?_ | refine o_bin ?_ | refine o_lenq ?_ | refine o_len ?_ | refine o_loadsA ?_ | refine o_loadpA ?_ | refine o_box ?_ | refine o_alloc ?_ | refine o_bslice ?_ | refine o_store ?_ | refine o_not ?_ | refine o_nilc ?_
            refine cl_seq (cl_ct ?_)
            repeat first | refine o_copy ?_ | refine nl ?_ | refine ct_seq ?_ | refine rg ?_ | refine ct_block ?_ | refine bq ?_ | refine o_v0 (tl_v rfl) ?_ | refine o_v (vst encQ js) ?_ | refine o_loads ?_ | refine o_loadp ?_ | refine o_faddr ?_ | refine o_iaddr ?_ | refine o_iaddrO ?_ | refine o_iaddrR ?_ | refine o_add ?_ | refine o_sub ?_ | refine o_cat ?_ | refine o_bin ?_ | refine o_lenq ?_ | refine o_len ?_ | refine o_loadsA ?_ | refine o_loadpA ?_ | refine o_box ?_ | refine o_alloc ?_ | refine o_bslice ?_ | refine o_store ?_ | refine o_not ?_ | refine o_nilc ?_
            have hw2 := popL_wf hw hx (by rw [hct]; exact hj')
            have hpw := popL_wait hx
            have hpe : popL s j js = { s with c := s.c.set s.turn (ct - j.c), q := s.q.set s.turn js } := by unfold popL; rw [hct]; rfl
            rw [hpe] at hr hw2 hpw
            refine cl_ct (ct_exit ?_)
            refine agL (n, { s with c := s.c.set s.turn (ct - j.c), q := s.q.set s.turn js }, b - j.c, out ++ [j]) ⟨hw2, hr, ?_, (by simp only; omega), (by simp only; omega)⟩ ?_
            · simp only [List.length_append, List.length_cons, List.length_nil] at hpw ⊢
              omega
            show Imp _ ⟨_, _, RH _ _ _⟩
            rw [RH_n s (s2 := { s with c := s.c.set s.turn (ct - j.c), q := s.q.set s.turn js }) (by simp) (by simp)]
            exact goesD
        · have hj' : ¬ j.c ≤ ct := by simpa using hj
          rw [if_neg hj'] at hr
          obtain ⟨T, w0, c0, f1, f2, f3, f4, f5, f6, f7, f8, f9⟩ := on_facts hw hx s.c (by simp)
          have hwe := gm (enc := encI) (n := (T : Int)) f5 (by omega)
          have hce := gm (enc := encI) (n := (T : Int)) f6 (by omega)
          refine cl_seq (cl_ct ?_)
          repeat first | refine o_copy ?_ | refine nl ?_ | refine ct_seq ?_ | refine rg ?_ | refine ct_block ?_ | refine bq ?_ | refine o_rem ?_ | refine o_loads ?_ | refine o_loadp ?_ | refine o_faddr ?_ | refine o_iaddr ?_ | refine o_iaddrO ?_ | refine o_iaddrR ?_ | refine o_add ?_ | refine o_sub ?_ | refine o_cat ?_ | refine o_bin ?_ | refine o_lenq ?_ | refine o_len ?_ | refine o_loadsA ?_ | refine o_loadpA ?_ | refine o_box ?_ | refine o_alloc ?_ | refine o_bslice ?_ | refine o_store ?_ | refine o_not ?_ | refine o_nilc ?_
          refine cl_ct ?_
          repeat first | refine o_copy ?_ | refine nl ?_ | refine ct_seq ?_ | refine rg ?_ | refine ct_block ?_ | refine bq ?_ | refine o_v (vst encI (c0 + w0)) ?_ | refine o_loads ?_ | refine o_loadp ?_ | refine o_faddr ?_ | refine o_iaddr ?_ | refine o_iaddrO ?_ | refine o_iaddrR ?_ | refine o_add ?_ | refine o_sub ?_ | refine o_cat ?_ | refine o_bin ?_ | refine o_lenq ?_ | refine o_len ?_ | refine o_loadsA ?_ | refine o_loadpA ?_ | refine o_box ?_ | refine o_alloc ?_ | refine o_bslice ?_ | refine o_store ?_ | refine o_not ?_ | refine o_nilc ?_
          have hw2 := onL_wf hw (fun j' js' h => by rw [hx] at h; cases h; rw [hct]; simp only [Option.getD_some]; omega)
          rw [f9] at hr hw2
          refine agL (n, { s with c := s.c.set T (c0 + w0), turn := T }, b, out) ⟨hw2, hr, ho, hb1, hb2⟩ ?_
          show Imp _ ⟨_, _, RH _ _ _⟩
          rw [RH_n s (s2 := { s with c := s.c.set T (c0 + w0), turn := T }) (by simp) rfl]
          exact goesD
    · have h0 : waitL s.q = 0 := by have h' := of_decide_eq_false h; omega
      rw [if_pos h0] at hr
      cases hr
      exact mid0 b trivial goesD
  · intro b' _
    repeat first | refine o_copy ?_ | refine nl ?_ | refine ct_seq ?_ | refine rg ?_ | refine ct_block ?_ | refine bq ?_ | refine o_loads ?_ | refine o_loadp ?_ | refine o_faddr ?_ | refine o_iaddr ?_ | refine o_iaddrO ?_ | refine o_iaddrR ?_ | refine o_add ?_ | refine o_sub ?_ | refine o_cat ?_ | refine o_bin ?_ | refine o_lenq ?_ | refine o_len ?_ | refine o_loadsA ?_ | refine o_loadpA ?_ | refine o_box ?_ | refine o_alloc ?_ | refine o_bslice ?_ | refine o_store ?_ | refine o_not ?_ | refine o_nilc ?_
    refine ct_ret ⟨.inr rfl, ?_⟩
    exact oG [⟨1, 8200⟩, ⟨1, 8201⟩, ⟨1, 7⟩] (v' := .tup [schV ⟨0, 0⟩ ⟨0, 1⟩ s', ownV ⟨0, 2⟩ (l.map encJ)]) (hout' := [blkV 1 (s'.c.map encI), blkV 1 (s'.q.map encQ), blkV 3 (l.map encJ)])
end Go.Proofs
open Go.V Go.Pu
set_option linter.unusedVariables false
set_option linter.unusedSimpArgs false
set_option maxRecDepth 20000
namespace Go.Proofs
/-- downspout/downspoutref31.Run -/
def vc13 : VCode :=
 (.seq
 (.region 0 false [
 ⟨(some 2), .box (.t 0), none, 0, []⟩,
 ⟨(some 4), .alloc [.nils, .nils, (.int .i64 0), .nils], none, 8, []⟩,
 ⟨(some 5), .copy (.c .nils), none, 16, []⟩])
 (.seq
 (.region 1 false [
 ⟨(some 8), .load true 4 (.t 2), none, 8192, []⟩,
 ⟨(some 9), .call (.c (.fn 27 [])) [(.t 8)], none, 8200, [0]⟩,
 ⟨(some 10), .bslice 3 [(.int .i64 0), (.int .i64 0), (.int .i64 0)] 0 [], none, 8208, []⟩,
 ⟨none, .store 4 (.t 2) (.t 9), none, 8216, [1, 0]⟩,
 ⟨(some 6), .copy (.t 10), none, 8224, [2, 3, 1, 0]⟩])
 (.seq
 (.block 0
 (.loop
 (.seq
 (.seq
 (.region 2 false [
 ⟨(some 11), .load true 4 (.t 2), none, 16384, []⟩,
 ⟨(some 12), .call (.c (.fn 19 [])) [(.t 11)], none, 16392, [0]⟩,
 ⟨(some 13), .bin .gtr (.t 12) (.c (.int .i64 0)), none, 16400, [1, 0]⟩])
 (.cond (.t 13)
 .skip
 (.exit 0)))
 (.block 1
 (.seq
 (.region 3 false [
 ⟨(some 14), .faddr 3 (.t 2), none, 24576, []⟩,
 ⟨(some 15), .load false 1 (.t 14), none, 24584, [0]⟩,
 ⟨(some 16), .faddr 2 (.t 2), none, 24592, []⟩,
 ⟨(some 17), .load false 1 (.t 16), none, 24600, [2]⟩,
 ⟨(some 18), .iaddr 1 (.t 15) (.t 17), none, 24608, [1, 0, 3, 2]⟩,
 ⟨(some 19), .load false 1 (.t 18), none, 24616, [4, 1, 0, 3, 2]⟩,
 ⟨(some 7), .copy (.t 19), none, 24624, [5, 4, 1, 0, 3, 2]⟩])
 (.seq
 (.seq
 (.region 4 true [
 ⟨(some 20), .copy (.t 7), none, 32768, []⟩,
 ⟨(some 21), .len (.t 20), none, 32776, [0]⟩,
 ⟨(some 22), .bin .eql (.t 21) (.c (.int .i64 0)), none, 32784, [1, 0]⟩,
 ⟨(some 23), .copy (.t 22), none, 32792, [2, 1, 0]⟩,
 ⟨(some 24), .copy (.t 7), (some (3, 23, false)), 32800, [3, 2, 1, 0]⟩,
 ⟨(some 25), .iaddr 3 (.t 24) (.c (.int .i64 0)), (some (3, 23, false)), 32808, [4, 3, 2, 1, 0]⟩,
 ⟨(some 26), .faddr 2 (.t 25), (some (3, 23, false)), 32816, [5, 4, 3, 2, 1, 0]⟩,
 ⟨(some 27), .load false 1 (.t 26), (some (3, 23, false)), 32824, [6, 5, 4, 3, 2, 1, 0]⟩,
 ⟨(some 28), .faddr 1 (.t 2), (some (3, 23, false)), 32832, [3, 2, 1, 0]⟩,
 ⟨(some 29), .load false 1 (.t 28), (some (3, 23, false)), 32840, [8, 3, 2, 1, 0]⟩,
 ⟨(some 30), .faddr 2 (.t 2), (some (3, 23, false)), 32848, [3, 2, 1, 0]⟩,
 ⟨(some 31), .load false 1 (.t 30), (some (3, 23, false)), 32856, [10, 3, 2, 1, 0]⟩,
 ⟨(some 32), .iaddr 1 (.t 29) (.t 31), (some (3, 23, false)), 32864, [9, 8, 3, 2, 1, 0, 11, 10]⟩,
 ⟨(some 33), .load false 1 (.t 32), (some (3, 23, false)), 32872, [12, 9, 8, 3, 2, 1, 0, 11, 10]⟩,
 ⟨(some 34), .bin .gtr (.t 27) (.t 33), (some (3, 23, false)), 32880, [7, 6, 5, 4, 3, 2, 1, 0, 13, 12, 9, 8, 11, 10]⟩,
 ⟨(some 35), .pick (.t 23) (.c (.bool true)) (.t 34), none, 32888, [3, 2, 1, 0, 14, 7, 6, 5, 4, 13, 12, 9, 8, 11, 10]⟩])
 (.cond (.t 35)
 (.seq
 (.region 5 false [
 ⟨(some 36), .load true 4 (.t 2), none, 40960, []⟩,
 ⟨(some 37), .call (.c (.fn 28 [])) [(.t 36)], none, 40968, [0]⟩,
 ⟨none, .store 4 (.t 2) (.t 37), none, 40976, [1, 0]⟩])
 (.exit 1))
 .skip))
 (.seq
 (.seq
 (.region 6 false [
 ⟨(some 38), .copy (.t 7), none, 49152, []⟩,
 ⟨(some 39), .iaddr 3 (.t 38) (.c (.int .i64 0)), none, 49160, [0]⟩,
 ⟨(some 40), .faddr 2 (.t 39), none, 49168, [1, 0]⟩,
 ⟨(some 41), .load false 1 (.t 40), none, 49176, [2, 1, 0]⟩,
 ⟨(some 42), .copy (.t 1), none, 49184, []⟩,
 ⟨(some 43), .bin .gtr (.t 41) (.t 42), none, 49192, [3, 2, 1, 0, 4]⟩])
 (.cond (.t 43)
 (.seq
 (.region 7 false [
 ⟨(some 44), .load true 4 (.t 2), none, 57344, []⟩,
 ⟨(some 45), .copy (.t 6), none, 57352, []⟩,
 ⟨none, .store 4 (.t 4) (.t 44), none, 57360, [0]⟩,
 ⟨(some 5), .copy (.t 45), none, 57368, [1, 2, 0]⟩])
 .ret)
 .skip))
 (.seq
 (.region 8 true [
 ⟨(some 46), .faddr 3 (.t 2), none, 65536, []⟩,
 ⟨(some 47), .load false 1 (.t 46), none, 65544, [0]⟩,
 ⟨(some 48), .faddr 2 (.t 2), none, 65552, []⟩,
 ⟨(some 49), .load false 1 (.t 48), none, 65560, [2]⟩,
 ⟨(some 50), .copy (.t 7), none, 65568, []⟩,
 ⟨(some 51), .slsl 3 (.t 50) (some (.c (.int .i64 1))) none none, none, 65576, [4]⟩,
 ⟨(some 52), .iaddr 1 (.t 47) (.t 49), none, 65584, [1, 0, 3, 2, 4, 5]⟩,
 ⟨none, .store 1 (.t 52) (.t 51), none, 65592, [6, 1, 0, 3, 2, 4, 5]⟩])
 (.seq
 (.region 9 true [
 ⟨(some 53), .faddr 1 (.t 2), none, 73728, []⟩,
 ⟨(some 54), .load false 1 (.t 53), none, 73736, [0]⟩,
 ⟨(some 55), .faddr 2 (.t 2), none, 73744, []⟩,
 ⟨(some 56), .load false 1 (.t 55), none, 73752, [2]⟩,
 ⟨(some 57), .iaddr 1 (.t 54) (.t 56), none, 73760, [1, 0, 3, 2]⟩,
 ⟨(some 58), .load false 1 (.t 57), none, 73768, [4, 1, 0, 3, 2]⟩,
 ⟨(some 59), .copy (.t 7), none, 73776, []⟩,
 ⟨(some 60), .iaddr 3 (.t 59) (.c (.int .i64 0)), none, 73784, [6]⟩,
 ⟨(some 61), .faddr 2 (.t 60), none, 73792, [7, 6]⟩,
 ⟨(some 62), .load false 1 (.t 61), none, 73800, [8, 7, 6]⟩,
 ⟨(some 63), .bin .sub (.t 58) (.t 62), none, 73808, [5, 4, 1, 0, 3, 2, 9, 8, 7, 6]⟩,
 ⟨(some 64), .iaddr 1 (.t 54) (.t 56), none, 73816, [1, 0, 3, 2, 4, 5, 6, 7, 8, 9, 10]⟩,
 ⟨none, .store 1 (.t 64) (.t 63), none, 73824, [11, 1, 0, 3, 2, 4, 5, 6, 7, 8, 9, 10]⟩])
 (.seq
 (.region 10 false [
 ⟨(some 65), .copy (.t 1), none, 81920, []⟩,
 ⟨(some 66), .copy (.t 7), none, 81928, []⟩,
 ⟨(some 67), .iaddr 3 (.t 66) (.c (.int .i64 0)), none, 81936, [1]⟩,
 ⟨(some 68), .faddr 2 (.t 67), none, 81944, [2, 1]⟩,
 ⟨(some 69), .load false 1 (.t 68), none, 81952, [3, 2, 1]⟩,
 ⟨(some 70), .bin .sub (.t 65) (.t 69), none, 81960, [0, 4, 3, 2, 1]⟩,
 ⟨(some 1), .copy (.t 70), none, 81968, [5, 0, 4, 3, 2, 1]⟩])
 (.region 11 false [
 ⟨(some 71), .copy (.t 6), none, 90112, []⟩,
 ⟨(some 72), .copy (.t 7), none, 90120, []⟩,
 ⟨(some 73), .iaddr 3 (.t 72) (.c (.int .i64 0)), none, 90128, [1]⟩,
 ⟨(some 74), .load true 3 (.t 73), none, 90136, [2, 1]⟩,
 ⟨(some 75), .bslice 3 [(.int .i64 0), (.int .i64 0), (.int .i64 0)] 1 [(0, (.t 74))], none, 90144, [3, 2, 1]⟩,
 ⟨(some 76), .append 3 24 [(.int .i64 0), (.int .i64 0), (.int .i64 0)] (.t 71) (.t 75), none, 90152, [0, 4, 3, 2, 1]⟩,
 ⟨(some 6), .copy (.t 76), none, 90160, [5, 0, 4, 3, 2, 1]⟩])))))))))))
 (.seq
 (.region 12 false [
 ⟨(some 77), .load true 4 (.t 2), none, 98304, []⟩,
 ⟨(some 78), .copy (.t 6), none, 98312, []⟩,
 ⟨none, .store 4 (.t 4) (.t 77), none, 98320, [0]⟩,
 ⟨(some 5), .copy (.t 78), none, 98328, [1, 2, 0]⟩])
 .ret))))
theorem vf13 : VF Try.prog 13 = some (79, vc13, [.cell true 4 4, .tmp 5]) := by kernel_rfl
abbrev QT (b : Int) (l : List JobL) : Tmps := [(1, .int .i64 b), (2, .ptr ⟨1, 0⟩ 1 0 0), (4, .ptr ⟨1, 8⟩ 1 0 0), (6, ownV ⟨1, 8208⟩ (l.map encJ))]
abbrev QH (s : SchL) (l : List JobL) : Heap := [(⟨1, 0⟩, blkS ⟨1, 8200⟩ ⟨1, 8201⟩ s), (⟨1, 8200⟩, blkV 1 (s.c.map encI)), (⟨1, 8201⟩, blkV 1 (s.q.map encQ)), (⟨1, 8⟩, ⟨true, false, 4, [[.nils, .nils, .int .i64 0, .nils]]⟩), (⟨1, 8208⟩, blkV 3 (l.map encJ))]
abbrev QHn (n m : Nat) (s : SchL) (l : List JobL) : Heap := [(⟨1, 0⟩, ⟨true, false, 4, [[.sh false (s.w.map encI), .own ⟨1, 8200⟩ n 0 n, .int .i64 s.turn, .own ⟨1, 8201⟩ m 0 m]]⟩), (⟨1, 8200⟩, blkV 1 (s.c.map encI)), (⟨1, 8201⟩, blkV 1 (s.q.map encQ)), (⟨1, 8⟩, ⟨true, false, 4, [[.nils, .nils, .int .i64 0, .nils]]⟩), (⟨1, 8208⟩, blkV 3 (l.map encJ))]
theorem QH_n (s : SchL) {s2 : SchL} {l : List JobL} (h1 : s2.c.length = s.c.length) (h2 : s2.q.length = s.q.length) : QH s2 l = QHn (s.c.map encI).length (s.q.map encQ).length s2 l := by
  simp only [QH, QHn, blkS, ownV, List.length_map, h1, h2]
set_option maxHeartbeats 4000000 in
theorem rrun_vc {s s' : SchL} {b : Int} {l : List JobL} (hw : WF s) (hr : Runs s b s' l) (hb1 : -1000000000 ≤ b) (hb2 : b ≤ 1000000000) : VC Try.prog 13 [.agg (encSc s), .int .i64 b] [] (.tup [.agg (encSc s'), .sh false (l.map encJ)]) [] := by
  have hn8 := hw.n8
  have hlc := hw.lc
  have hlq := hw.lq
  have hwt := hw.wt
  refine vc_closeT (hout := [blkV 1 (s'.c.map encI), blkV 1 (s'.q.map encQ), blkV 3 (l.map encJ)]) (vs := [schV ⟨0, 0⟩ ⟨0, 1⟩ s', ownV ⟨0, 2⟩ (l.map encJ)]) ?_ (l_schO rfl rfl rfl) (by simp) (by simp [schV])
  refine vc_of vf13 ?_ (Nat.le_of_ble_eq_true rfl) (by intro vs h; cases h; simp [schV])
  have fin : ∀ {nt : Nat} {s0 : St}, rdT (tget s0.tmps) (hget s0.heap) [.cell true 4 4, .tmp 5] = some [schV ⟨1, 8200⟩ ⟨1, 8201⟩ s', ownV ⟨1, 8208⟩ (l.map encJ)] → hget s0.heap ⟨1, 8200⟩ = some (blkV 1 (s'.c.map encI)) → hget s0.heap ⟨1, 8201⟩ = some (blkV 1 (s'.q.map encQ)) → hget s0.heap ⟨1, 8208⟩ = some (blkV 3 (l.map encJ)) →
      Out [.cell true 4 4, .tmp 5] 0 (.tup [schV ⟨0, 0⟩ ⟨0, 1⟩ s', ownV ⟨0, 2⟩ (l.map encJ)]) [blkV 1 (s'.c.map encI), blkV 1 (s'.q.map encQ), blkV 3 (l.map encJ)] s0 := fun h h1 h2 h3 =>
    oG [⟨1, 8200⟩, ⟨1, 8201⟩, ⟨1, 8208⟩] (v' := .tup [schV ⟨0, 0⟩ ⟨0, 1⟩ s', ownV ⟨0, 2⟩ (l.map encJ)]) (hout' := [blkV 1 (s'.c.map encI), blkV 1 (s'.q.map encQ), blkV 3 (l.map encJ)]) (h := h) (ho := ⟨h1, (fun h => by cases h), h2, (fun h => by cases h), h3, (fun h => by cases h), trivial⟩)
  repeat first | refine o_copy ?_ | refine nl ?_ | refine ct_seq ?_ | refine rg ?_ | refine ct_block ?_ | refine bq ?_ | refine cf (rcopied_vc (s := s) (by omega) (by omega)) (h5 := ⟨rfl, rfl, trivial⟩) ?_ | refine o_loads ?_ | refine o_loadp ?_ | refine o_faddr ?_ | refine o_iaddr ?_ | refine o_iaddrO ?_ | refine o_iaddrR ?_ | refine o_sub ?_ | refine o_bin ?_ | refine o_lenq ?_ | refine o_len ?_ | refine o_loadsA ?_ | refine o_loadpA ?_ | refine o_box ?_ | refine o_alloc ?_ | refine o_bslice ?_ | refine o_store ?_ | refine o_pickt ?_ | refine o_pickf ?_ | refine skF ?_ | refine skU ?_
  obtain ⟨n0, hn0⟩ := hr
  refine ct_loopG (fun (g : Nat × SchL × Int × List JobL) => QT g.2.2.1 g.2.2.2) (fun g => QH g.2.1 g.2.2.2) (fun g => g.1)
    (fun g => WF g.2.1 ∧ runF g.1 g.2.1 g.2.2.1 g.2.2.2 = some (s', l) ∧ g.2.2.2.length + waitL g.2.1.q ≤ 64 ∧ -1000000000 ≤ g.2.2.1 ∧ g.2.2.1 ≤ 1000000000) (n0, s, b, []) goesD ⟨hw, hn0, by simpa using hwt, hb1, hb2⟩ ?_
  clear hn0 hb1 hb2 hwt hlq hlc hn8 hw n0
  rintro ⟨n, s, b, out⟩ ⟨hw, hr, ho, hb1, hb2⟩
  dsimp only at hw hr ho hb1 hb2 ⊢
  have hn8 := hw.n8
  have hlc := hw.lc
  have hlq := hw.lq
  have htn := hw.tn
  have hwt := hw.wt
  cases n with
  | zero => cases hr
  | succ n =>
  rw [runF] at hr
  repeat first | refine o_copy ?_ | refine nl ?_ | refine ct_seq ?_ | refine rg ?_ | refine ct_block ?_ | refine bq ?_ | refine cv0 (rwaiting_vc (s := s) (by omega) (by omega)) (h3 := by exact l_sch rfl rfl) ?_ | refine o_loads ?_ | refine o_loadp ?_ | refine o_faddr ?_ | refine o_iaddr ?_ | refine o_iaddrO ?_ | refine o_iaddrR ?_ | refine o_sub ?_ | refine o_bin ?_ | refine o_lenq ?_ | refine o_len ?_ | refine o_loadsA ?_ | refine o_loadpA ?_ | refine o_box ?_ | refine o_alloc ?_ | refine o_bslice ?_ | refine o_store ?_ | refine o_pickt ?_ | refine o_pickf ?_ | refine skF ?_ | refine skU ?_
  refine cnd (fun h => ct_skip ?_) (fun h => ct_exit ?_)
  · have h0 : waitL s.q ≠ 0 := by have h' := of_decide_eq_true h; omega
    rw [if_neg h0] at hr
    obtain ⟨x, hx⟩ : ∃ x, s.q[s.turn]? = some x := ⟨_, List.getElem?_eq_getElem (by omega)⟩
    rw [hx] at hr
    have hxe := gm (enc := encQ) (n := (s.turn : Int)) hx (by omega)
    cases x with
    | nil =>
      have g1 : ((([] : List JobL).map encJ).length : Int) == 0 := rfl
      repeat first | refine o_copy ?_ | refine nl ?_ | refine ct_seq ?_ | refine rg ?_ | refine ct_block ?_ | refine bq ?_ | refine o_loads ?_ | refine o_loadp ?_ | refine o_faddr ?_ | refine o_iaddr ?_ | refine o_iaddrO ?_ | refine o_iaddrR ?_ | refine o_sub ?_ | refine o_bin ?_ | refine o_lenq ?_ | refine o_len ?_ | refine o_loadsA ?_ | refine o_loadpA ?_ | refine o_box ?_ | refine o_alloc ?_ | refine o_bslice ?_ | refine o_store ?_ | refine o_pickt ?_ | refine o_pickf ?_ | refine skF ?_ | refine skU ?_
      refine cndt ?_
      repeat first | refine o_copy ?_ | refine nl ?_ | refine ct_seq ?_ | refine rg ?_ | refine ct_block ?_ | refine bq ?_ | refine cl (lent := [⟨1, 8200⟩, ⟨1, 8201⟩]) (on_vc1 hw (j := ⟨0, 0, 0⟩) (js := []) hx) ?_ | refine o_loads ?_ | refine o_loadp ?_ | refine o_faddr ?_ | refine o_iaddr ?_ | refine o_iaddrO ?_ | refine o_iaddrR ?_ | refine o_sub ?_ | refine o_bin ?_ | refine o_lenq ?_ | refine o_len ?_ | refine o_loadsA ?_ | refine o_loadpA ?_ | refine o_box ?_ | refine o_alloc ?_ | refine o_bslice ?_ | refine o_store ?_ | refine o_pickt ?_ | refine o_pickf ?_ | refine skF ?_ | refine skU ?_
      refine ct_exit ?_
      have hr2 : runF n (onL s) b out = some (s', l) := hr
      have hw2 := onL_wf hw (fun j js h => by rw [hx] at h; cases h)
      exact agn (Q := fun _ _ => True) (n, onL s, b, out) ⟨hw2, hr2, ho, hb1, hb2⟩ goesD
    | cons j js =>
      obtain ⟨ct, hct⟩ : ∃ x, s.c[s.turn]? = some x := ⟨_, List.getElem?_eq_getElem (by omega)⟩
      have hcte := gm (enc := encI) (n := (s.turn : Int)) hct (by omega)
      have hcb := hw.cs _ _ hct
      have hjb := hw.jb _ _ hx j (by simp)
      have hje : ((j :: js).map encJ)[(0 : Int).toNat]? = some (encJ j) := rfl
      have hwl := waitL_get hx
      simp only [List.length_cons] at hwl
      rw [hct] at hr
      simp only [Option.getD_some] at hr
      have g1 : ((((j :: js).map encJ).length : Int) == 0) = false := by simp; omega
      by_cases hj : j.c ≤ ct
      · have g2 : decide (j.c > ct) = false := by simpa using hj
        rw [if_pos hj] at hr
        repeat first | refine o_copy ?_ | refine nl ?_ | refine ct_seq ?_ | refine rg ?_ | refine ct_block ?_ | refine bq ?_ | refine o_loads ?_ | refine o_loadp ?_ | refine o_faddr ?_ | refine o_iaddr ?_ | refine o_iaddrO ?_ | refine o_iaddrR ?_ | refine o_sub ?_ | refine o_bin ?_ | refine o_lenq ?_ | refine o_len ?_ | refine o_loadsA ?_ | refine o_loadpA ?_ | refine o_box ?_ | refine o_alloc ?_ | refine o_bslice ?_ | refine o_store ?_ | refine o_pickt ?_ | refine o_pickf ?_ | refine skF ?_ | refine skU ?_
        refine cndf (ct_skip ?_)
        repeat first | refine o_copy ?_ | refine nl ?_ | refine ct_seq ?_ | refine rg ?_ | refine ct_block ?_ | refine bq ?_ | refine o_loads ?_ | refine o_loadp ?_ | refine o_faddr ?_ | refine o_iaddr ?_ | refine o_iaddrO ?_ | refine o_iaddrR ?_ | refine o_sub ?_ | refine o_bin ?_ | refine o_lenq ?_ | refine o_len ?_ | refine o_loadsA ?_ | refine o_loadpA ?_ | refine o_box ?_ | refine o_alloc ?_ | refine o_bslice ?_ | refine o_store ?_ | refine o_pickt ?_ | refine o_pickf ?_ | refine skF ?_ | refine skU ?_
        refine cnd (fun hb => ?_) (fun hb => ct_skip ?_)
        · have hb' : j.c > b := by simpa using hb
          rw [if_pos hb'] at hr
          cases hr
          repeat first | refine o_copy ?_ | refine nl ?_ | refine ct_seq ?_ | refine rg ?_ | refine ct_block ?_ | refine bq ?_ | refine o_loads ?_ | refine o_loadp ?_ | refine o_faddr ?_ | refine o_iaddr ?_ | refine o_iaddrO ?_ | refine o_iaddrR ?_ | refine o_sub ?_ | refine o_bin ?_ | refine o_lenq ?_ | refine o_len ?_ | refine o_loadsA ?_ | refine o_loadpA ?_ | refine o_box ?_ | refine o_alloc ?_ | refine o_bslice ?_ | refine o_store ?_ | refine o_pickt ?_ | refine o_pickf ?_ | refine skF ?_ | refine skU ?_
          exact ct_ret ⟨.inr rfl, fin (nt := 0) rfl rfl rfl rfl⟩
        · have hb' : ¬ j.c > b := by simpa using hb
          rw [if_neg hb'] at hr
          repeat first | refine o_copy ?_ | refine nl ?_ | refine ct_seq ?_ | refine rg ?_ | refine ct_block ?_ | refine bq ?_ | refine o_v0 (tl_v rfl) ?_ | refine o_v (vst encQ js) ?_ | refine o_v (vst encI (ct - j.c)) ?_ | refine o_v (vap encJ j) ?_ | refine o_loads ?_ | refine o_loadp ?_ | refine o_faddr ?_ | refine o_iaddr ?_ | refine o_iaddrO ?_ | refine o_iaddrR ?_ | refine o_sub ?_ | refine o_bin ?_ | refine o_lenq ?_ | refine o_len ?_ | refine o_loadsA ?_ | refine o_loadpA ?_ | refine o_box ?_ | refine o_alloc ?_ | refine o_bslice ?_ | refine o_store ?_ | refine o_pickt ?_ | refine o_pickf ?_ | refine skF ?_ | refine skU ?_
          have hw2 := popL_wf hw hx (by rw [hct]; exact hj)
          have hpw := popL_wait hx
          have hpe : popL s j js = { s with c := s.c.set s.turn (ct - j.c), q := s.q.set s.turn js } := by unfold popL; rw [hct]; rfl
          rw [hpe] at hr hw2 hpw
          refine agn (Q := fun _ _ => True) (n, { s with c := s.c.set s.turn (ct - j.c), q := s.q.set s.turn js }, b - j.c, out ++ [j]) ⟨hw2, hr, ?_, (by simp only; omega), (by simp only; omega)⟩ ?_
          · simp only [List.length_append, List.length_cons, List.length_nil] at hpw ⊢
            omega
          show Imp _ ⟨_, _, QH _ _⟩
          rw [QH_n s (s2 := { s with c := s.c.set s.turn (ct - j.c), q := s.q.set s.turn js }) (by simp) (by simp)]
          exact goesD
      · have g2 : decide (j.c > ct) = true := by simpa using hj
        rw [if_neg hj] at hr
        repeat first | refine o_copy ?_ | refine nl ?_ | refine ct_seq ?_ | refine rg ?_ | refine ct_block ?_ | refine bq ?_ | refine o_loads ?_ | refine o_loadp ?_ | refine o_faddr ?_ | refine o_iaddr ?_ | refine o_iaddrO ?_ | refine o_iaddrR ?_ | refine o_sub ?_ | refine o_bin ?_ | refine o_lenq ?_ | refine o_len ?_ | refine o_loadsA ?_ | refine o_loadpA ?_ | refine o_box ?_ | refine o_alloc ?_ | refine o_bslice ?_ | refine o_store ?_ | refine o_pickt ?_ | refine o_pickf ?_ | refine skF ?_ | refine skU ?_
        refine cndt ?_
        repeat first | refine o_copy ?_ | refine nl ?_ | refine ct_seq ?_ | refine rg ?_ | refine ct_block ?_ | refine bq ?_ | refine cl (lent := [⟨1, 8200⟩, ⟨1, 8201⟩]) (on_vc2 hw hx) ?_ | refine o_loads ?_ | refine o_loadp ?_ | refine o_faddr ?_ | refine o_iaddr ?_ | refine o_iaddrO ?_ | refine o_iaddrR ?_ | refine o_sub ?_ | refine o_bin ?_ | refine o_lenq ?_ | refine o_len ?_ | refine o_loadsA ?_ | refine o_loadpA ?_ | refine o_box ?_ | refine o_alloc ?_ | refine o_bslice ?_ | refine o_store ?_ | refine o_pickt ?_ | refine o_pickf ?_ | refine skF ?_ | refine skU ?_
        refine ct_exit ?_
        have hw2 := onL_wf hw (fun j' js' h => by rw [hx] at h; cases h; rw [hct]; simp only [Option.getD_some]; omega)
        exact agn (Q := fun _ _ => True) (n, onL s, b, out) ⟨hw2, hr, ho, hb1, hb2⟩ goesD
  · have h0 : waitL s.q = 0 := by have h' := of_decide_eq_false h; omega
    rw [if_pos h0] at hr
    cases hr
    repeat first | refine o_copy ?_ | refine nl ?_ | refine ct_seq ?_ | refine rg ?_ | refine ct_block ?_ | refine bq ?_ | refine o_loads ?_ | refine o_loadp ?_ | refine o_faddr ?_ | refine o_iaddr ?_ | refine o_iaddrO ?_ | refine o_iaddrR ?_ | refine o_sub ?_ | refine o_bin ?_ | refine o_lenq ?_ | refine o_len ?_ | refine o_loadsA ?_ | refine o_loadpA ?_ | refine o_box ?_ | refine o_alloc ?_ | refine o_bslice ?_ | refine o_store ?_ | refine o_pickt ?_ | refine o_pickf ?_ | refine skF ?_ | refine skU ?_
    exact ct_ret ⟨.inr rfl, fin (nt := 0) rfl rfl rfl rfl⟩
end Go.Proofs
open Go.V Go.Pu
set_option linter.unusedVariables false
set_option linter.unusedSimpArgs false
set_option maxRecDepth 20000
namespace Go.Proofs
/-- downspout/sched.New -/
def vc20 : VCode :=
 (.seq
 (.region 0 false [
 ⟨(some 2), .alloc [.nils, .nils, (.int .i64 0), .nils], none, 0, []⟩,
 ⟨(some 3), .copy (.c (.int .i64 0)), none, 8, []⟩])
 (.seq
 (.region 1 false [
 ⟨(some 4), .copy (.c (.fn 31 [])), none, 8192, []⟩])
 (.seq
 (.seq
 (.region 2 false [
 ⟨(some 6), .copy (.t 0), none, 16384, []⟩,
 ⟨(some 7), .len (.t 6), none, 16392, [0]⟩,
 ⟨(some 8), .bin .lss (.t 7) (.c (.int .i64 1)), none, 16400, [1, 0]⟩,
 ⟨(some 9), .copy (.t 8), none, 16408, [2, 1, 0]⟩,
 ⟨(some 10), .copy (.t 0), (some (3, 9, false)), 16416, [3, 2, 1, 0]⟩,
 ⟨(some 11), .len (.t 10), (some (3, 9, false)), 16424, [4, 3, 2, 1, 0]⟩,
 ⟨(some 12), .bin .gtr (.t 11) (.c (.int .i64 8)), (some (3, 9, false)), 16432, [5, 4, 3, 2, 1, 0]⟩,
 ⟨(some 13), .pick (.t 9) (.c (.bool true)) (.t 12), none, 16440, [3, 2, 1, 0, 6, 5, 4]⟩,
 ⟨(some 14), .copy (.t 13), none, 16448, [7, 3, 2, 1, 0, 6, 5, 4]⟩,
 ⟨(some 15), .copy (.t 0), (some (8, 14, false)), 16456, [8, 7, 3, 2, 1, 0, 6, 5, 4]⟩,
 ⟨(some 16), .copy (.t 4), (some (8, 14, false)), 16464, [8, 7, 3, 2, 1, 0, 6, 5, 4]⟩,
 ⟨(some 17), .call (.c (.fn 32 [])) [(.t 15), (.t 16)], (some (8, 14, false)), 16472, [9, 8, 7, 3, 2, 1, 0, 6, 5, 4, 10]⟩,
 ⟨(some 18), .pick (.t 14) (.c (.bool true)) (.t 17), none, 16480, [8, 7, 3, 2, 1, 0, 6, 5, 4, 11, 9, 10]⟩])
 (.cond (.t 18)
 (.seq
 (.region 3 false [
 ⟨(some 19), .build [.nils, .nils, (.int .i64 0), .nils] [], none, 24576, []⟩,
 ⟨none, .store 4 (.t 2) (.t 19), none, 24584, [0]⟩,
 ⟨(some 3), .copy (.c (.int .i64 1)), none, 24592, [1, 0]⟩])
 .ret)
 .skip))
 (.seq
 (.region 4 true [
 ⟨(some 20), .copy (.t 0), none, 32768, []⟩,
 ⟨(some 21), .call (.c (.fn 33 [])) [(.t 20)], none, 32776, [0]⟩,
 ⟨(some 22), .copy (.t 0), none, 32784, []⟩,
 ⟨(some 23), .len (.t 22), none, 32792, [2]⟩,
 ⟨(some 24), .mkslice 8 [(.int .i64 0)] (.t 23) (.t 23), none, 32800, [3, 2]⟩,
 ⟨(some 25), .copy (.t 0), none, 32808, []⟩,
 ⟨(some 26), .len (.t 25), none, 32816, [5]⟩,
 ⟨(some 27), .mkslice 24 [.nils] (.t 26) (.t 26), none, 32824, [6, 5]⟩,
 ⟨(some 28), .build [.nils, .nils, (.int .i64 0), .nils] [(0, 1, (.t 21)), (1, 1, (.t 24)), (3, 1, (.t 27))], none, 32832, [1, 0, 4, 3, 2, 7, 6, 5]⟩,
 ⟨(some 5), .alloc [.nils, .nils, (.int .i64 0), .nils], none, 32840, []⟩,
 ⟨none, .store 4 (.t 5) (.t 28), none, 32848, [9, 8, 1, 0, 4, 3, 2, 7, 6, 5]⟩])
 (.seq
 (.region 5 true [
 ⟨(some 29), .faddr 1 (.t 5), none, 40960, []⟩,
 ⟨(some 30), .load false 1 (.t 29), none, 40968, [0]⟩,
 ⟨(some 31), .copy (.t 0), none, 40976, []⟩,
 ⟨(some 32), .iaddr 1 (.t 31) (.c (.int .i64 0)), none, 40984, [2]⟩,
 ⟨(some 33), .load false 1 (.t 32), none, 40992, [3, 2]⟩,
 ⟨(some 34), .iaddr 1 (.t 30) (.c (.int .i64 0)), none, 41000, [1, 0, 2, 3, 4]⟩,
 ⟨none, .store 1 (.t 34) (.t 33), none, 41008, [5, 1, 0, 2, 3, 4]⟩])
 (.seq
 (.region 6 false [
 ⟨(some 35), .load true 4 (.t 5), none, 49152, []⟩,
 ⟨none, .store 4 (.t 2) (.t 35), none, 49160, [0]⟩,
 ⟨(some 3), .copy (.c (.int .i64 0)), none, 49168, [1, 0]⟩])
 .ret))))))
theorem vf20 : VF Try.prog 20 = some (36, vc20, [.cell true 4 2, .tmp 3]) := by kernel_rfl
/-- downspout/downspoutref31.New -/
def vc21 : VCode :=
 (.seq
 (.region 0 false [
 ⟨(some 2), .alloc [.nils, .nils, (.int .i64 0), .nils], none, 0, []⟩,
 ⟨(some 3), .copy (.c (.int .i64 0)), none, 8, []⟩])
 (.seq
 (.seq
 (.region 1 false [
 ⟨(some 6), .copy (.t 0), none, 8192, []⟩,
 ⟨(some 7), .len (.t 6), none, 8200, [0]⟩,
 ⟨(some 8), .bin .lss (.t 7) (.c (.int .i64 1)), none, 8208, [1, 0]⟩,
 ⟨(some 9), .copy (.t 8), none, 8216, [2, 1, 0]⟩,
 ⟨(some 10), .copy (.t 0), (some (3, 9, false)), 8224, [3, 2, 1, 0]⟩,
 ⟨(some 11), .len (.t 10), (some (3, 9, false)), 8232, [4, 3, 2, 1, 0]⟩,
 ⟨(some 12), .bin .gtr (.t 11) (.c (.int .i64 8)), (some (3, 9, false)), 8240, [5, 4, 3, 2, 1, 0]⟩,
 ⟨(some 13), .pick (.t 9) (.c (.bool true)) (.t 12), none, 8248, [3, 2, 1, 0, 6, 5, 4]⟩])
 (.cond (.t 13)
 (.seq
 (.region 2 false [
 ⟨(some 14), .build [.nils, .nils, (.int .i64 0), .nils] [], none, 16384, []⟩,
 ⟨none, .store 4 (.t 2) (.t 14), none, 16392, [0]⟩,
 ⟨(some 3), .copy (.c (.int .i64 1)), none, 16400, [1, 0]⟩])
 .ret)
 .skip))
 (.seq
 (.region 3 false [
 ⟨(some 15), .build [.nils, .nils, (.int .i64 0), .nils] [], none, 24576, []⟩,
 ⟨(some 4), .alloc [.nils, .nils, (.int .i64 0), .nils], none, 24584, []⟩,
 ⟨none, .store 4 (.t 4) (.t 15), none, 24592, [1, 0]⟩])
 (.seq
 (.seq
 (.region 4 false [
 ⟨(some 5), .copy (.c (.int .i64 0)), none, 32768, []⟩])
 (.block 0
 (.loop
 (.seq
 (.seq
 (.region 5 false [
 ⟨(some 16), .copy (.t 5), none, 40960, []⟩,
 ⟨(some 17), .copy (.t 0), none, 40968, []⟩,
 ⟨(some 18), .len (.t 17), none, 40976, [1]⟩,
 ⟨(some 19), .bin .lss (.t 16) (.t 18), none, 40984, [0, 2, 1]⟩])
 (.cond (.t 19)
 .skip
 (.exit 0)))
 (.seq
 (.block 1
 (.seq
 (.seq
 (.region 7 false [
 ⟨(some 22), .copy (.t 0), none, 57344, []⟩,
 ⟨(some 23), .copy (.t 5), none, 57352, []⟩,
 ⟨(some 24), .iaddr 1 (.t 22) (.t 23), none, 57360, [0, 1]⟩,
 ⟨(some 25), .load false 1 (.t 24), none, 57368, [2, 0, 1]⟩,
 ⟨(some 26), .bin .lss (.t 25) (.c (.int .i64 1)), none, 57376, [3, 2, 0, 1]⟩,
 ⟨(some 27), .copy (.t 26), none, 57384, [4, 3, 2, 0, 1]⟩,
 ⟨(some 28), .copy (.t 0), (some (5, 27, false)), 57392, [5, 4, 3, 2, 0, 1]⟩,
 ⟨(some 29), .copy (.t 5), (some (5, 27, false)), 57400, [5, 4, 3, 2, 0, 1]⟩,
 ⟨(some 30), .iaddr 1 (.t 28) (.t 29), (some (5, 27, false)), 57408, [6, 5, 4, 3, 2, 0, 1, 7]⟩,
 ⟨(some 31), .load false 1 (.t 30), (some (5, 27, false)), 57416, [8, 6, 5, 4, 3, 2, 0, 1, 7]⟩,
 ⟨(some 32), .bin .gtr (.t 31) (.c (.int .i64 100)), (some (5, 27, false)), 57424, [9, 8, 6, 5, 4, 3, 2, 0, 1, 7]⟩,
 ⟨(some 33), .pick (.t 27) (.c (.bool true)) (.t 32), none, 57432, [5, 4, 3, 2, 0, 1, 10, 9, 8, 6, 7]⟩])
 (.cond (.t 33)
 (.seq
 (.region 8 false [
 ⟨(some 34), .build [.nils, .nils, (.int .i64 0), .nils] [], none, 65536, []⟩,
 ⟨none, .store 4 (.t 2) (.t 34), none, 65544, [0]⟩,
 ⟨(some 3), .copy (.c (.int .i64 1)), none, 65552, [1, 0]⟩])
 .ret)
 .skip))
 (.region 9 true [
 ⟨(some 35), .faddr 0 (.t 4), none, 73728, []⟩,
 ⟨(some 36), .load false 1 (.t 35), none, 73736, [0]⟩,
 ⟨(some 37), .copy (.t 0), none, 73744, []⟩,
 ⟨(some 38), .copy (.t 5), none, 73752, []⟩,
 ⟨(some 39), .iaddr 1 (.t 37) (.t 38), none, 73760, [2, 3]⟩,
 ⟨(some 40), .load false 1 (.t 39), none, 73768, [4, 2, 3]⟩,
 ⟨(some 41), .bslice 1 [(.int .i64 0)] 1 [(0, (.t 40))], none, 73776, [5, 4, 2, 3]⟩,
 ⟨(some 42), .append 1 8 [(.int .i64 0)] (.t 36) (.t 41), none, 73784, [1, 0, 6, 5, 4, 2, 3]⟩,
 ⟨(some 43), .faddr 1 (.t 4), none, 73792, []⟩,
 ⟨(some 44), .load false 1 (.t 43), none, 73800, [8]⟩,
 ⟨(some 45), .bslice 1 [(.int .i64 0)] 1 [(0, (.c (.int .i64 0)))], none, 73808, []⟩,
 ⟨(some 46), .append 1 8 [(.int .i64 0)] (.t 44) (.t 45), none, 73816, [9, 8, 10, 7, 1, 0, 6, 5, 4, 2, 3]⟩,
 ⟨(some 47), .faddr 3 (.t 4), none, 73824, []⟩,
 ⟨(some 48), .load false 1 (.t 47), none, 73832, [12]⟩,
 ⟨(some 49), .bslice 1 [.nils] 1 [(0, (.c .nils))], none, 73840, []⟩,
 ⟨(some 50), .append 1 24 [.nils] (.t 48) (.t 49), none, 73848, [13, 12, 14, 11, 9, 8, 10, 7, 1, 0, 6, 5, 4, 2, 3]⟩,
 ⟨(some 51), .faddr 0 (.t 4), none, 73856, [0, 1, 2, 3, 4, 5, 6, 7, 8, 9, 12, 13]⟩,
 ⟨none, .store 1 (.t 51) (.t 42), none, 73864, [16, 0, 1, 2, 3, 4, 5, 6, 7, 8, 9, 12, 13, 15, 14, 11, 10]⟩,
 ⟨(some 52), .faddr 1 (.t 4), none, 73872, [0, 1, 2, 3, 4, 5, 6, 7, 8, 9, 10, 11, 12, 13, 16, 17, 15, 14]⟩,
 ⟨none, .store 1 (.t 52) (.t 46), none, 73880, [18, 0, 1, 2, 3, 4, 5, 6, 7, 8, 9, 10, 11, 12, 13, 16, 17, 15, 14]⟩,
 ⟨(some 53), .faddr 3 (.t 4), none, 73888, [0, 1, 2, 3, 4, 5, 6, 7, 8, 9, 10, 11, 12, 13, 14, 15, 16, 17, 18, 19]⟩,
 ⟨none, .store 1 (.t 53) (.t 50), none, 73896, [20, 0, 1, 2, 3, 4, 5, 6, 7, 8, 9, 10, 11, 12, 13, 14, 15, 16, 17, 18, 19]⟩])))
 (.region 6 false [
 ⟨(some 20), .copy (.t 5), none, 49152, []⟩,
 ⟨(some 21), .bin .add (.t 20) (.c (.int .i64 1)), none, 49160, [0]⟩,
 ⟨(some 5), .copy (.t 21), none, 49168, [1, 0]⟩]))))))
 (.seq
 (.region 10 true [
 ⟨(some 54), .faddr 1 (.t 4), none, 81920, []⟩,
 ⟨(some 55), .load false 1 (.t 54), none, 81928, [0]⟩,
 ⟨(some 56), .copy (.t 0), none, 81936, []⟩,
 ⟨(some 57), .iaddr 1 (.t 56) (.c (.int .i64 0)), none, 81944, [2]⟩,
 ⟨(some 58), .load false 1 (.t 57), none, 81952, [3, 2]⟩,
 ⟨(some 59), .iaddr 1 (.t 55) (.c (.int .i64 0)), none, 81960, [1, 0, 2, 3, 4]⟩,
 ⟨none, .store 1 (.t 59) (.t 58), none, 81968, [5, 1, 0, 2, 3, 4]⟩])
 (.seq
 (.region 11 false [
 ⟨(some 60), .load true 4 (.t 4), none, 90112, []⟩,
 ⟨none, .store 4 (.t 2) (.t 60), none, 90120, [0]⟩,
 ⟨(some 3), .copy (.c (.int .i64 0)), none, 90128, [1, 0]⟩])
 .ret))))))
theorem vf21 : VF Try.prog 21 = some (61, vc21, [.cell true 4 2, .tmp 3]) := by kernel_rfl
def emptyL : SchL := ⟨[], [], 0, []⟩
def newL (w : List Int) : SchL := { w := w, c := (List.replicate w.length 0).set 0 ((w[0]?).getD 0), turn := 0, q := List.replicate w.length [] }
def newR (w : List Int) : SchL × Int := if w.length < 1 ∨ 8 < w.length ∨ wrongL w = true then (emptyL, 1) else (newL w, 0)
theorem clone_vc {x : Int} {xs : List Int} (hl : xs.length ≤ 1000000) : VC Try.prog 33 [.sh false ((x :: xs).map encI)] [] (ownV ⟨0, 0⟩ ((x :: xs).map encI)) [blkV 1 ((x :: xs).map encI)] := by
  refine vc_of vf33 ?_ (Nat.le_of_ble_eq_true rfl) (by intro vs h; cases h)
  repeat first | refine o_copy ?_ | refine nl ?_ | refine ct_seq ?_ | refine rg ?_ | refine ct_block ?_ | refine bq ?_ | refine o_bslice ?_ | refine o_isnil ?_
  refine cndf (ct_skip ?_) rfl rfl
  repeat first | refine o_copy ?_ | refine nl ?_ | refine ct_seq ?_ | refine rg ?_ | refine ct_block ?_ | refine bq ?_ | refine o_v (vaps encI [] (x :: xs)) ?_ | refine o_bslice ?_ | refine o_isnil ?_
  exact ct_ret ⟨.inr rfl, oOwn rfl⟩
theorem sle_nil : SLe .nils (.sh false []) := CLe.nils.s rfl
theorem weak_empty {f : Nat} {args : List PV} {e : Int} (h : VC Try.prog f args [] (.tup [.agg [.nils, .nils, .int .i64 0, .nils], .int .i64 e]) []) (ha : ∀ p ∈ args, True) : VC Try.prog f args [] (.tup [.agg (encSc emptyL), .int .i64 e]) [] := by
  refine vc_weak h (by
    clear h ha
    induction args with
    | nil => exact .nil
    | cons p l ih => exact .cons (PLe.refl p) ih) (PLe.tup (.cons (ALe.agg (.cons sle_nil (.cons sle_nil (.cons (SLe.refl _) (.cons sle_nil .nil))))) (.cons (ALe.refl _) .nil)))
theorem all2_refl : ∀ {l : List PV}, All2 PLe l l
  | [] => .nil
  | p :: l => .cons (PLe.refl p) all2_refl
theorem cle_rep (n : Nat) : CLe (.sh false (List.replicate n [.nils])) (.sh false ((List.replicate n ([] : List JobL)).map encQ)) := by
  refine CLe.sh (by simp) fun i e he => ?_
  have hi : i < n := by have := (List.getElem?_eq_some_iff.1 he).1; simpa using this
  rw [List.getElem?_map, List.getElem?_replicate, if_pos hi] at he
  simp only [Option.map_some, Option.some.injEq] at he
  subst he
  refine ⟨[.nils], by rw [List.getElem?_replicate, if_pos hi], rfl, fun j p hp => ?_⟩
  have hj : j = 0 := by have := (List.getElem?_eq_some_iff.1 hp).1; simp at this; omega
  subst hj
  simp at hp
  subst hp
  exact ⟨.nils, rfl, CLe.nils⟩
theorem weak_new {f : Nat} {args : List PV} {w : List Int} (h : VC Try.prog f args [] (.tup [.agg [.sh false (w.map encI), .sh false ((newL w).c.map encI), .int .i64 0, .sh false (List.replicate w.length [.nils])], .int .i64 0]) []) : VC Try.prog f args [] (.tup [.agg (encSc (newL w)), .int .i64 0]) [] :=
  vc_weak h all2_refl (PLe.tup (.cons (ALe.agg (.cons (SLe.refl _) (.cons (SLe.refl _) (.cons (SLe.refl _) (.cons ((cle_rep w.length).s rfl) .nil))))) (.cons (ALe.refl _) .nil)))
theorem l_new {hf : HF} {a b c : Bid} {w cr : List Int} {qe : List (List PV)} (ha : hf a = some (blkV 1 (w.map encI))) (hb : hf b = some (blkV 1 (cr.map encI))) (hc : hf c = some (blkV 1 qe)) :
    lendVs hf [] [.agg [ownV a (w.map encI), ownV b (cr.map encI), .int .i64 0, ownV c qe], .int .i64 0] = some ([a, b, c], [.agg [.sh false (w.map encI), .sh false (cr.map encI), .int .i64 0, .sh false qe], .int .i64 0]) := by
  have h0 : lendS hf [] (ownV a (w.map encI)) = some ([a], .sh false (w.map encI)) := l_own ha rfl
  have h1 : lendS hf [] (ownV b (cr.map encI)) = some ([b], .sh false (cr.map encI)) := l_own hb rfl
  have h2 : lendS hf [] (ownV c qe) = some ([c], .sh false qe) := l_own hc rfl
  simp only [lendVs, lendV, lendSs]
  rw [h0, h1, h2]
  rfl
set_option maxHeartbeats 1000000 in
theorem new_vc {w : List Int} (hl : w.length ≤ 1000000) : VC Try.prog 20 [.sh false (w.map encI)] [] (.tup [.agg (encSc (newR w).1), .int .i64 (newR w).2]) [] := by
  have hwl : (w.map encI).length = w.length := by simp
  by_cases h1 : w.length < 1
  · have e : newR w = (emptyL, 1) := by unfold newR; rw [if_pos (.inl h1)]
    have g1 : decide (((w.map encI).length : Int) < 1) = true := by rw [hwl]; simp; omega
    rw [e]
    refine weak_empty ?_ (fun _ _ => trivial)
    refine vc_of vf20 ?_ (Nat.le_of_ble_eq_true rfl) (by intro vs h; cases h; simp)
    repeat first | refine o_copy ?_ | refine nl ?_ | refine ct_seq ?_ | refine rg ?_ | refine ct_block ?_ | refine bq ?_ | refine o_loads ?_ | refine o_loadp ?_ | refine o_faddr ?_ | refine o_iaddr ?_ | refine o_iaddrO ?_ | refine o_iaddrR ?_ | refine o_bin ?_ | refine o_lenq ?_ | refine o_len ?_ | refine o_loadsA ?_ | refine o_loadpA ?_ | refine o_alloc ?_ | refine o_store ?_ | refine o_pickt ?_ | refine o_pickf ?_ | refine o_build ?_ | refine skF ?_ | refine skU ?_
    refine cndt ?_
    repeat first | refine o_copy ?_ | refine nl ?_ | refine ct_seq ?_ | refine rg ?_ | refine ct_block ?_ | refine bq ?_ | refine o_loads ?_ | refine o_loadp ?_ | refine o_faddr ?_ | refine o_iaddr ?_ | refine o_iaddrO ?_ | refine o_iaddrR ?_ | refine o_bin ?_ | refine o_lenq ?_ | refine o_len ?_ | refine o_loadsA ?_ | refine o_loadpA ?_ | refine o_alloc ?_ | refine o_store ?_ | refine o_pickt ?_ | refine o_pickf ?_ | refine o_build ?_ | refine skF ?_ | refine skU ?_
    exact ct_ret ⟨.inr rfl, oAny rfl⟩
  have g1 : decide (((w.map encI).length : Int) < 1) = false := by rw [hwl]; simp; omega
  by_cases h2 : 8 < w.length
  · have e : newR w = (emptyL, 1) := by unfold newR; rw [if_pos (.inr (.inl h2))]
    have g2 : decide (((w.map encI).length : Int) > 8) = true := by rw [hwl]; simp; omega
    rw [e]
    refine weak_empty ?_ (fun _ _ => trivial)
    refine vc_of vf20 ?_ (Nat.le_of_ble_eq_true rfl) (by intro vs h; cases h; simp)
    repeat first | refine o_copy ?_ | refine nl ?_ | refine ct_seq ?_ | refine rg ?_ | refine ct_block ?_ | refine bq ?_ | refine o_loads ?_ | refine o_loadp ?_ | refine o_faddr ?_ | refine o_iaddr ?_ | refine o_iaddrO ?_ | refine o_iaddrR ?_ | refine o_bin ?_ | refine o_lenq ?_ | refine o_len ?_ | refine o_loadsA ?_ | refine o_loadpA ?_ | refine o_alloc ?_ | refine o_store ?_ | refine o_pickt ?_ | refine o_pickf ?_ | refine o_build ?_ | refine skF ?_ | refine skU ?_
    refine cndt ?_
    repeat first | refine o_copy ?_ | refine nl ?_ | refine ct_seq ?_ | refine rg ?_ | refine ct_block ?_ | refine bq ?_ | refine o_loads ?_ | refine o_loadp ?_ | refine o_faddr ?_ | refine o_iaddr ?_ | refine o_iaddrO ?_ | refine o_iaddrR ?_ | refine o_bin ?_ | refine o_lenq ?_ | refine o_len ?_ | refine o_loadsA ?_ | refine o_loadpA ?_ | refine o_alloc ?_ | refine o_store ?_ | refine o_pickt ?_ | refine o_pickf ?_ | refine o_build ?_ | refine skF ?_ | refine skU ?_
    exact ct_ret ⟨.inr rfl, oAny rfl⟩
  have g2 : decide (((w.map encI).length : Int) > 8) = false := by rw [hwl]; simp; omega
  by_cases h3 : wrongL w = true
  · have e : newR w = (emptyL, 1) := by unfold newR; rw [if_pos (.inr (.inr h3))]
    rw [e]
    refine weak_empty ?_ (fun _ _ => trivial)
    refine vc_of vf20 ?_ (Nat.le_of_ble_eq_true rfl) (by intro vs h; cases h; simp)
    repeat first | refine o_copy ?_ | refine nl ?_ | refine ct_seq ?_ | refine rg ?_ | refine ct_block ?_ | refine bq ?_ | refine cv0 (contains_vc hl) ?_ | refine o_loads ?_ | refine o_loadp ?_ | refine o_faddr ?_ | refine o_iaddr ?_ | refine o_iaddrO ?_ | refine o_iaddrR ?_ | refine o_bin ?_ | refine o_lenq ?_ | refine o_len ?_ | refine o_loadsA ?_ | refine o_loadpA ?_ | refine o_alloc ?_ | refine o_store ?_ | refine o_pickt ?_ | refine o_pickf ?_ | refine o_build ?_ | refine skF ?_ | refine skU ?_
    refine cndt ?_
    repeat first | refine o_copy ?_ | refine nl ?_ | refine ct_seq ?_ | refine rg ?_ | refine ct_block ?_ | refine bq ?_ | refine o_loads ?_ | refine o_loadp ?_ | refine o_faddr ?_ | refine o_iaddr ?_ | refine o_iaddrO ?_ | refine o_iaddrR ?_ | refine o_bin ?_ | refine o_lenq ?_ | refine o_len ?_ | refine o_loadsA ?_ | refine o_loadpA ?_ | refine o_alloc ?_ | refine o_store ?_ | refine o_pickt ?_ | refine o_pickf ?_ | refine o_build ?_ | refine skF ?_ | refine skU ?_
    exact ct_ret ⟨.inr rfl, oAny rfl⟩
  have h3 : wrongL w = false := by simpa using h3
  have e : newR w = (newL w, 0) := by
    unfold newR
    rw [if_neg]
    rintro (h | h | h)
    · exact h1 h
    · exact h2 h
    · rw [h3] at h; cases h
  rw [e]
  refine weak_new ?_
  obtain ⟨x, xs, rfl⟩ : ∃ x xs, w = x :: xs := by cases w with | nil => simp at h1 | cons x xs => exact ⟨x, xs, rfl⟩
  have hxs : xs.length ≤ 1000000 := by simp at hl; omega
  have hc : (newL (x :: xs)).c = (List.replicate (x :: xs).length 0).set 0 x := by simp [newL]
  rw [hc]
  refine vc_closeT (hout := [blkV 1 ((x :: xs).map encI), blkV 1 (((List.replicate (x :: xs).length 0).set 0 x).map encI), blkV 1 (List.replicate (x :: xs).length [.nils])]) (vs := [.agg [ownV ⟨0, 0⟩ ((x :: xs).map encI), ownV ⟨0, 1⟩ (((List.replicate (x :: xs).length 0).set 0 x).map encI), .int .i64 0, ownV ⟨0, 2⟩ (List.replicate (x :: xs).length [.nils])], .int .i64 0]) ?_ (l_new rfl rfl rfl) (by simp) (by simp)
  refine vc_of vf20 ?_ (Nat.le_of_ble_eq_true rfl) (by intro vs h; cases h; simp)
  repeat first | refine o_copy ?_ | refine nl ?_ | refine ct_seq ?_ | refine rg ?_ | refine ct_block ?_ | refine bq ?_ | refine cv0 (contains_vc hl) ?_ | refine o_loads ?_ | refine o_loadp ?_ | refine o_faddr ?_ | refine o_iaddr ?_ | refine o_iaddrO ?_ | refine o_iaddrR ?_ | refine o_bin ?_ | refine o_lenq ?_ | refine o_len ?_ | refine o_loadsA ?_ | refine o_loadpA ?_ | refine o_alloc ?_ | refine o_store ?_ | refine o_pickt ?_ | refine o_pickf ?_ | refine o_build ?_ | refine skF ?_ | refine skU ?_
  refine cndf (ct_skip ?_)
  repeat first | refine o_copy ?_ | refine nl ?_ | refine ct_seq ?_ | refine rg ?_ | refine ct_block ?_ | refine bq ?_ | refine cv (clone_vc hxs) ?_ | refine o_v (vmkm (enc := encI) (z := [.int .i64 0]) (n := ((x :: xs).map encI).length) (List.replicate (x :: xs).length 0) (by simp)) ?_ | refine o_v (vmkn (n := ((x :: xs).map encI).length)) ?_ | refine o_v (vst encI x) ?_ | refine o_loads ?_ | refine o_loadp ?_ | refine o_faddr ?_ | refine o_iaddr ?_ | refine o_iaddrO ?_ | refine o_iaddrR ?_ | refine o_bin ?_ | refine o_lenq ?_ | refine o_len ?_ | refine o_loadsA ?_ | refine o_loadpA ?_ | refine o_alloc ?_ | refine o_store ?_ | refine o_pickt ?_ | refine o_pickf ?_ | refine o_build ?_ | refine skF ?_ | refine skU ?_
  refine ct_ret ⟨.inr rfl, ?_⟩
  exact oG [⟨1, 32776⟩, ⟨1, 32800⟩, ⟨1, 32824⟩] (v' := .tup [.agg [ownV ⟨0, 0⟩ ((x :: xs).map encI), .own ⟨0, 1⟩ ((x :: xs).map encI).length 0 ((x :: xs).map encI).length, .int .i64 0, .own ⟨0, 2⟩ ((x :: xs).map encI).length 0 ((x :: xs).map encI).length], .int .i64 0]) (hout' := [blkV 1 ((x :: xs).map encI), blkV 1 (((List.replicate (x :: xs).length 0).set 0 x).map encI), blkV 1 (List.replicate ((x :: xs).map encI).length [.nils])]) (hv := by simp [ownV]) (he := by simp)
abbrev encU (_ : Unit) : List PV := [.nils]
abbrev NHl (a c : List Int) (u : List Unit) : Heap := [(⟨1, 24584⟩, ⟨true, false, 4, [[ownV ⟨1, 73784⟩ (a.map encI), ownV ⟨1, 73816⟩ (c.map encI), .int .i64 0, ownV ⟨1, 73848⟩ (u.map encU)]]⟩), (⟨1, 73784⟩, blkV 1 (a.map encI)), (⟨1, 73816⟩, blkV 1 (c.map encI)), (⟨1, 73848⟩, blkV 1 (u.map encU)), (⟨1, 0⟩, ⟨true, false, 4, [[.nils, .nils, .int .i64 0, .nils]]⟩)]
abbrev NH0 : Heap := [(⟨1, 24584⟩, ⟨true, false, 4, [[.nils, .nils, .int .i64 0, .nils]]⟩), (⟨1, 0⟩, ⟨true, false, 4, [[.nils, .nils, .int .i64 0, .nils]]⟩)]
def NH (w : List Int) : Nat → Heap
  | 0 => NH0
  | i + 1 => NHl (w.take (i + 1)) (List.replicate (i + 1) 0) (List.replicate (i + 1) ())
set_option maxHeartbeats 2000000 in
theorem rnew_vc {w : List Int} (hl : w.length ≤ 1000000) : VC Try.prog 21 [.sh false (w.map encI)] [] (.tup [.agg (encSc (newR w).1), .int .i64 (newR w).2]) [] := by
  have hwl : (w.map encI).length = w.length := by simp
  by_cases h1 : w.length < 1
  · have e : newR w = (emptyL, 1) := by unfold newR; rw [if_pos (.inl h1)]
    have g1 : decide (((w.map encI).length : Int) < 1) = true := by rw [hwl]; simp; omega
    rw [e]
    refine weak_empty ?_ (fun _ _ => trivial)
    refine vc_of vf21 ?_ (Nat.le_of_ble_eq_true rfl) (by intro vs h; cases h; simp)
    repeat first | refine o_copy ?_ | refine nl ?_ | refine ct_seq ?_ | refine rg ?_ | refine ct_block ?_ | refine bq ?_ | refine o_loads ?_ | refine o_loadp ?_ | refine o_faddr ?_ | refine o_iaddr ?_ | refine o_iaddrO ?_ | refine o_iaddrR ?_ | refine o_add ?_ | refine o_cat ?_ | refine o_bin ?_ | refine o_lenq ?_ | refine o_len ?_ | refine o_loadsA ?_ | refine o_loadpA ?_ | refine o_alloc ?_ | refine o_bslice ?_ | refine o_store ?_ | refine o_pickt ?_ | refine o_pickf ?_ | refine o_build ?_ | refine skF ?_ | refine skU ?_
    refine cndt ?_
    repeat first | refine o_copy ?_ | refine nl ?_ | refine ct_seq ?_ | refine rg ?_ | refine ct_block ?_ | refine bq ?_ | refine o_loads ?_ | refine o_loadp ?_ | refine o_faddr ?_ | refine o_iaddr ?_ | refine o_iaddrO ?_ | refine o_iaddrR ?_ | refine o_add ?_ | refine o_cat ?_ | refine o_bin ?_ | refine o_lenq ?_ | refine o_len ?_ | refine o_loadsA ?_ | refine o_loadpA ?_ | refine o_alloc ?_ | refine o_bslice ?_ | refine o_store ?_ | refine o_pickt ?_ | refine o_pickf ?_ | refine o_build ?_ | refine skF ?_ | refine skU ?_
    exact ct_ret ⟨.inr rfl, oAny rfl⟩
  have g1 : decide (((w.map encI).length : Int) < 1) = false := by rw [hwl]; simp; omega
  by_cases h2 : 8 < w.length
  · have e : newR w = (emptyL, 1) := by unfold newR; rw [if_pos (.inr (.inl h2))]
    have g2 : decide (((w.map encI).length : Int) > 8) = true := by rw [hwl]; simp; omega
    rw [e]
    refine weak_empty ?_ (fun _ _ => trivial)
    refine vc_of vf21 ?_ (Nat.le_of_ble_eq_true rfl) (by intro vs h; cases h; simp)
    repeat first | refine o_copy ?_ | refine nl ?_ | refine ct_seq ?_ | refine rg ?_ | refine ct_block ?_ | refine bq ?_ | refine o_loads ?_ | refine o_loadp ?_ | refine o_faddr ?_ | refine o_iaddr ?_ | refine o_iaddrO ?_ | refine o_iaddrR ?_ | refine o_add ?_ | refine o_cat ?_ | refine o_bin ?_ | refine o_lenq ?_ | refine o_len ?_ | refine o_loadsA ?_ | refine o_loadpA ?_ | refine o_alloc ?_ | refine o_bslice ?_ | refine o_store ?_ | refine o_pickt ?_ | refine o_pickf ?_ | refine o_build ?_ | refine skF ?_ | refine skU ?_
    refine cndt ?_
    repeat first | refine o_copy ?_ | refine nl ?_ | refine ct_seq ?_ | refine rg ?_ | refine ct_block ?_ | refine bq ?_ | refine o_loads ?_ | refine o_loadp ?_ | refine o_faddr ?_ | refine o_iaddr ?_ | refine o_iaddrO ?_ | refine o_iaddrR ?_ | refine o_add ?_ | refine o_cat ?_ | refine o_bin ?_ | refine o_lenq ?_ | refine o_len ?_ | refine o_loadsA ?_ | refine o_loadpA ?_ | refine o_alloc ?_ | refine o_bslice ?_ | refine o_store ?_ | refine o_pickt ?_ | refine o_pickf ?_ | refine o_build ?_ | refine skF ?_ | refine skU ?_
    exact ct_ret ⟨.inr rfl, oAny rfl⟩
  have g2 : decide (((w.map encI).length : Int) > 8) = false := by rw [hwl]; simp; omega
  have hbad : ∀ (i : Nat) (x : Int), w[i]? = some x → (x < 1 ∨ x > 100) → wrongL w = true := by
    intro i x hx h
    unfold wrongL
    rw [List.any_eq_true]
    exact ⟨x, List.mem_of_getElem? hx, by simpa using h⟩
  have hgood : ∀ i, (∀ x ∈ w.take i, 1 ≤ x ∧ x ≤ 100) → i = w.length → wrongL w = false := by
    intro i h he
    unfold wrongL
    rw [List.any_eq_false]
    intro x hx
    have := h x (by rw [he, List.take_length]; exact hx)
    simp
    omega
  by_cases h3 : wrongL w = true
  · have e : newR w = (emptyL, 1) := by unfold newR; rw [if_pos (.inr (.inr h3))]
    rw [e]
    refine weak_empty ?_ (fun _ _ => trivial)
    refine vc_of vf21 ?_ (Nat.le_of_ble_eq_true rfl) (by intro vs h; cases h; simp)
    repeat first | refine o_copy ?_ | refine nl ?_ | refine ct_seq ?_ | refine rg ?_ | refine ct_block ?_ | refine bq ?_ | refine o_loads ?_ | refine o_loadp ?_ | refine o_faddr ?_ | refine o_iaddr ?_ | refine o_iaddrO ?_ | refine o_iaddrR ?_ | refine o_add ?_ | refine o_cat ?_ | refine o_bin ?_ | refine o_lenq ?_ | refine o_len ?_ | refine o_loadsA ?_ | refine o_loadpA ?_ | refine o_alloc ?_ | refine o_bslice ?_ | refine o_store ?_ | refine o_pickt ?_ | refine o_pickf ?_ | refine o_build ?_ | refine skF ?_ | refine skU ?_
    refine cndf (ct_skip ?_)
    repeat first | refine o_copy ?_ | refine nl ?_ | refine ct_seq ?_ | refine rg ?_ | refine ct_block ?_ | refine bq ?_ | refine o_loads ?_ | refine o_loadp ?_ | refine o_faddr ?_ | refine o_iaddr ?_ | refine o_iaddrO ?_ | refine o_iaddrR ?_ | refine o_add ?_ | refine o_cat ?_ | refine o_bin ?_ | refine o_lenq ?_ | refine o_len ?_ | refine o_loadsA ?_ | refine o_loadpA ?_ | refine o_alloc ?_ | refine o_bslice ?_ | refine o_store ?_ | refine o_pickt ?_ | refine o_pickf ?_ | refine o_build ?_ | refine skF ?_ | refine skU ?_
    refine ct_loopG (fun (g : Nat) => [(0, .sh false (w.map encI)), (2, .ptr ⟨1, 0⟩ 1 0 0), (4, .ptr ⟨1, 24584⟩ 1 0 0), (5, .int .i64 g)]) (NH w) (fun g => w.length - g)
      (fun g => g ≤ w.length ∧ ∀ x ∈ w.take g, 1 ≤ x ∧ x ≤ 100) 0 goesD ⟨Nat.zero_le _, by simp⟩ ?_
    rintro i ⟨hi, he⟩
    by_cases hlt : i < w.length
    rotate_left
    · have := hgood i he (by omega)
      rw [h3] at this
      cases this
    obtain ⟨x, hx⟩ : ∃ x, w[i]? = some x := ⟨_, List.getElem?_eq_getElem hlt⟩
    have hxe := gm (enc := encI) (n := (i : Int)) hx (by omega)
    have g3 : decide ((i : Int) < ((w.map encI).length : Int)) = true := by rw [hwl]; simp; omega
    have ts : w.take (i + 1) = w.take i ++ [x] := by rw [List.take_add_one, hx]; rfl
    repeat first | refine o_copy ?_ | refine nl ?_ | refine ct_seq ?_ | refine rg ?_ | refine ct_block ?_ | refine bq ?_ | refine o_loads ?_ | refine o_loadp ?_ | refine o_faddr ?_ | refine o_iaddr ?_ | refine o_iaddrO ?_ | refine o_iaddrR ?_ | refine o_add ?_ | refine o_cat ?_ | refine o_bin ?_ | refine o_lenq ?_ | refine o_len ?_ | refine o_loadsA ?_ | refine o_loadpA ?_ | refine o_alloc ?_ | refine o_bslice ?_ | refine o_store ?_ | refine o_pickt ?_ | refine o_pickf ?_ | refine o_build ?_ | refine skF ?_ | refine skU ?_
    refine cndt (ct_skip ?_)
    by_cases k1 : x < 1
    · have j1 : decide (x < 1) = true := by simpa using k1
      cases i
      all_goals repeat first | refine o_copy ?_ | refine nl ?_ | refine ct_seq ?_ | refine rg ?_ | refine ct_block ?_ | refine bq ?_ | refine o_loads ?_ | refine o_loadp ?_ | refine o_faddr ?_ | refine o_iaddr ?_ | refine o_iaddrO ?_ | refine o_iaddrR ?_ | refine o_add ?_ | refine o_cat ?_ | refine o_bin ?_ | refine o_lenq ?_ | refine o_len ?_ | refine o_loadsA ?_ | refine o_loadpA ?_ | refine o_alloc ?_ | refine o_bslice ?_ | refine o_store ?_ | refine o_pickt ?_ | refine o_pickf ?_ | refine o_build ?_ | refine skF ?_ | refine skU ?_
      all_goals refine cndt ?_
      all_goals repeat first | refine o_copy ?_ | refine nl ?_ | refine ct_seq ?_ | refine rg ?_ | refine ct_block ?_ | refine bq ?_ | refine o_loads ?_ | refine o_loadp ?_ | refine o_faddr ?_ | refine o_iaddr ?_ | refine o_iaddrO ?_ | refine o_iaddrR ?_ | refine o_add ?_ | refine o_cat ?_ | refine o_bin ?_ | refine o_lenq ?_ | refine o_len ?_ | refine o_loadsA ?_ | refine o_loadpA ?_ | refine o_alloc ?_ | refine o_bslice ?_ | refine o_store ?_ | refine o_pickt ?_ | refine o_pickf ?_ | refine o_build ?_ | refine skF ?_ | refine skU ?_
      all_goals exact ct_ret ⟨.inr rfl, oAny rfl⟩
    have j1 : decide (x < 1) = false := by simpa using k1
    by_cases k2 : x > 100
    · have j2 : decide (x > 100) = true := by simpa using k2
      cases i
      all_goals repeat first | refine o_copy ?_ | refine nl ?_ | refine ct_seq ?_ | refine rg ?_ | refine ct_block ?_ | refine bq ?_ | refine o_loads ?_ | refine o_loadp ?_ | refine o_faddr ?_ | refine o_iaddr ?_ | refine o_iaddrO ?_ | refine o_iaddrR ?_ | refine o_add ?_ | refine o_cat ?_ | refine o_bin ?_ | refine o_lenq ?_ | refine o_len ?_ | refine o_loadsA ?_ | refine o_loadpA ?_ | refine o_alloc ?_ | refine o_bslice ?_ | refine o_store ?_ | refine o_pickt ?_ | refine o_pickf ?_ | refine o_build ?_ | refine skF ?_ | refine skU ?_
      all_goals refine cndt ?_
      all_goals repeat first | refine o_copy ?_ | refine nl ?_ | refine ct_seq ?_ | refine rg ?_ | refine ct_block ?_ | refine bq ?_ | refine o_loads ?_ | refine o_loadp ?_ | refine o_faddr ?_ | refine o_iaddr ?_ | refine o_iaddrO ?_ | refine o_iaddrR ?_ | refine o_add ?_ | refine o_cat ?_ | refine o_bin ?_ | refine o_lenq ?_ | refine o_len ?_ | refine o_loadsA ?_ | refine o_loadpA ?_ | refine o_alloc ?_ | refine o_bslice ?_ | refine o_store ?_ | refine o_pickt ?_ | refine o_pickf ?_ | refine o_build ?_ | refine skF ?_ | refine skU ?_
      all_goals exact ct_ret ⟨.inr rfl, oAny rfl⟩
    have j2 : decide (x > 100) = false := by simpa using k2
    have he' : ∀ y ∈ w.take (i + 1), 1 ≤ y ∧ y ≤ 100 := by
      intro y hy
      rw [ts] at hy
      rcases List.mem_append.1 hy with hy | hy
      · exact he y hy
      · simp at hy; subst hy; omega
    cases i with
    | zero =>
      repeat first | refine o_copy ?_ | refine nl ?_ | refine ct_seq ?_ | refine rg ?_ | refine ct_block ?_ | refine bq ?_ | refine o_loads ?_ | refine o_loadp ?_ | refine o_faddr ?_ | refine o_iaddr ?_ | refine o_iaddrO ?_ | refine o_iaddrR ?_ | refine o_add ?_ | refine o_cat ?_ | refine o_bin ?_ | refine o_lenq ?_ | refine o_len ?_ | refine o_loadsA ?_ | refine o_loadpA ?_ | refine o_alloc ?_ | refine o_bslice ?_ | refine o_store ?_ | refine o_pickt ?_ | refine o_pickf ?_ | refine o_build ?_ | refine skF ?_ | refine skU ?_
      refine cndf (ct_skip ?_)
      repeat first | refine o_copy ?_ | refine nl ?_ | refine ct_seq ?_ | refine rg ?_ | refine ct_block ?_ | refine bq ?_ | refine o_v (vapN encI x) ?_ | refine o_v (vapN encI (0 : Int)) ?_ | refine o_v (vapN encU ()) ?_ | refine o_loads ?_ | refine o_loadp ?_ | refine o_faddr ?_ | refine o_iaddr ?_ | refine o_iaddrO ?_ | refine o_iaddrR ?_ | refine o_add ?_ | refine o_cat ?_ | refine o_bin ?_ | refine o_lenq ?_ | refine o_len ?_ | refine o_loadsA ?_ | refine o_loadpA ?_ | refine o_alloc ?_ | refine o_bslice ?_ | refine o_store ?_ | refine o_pickt ?_ | refine o_pickf ?_ | refine o_build ?_ | refine skF ?_ | refine skU ?_
      refine agn 1 ⟨by omega, he'⟩ ?_
      show Imp _ ⟨_, _, NHl (w.take 1) (List.replicate 1 0) (List.replicate 1 ())⟩
      rw [show w.take 1 = [x] from ts]
      exact goesD
    | succ i =>
      have z1 : (w.take (i + 1)).length = i + 1 := by simp; omega
      have z2 : (List.replicate (i + 1) (0 : Int)).length = i + 1 := by simp
      have z3 : (List.replicate (i + 1) ()).length = i + 1 := by simp
      repeat first | refine o_copy ?_ | refine nl ?_ | refine ct_seq ?_ | refine rg ?_ | refine ct_block ?_ | refine bq ?_ | refine o_loads ?_ | refine o_loadp ?_ | refine o_faddr ?_ | refine o_iaddr ?_ | refine o_iaddrO ?_ | refine o_iaddrR ?_ | refine o_add ?_ | refine o_cat ?_ | refine o_bin ?_ | refine o_lenq ?_ | refine o_len ?_ | refine o_loadsA ?_ | refine o_loadpA ?_ | refine o_alloc ?_ | refine o_bslice ?_ | refine o_store ?_ | refine o_pickt ?_ | refine o_pickf ?_ | refine o_build ?_ | refine skF ?_ | refine skU ?_
      refine cndf (ct_skip ?_)
      repeat first | refine o_copy ?_ | refine nl ?_ | refine ct_seq ?_ | refine rg ?_ | refine ct_block ?_ | refine bq ?_ | refine o_v (vap encI x) ?_ | refine o_v (vap encI (0 : Int)) ?_ | refine o_v (vap encU ()) ?_ | refine o_loads ?_ | refine o_loadp ?_ | refine o_faddr ?_ | refine o_iaddr ?_ | refine o_iaddrO ?_ | refine o_iaddrR ?_ | refine o_add ?_ | refine o_cat ?_ | refine o_bin ?_ | refine o_lenq ?_ | refine o_len ?_ | refine o_loadsA ?_ | refine o_loadpA ?_ | refine o_alloc ?_ | refine o_bslice ?_ | refine o_store ?_ | refine o_pickt ?_ | refine o_pickf ?_ | refine o_build ?_ | refine skF ?_ | refine skU ?_
      refine agn (i + 2) ⟨by omega, he'⟩ ?_
      show Imp _ ⟨_, _, NHl (w.take (i + 2)) (List.replicate (i + 2) 0) (List.replicate (i + 2) ())⟩
      rw [ts, List.replicate_succ' (n := i + 1), List.replicate_succ' (n := i + 1)]
      exact goesD
  have h3 : wrongL w = false := by simpa using h3
  have e : newR w = (newL w, 0) := by
    unfold newR
    rw [if_neg]
    rintro (h | h | h)
    · exact h1 h
    · exact h2 h
    · rw [h3] at h; cases h
  rw [e]
  refine weak_new ?_
  obtain ⟨x0, hx0⟩ : ∃ x, w[0]? = some x := ⟨_, List.getElem?_eq_getElem (by omega)⟩
  have hx0e := gm (enc := encI) (n := 0) hx0 rfl
  have hc : (newL w).c = (List.replicate w.length 0).set 0 x0 := by simp [newL, hx0]
  rw [hc]
  refine vc_closeT (hout := [blkV 1 (w.map encI), blkV 1 (((List.replicate w.length 0).set 0 x0).map encI), blkV 1 (List.replicate w.length [.nils])]) (vs := [.agg [ownV ⟨0, 0⟩ (w.map encI), ownV ⟨0, 1⟩ (((List.replicate w.length 0).set 0 x0).map encI), .int .i64 0, ownV ⟨0, 2⟩ (List.replicate w.length [.nils])], .int .i64 0]) ?_ (l_new rfl rfl rfl) (by simp) (by simp)
  refine vc_of vf21 ?_ (Nat.le_of_ble_eq_true rfl) (by intro vs h; cases h; simp)
  repeat first | refine o_copy ?_ | refine nl ?_ | refine ct_seq ?_ | refine rg ?_ | refine ct_block ?_ | refine bq ?_ | refine o_loads ?_ | refine o_loadp ?_ | refine o_faddr ?_ | refine o_iaddr ?_ | refine o_iaddrO ?_ | refine o_iaddrR ?_ | refine o_add ?_ | refine o_cat ?_ | refine o_bin ?_ | refine o_lenq ?_ | refine o_len ?_ | refine o_loadsA ?_ | refine o_loadpA ?_ | refine o_alloc ?_ | refine o_bslice ?_ | refine o_store ?_ | refine o_pickt ?_ | refine o_pickf ?_ | refine o_build ?_ | refine skF ?_ | refine skU ?_
  refine cndf (ct_skip ?_)
  repeat first | refine o_copy ?_ | refine nl ?_ | refine ct_seq ?_ | refine rg ?_ | refine ct_block ?_ | refine bq ?_ | refine o_loads ?_ | refine o_loadp ?_ | refine o_faddr ?_ | refine o_iaddr ?_ | refine o_iaddrO ?_ | refine o_iaddrR ?_ | refine o_add ?_ | refine o_cat ?_ | refine o_bin ?_ | refine o_lenq ?_ | refine o_len ?_ | refine o_loadsA ?_ | refine o_loadpA ?_ | refine o_alloc ?_ | refine o_bslice ?_ | refine o_store ?_ | refine o_pickt ?_ | refine o_pickf ?_ | refine o_build ?_ | refine skF ?_ | refine skU ?_
  refine ct_loopG (fun (g : Nat) => [(0, .sh false (w.map encI)), (2, .ptr ⟨1, 0⟩ 1 0 0), (4, .ptr ⟨1, 24584⟩ 1 0 0), (5, .int .i64 g)]) (NH w) (fun g => w.length - g)
    (fun g => g ≤ w.length) 0 goesD (Nat.zero_le _) ?_
  intro i hi
  by_cases hlt : i < w.length
  rotate_left
  · have hiw : i = w.length := by omega
    have g3 : decide ((i : Int) < ((w.map encI).length : Int)) = false := by rw [hwl]; simp; omega
    cases i with
    | zero => omega
    | succ i =>
      repeat first | refine o_copy ?_ | refine nl ?_ | refine ct_seq ?_ | refine rg ?_ | refine ct_block ?_ | refine bq ?_ | refine o_loads ?_ | refine o_loadp ?_ | refine o_faddr ?_ | refine o_iaddr ?_ | refine o_iaddrO ?_ | refine o_iaddrR ?_ | refine o_add ?_ | refine o_cat ?_ | refine o_bin ?_ | refine o_lenq ?_ | refine o_len ?_ | refine o_loadsA ?_ | refine o_loadpA ?_ | refine o_alloc ?_ | refine o_bslice ?_ | refine o_store ?_ | refine o_pickt ?_ | refine o_pickf ?_ | refine o_build ?_ | refine skF ?_ | refine skU ?_
      refine cndf (ct_exit ?_)
      have hel : 0 < (List.replicate (i + 1) (0 : Int)).length := by simp
      have hzz : (0 : Int).toNat < (List.replicate (i + 1) (0 : Int)).length := hel
      repeat first | refine o_copy ?_ | refine nl ?_ | refine ct_seq ?_ | refine rg ?_ | refine ct_block ?_ | refine bq ?_ | refine o_iaddrG ?_ | refine o_v (vst encI x0) ?_ | refine o_loads ?_ | refine o_loadp ?_ | refine o_faddr ?_ | refine o_iaddr ?_ | refine o_iaddrO ?_ | refine o_iaddrR ?_ | refine o_add ?_ | refine o_cat ?_ | refine o_bin ?_ | refine o_lenq ?_ | refine o_len ?_ | refine o_loadsA ?_ | refine o_loadpA ?_ | refine o_alloc ?_ | refine o_bslice ?_ | refine o_store ?_ | refine o_pickt ?_ | refine o_pickf ?_ | refine o_build ?_ | refine skF ?_ | refine skU ?_
      refine ct_ret ⟨.inr rfl, ?_⟩
      exact oG [⟨1, 73784⟩, ⟨1, 73816⟩, ⟨1, 73848⟩] (v' := .tup [.agg [ownV ⟨0, 0⟩ ((w.take (i + 1)).map encI), ownV ⟨0, 1⟩ ((List.replicate (i + 1) (0 : Int)).map encI), .int .i64 0, ownV ⟨0, 2⟩ ((List.replicate (i + 1) ()).map encU)], .int .i64 0]) (hout' := [blkV 1 ((w.take (i + 1)).map encI), blkV 1 (((List.replicate (i + 1) (0 : Int)).set 0 x0).map encI), blkV 1 ((List.replicate (i + 1) ()).map encU)]) (hv := by simp [ownV, hiw]) (he := by simp [hiw])
  obtain ⟨x, hx⟩ : ∃ x, w[i]? = some x := ⟨_, List.getElem?_eq_getElem hlt⟩
  have hxe := gm (enc := encI) (n := (i : Int)) hx (by omega)
  have g3 : decide ((i : Int) < ((w.map encI).length : Int)) = true := by rw [hwl]; simp; omega
  have ts : w.take (i + 1) = w.take i ++ [x] := by rw [List.take_add_one, hx]; rfl
  have k1 : ¬ x < 1 := fun h => by rw [hbad i x hx (.inl h)] at h3; cases h3
  have k2 : ¬ x > 100 := fun h => by rw [hbad i x hx (.inr h)] at h3; cases h3
  have j1 : decide (x < 1) = false := by simpa using k1
  have j2 : decide (x > 100) = false := by simpa using k2
  repeat first | refine o_copy ?_ | refine nl ?_ | refine ct_seq ?_ | refine rg ?_ | refine ct_block ?_ | refine bq ?_ | refine o_loads ?_ | refine o_loadp ?_ | refine o_faddr ?_ | refine o_iaddr ?_ | refine o_iaddrO ?_ | refine o_iaddrR ?_ | refine o_add ?_ | refine o_cat ?_ | refine o_bin ?_ | refine o_lenq ?_ | refine o_len ?_ | refine o_loadsA ?_ | refine o_loadpA ?_ | refine o_alloc ?_ | refine o_bslice ?_ | refine o_store ?_ | refine o_pickt ?_ | refine o_pickf ?_ | refine o_build ?_ | refine skF ?_ | refine skU ?_
  refine cndt (ct_skip ?_)
  repeat first | refine o_copy ?_ | refine nl ?_ | refine ct_seq ?_ | refine rg ?_ | refine ct_block ?_ | refine bq ?_ | refine o_loads ?_ | refine o_loadp ?_ | refine o_faddr ?_ | refine o_iaddr ?_ | refine o_iaddrO ?_ | refine o_iaddrR ?_ | refine o_add ?_ | refine o_cat ?_ | refine o_bin ?_ | refine o_lenq ?_ | refine o_len ?_ | refine o_loadsA ?_ | refine o_loadpA ?_ | refine o_alloc ?_ | refine o_bslice ?_ | refine o_store ?_ | refine o_pickt ?_ | refine o_pickf ?_ | refine o_build ?_ | refine skF ?_ | refine skU ?_
  refine cndf (ct_skip ?_)
  cases i with
  | zero =>
    repeat first | refine o_copy ?_ | refine nl ?_ | refine ct_seq ?_ | refine rg ?_ | refine ct_block ?_ | refine bq ?_ | refine o_v (vapN encI x) ?_ | refine o_v (vapN encI (0 : Int)) ?_ | refine o_v (vapN encU ()) ?_ | refine o_loads ?_ | refine o_loadp ?_ | refine o_faddr ?_ | refine o_iaddr ?_ | refine o_iaddrO ?_ | refine o_iaddrR ?_ | refine o_add ?_ | refine o_cat ?_ | refine o_bin ?_ | refine o_lenq ?_ | refine o_len ?_ | refine o_loadsA ?_ | refine o_loadpA ?_ | refine o_alloc ?_ | refine o_bslice ?_ | refine o_store ?_ | refine o_pickt ?_ | refine o_pickf ?_ | refine o_build ?_ | refine skF ?_ | refine skU ?_
    refine agn 1 (by omega) ?_
    show Imp _ ⟨_, _, NHl (w.take 1) (List.replicate 1 0) (List.replicate 1 ())⟩
    rw [show w.take 1 = [x] from ts]
    exact goesD
  | succ i =>
    have z1 : (w.take (i + 1)).length = i + 1 := by simp; omega
    have z2 : (List.replicate (i + 1) (0 : Int)).length = i + 1 := by simp
    have z3 : (List.replicate (i + 1) ()).length = i + 1 := by simp
    repeat first | refine o_copy ?_ | refine nl ?_ | refine ct_seq ?_ | refine rg ?_ | refine ct_block ?_ | refine bq ?_ | refine o_v (vap encI x) ?_ | refine o_v (vap encI (0 : Int)) ?_ | refine o_v (vap encU ()) ?_ | refine o_loads ?_ | refine o_loadp ?_ | refine o_faddr ?_ | refine o_iaddr ?_ | refine o_iaddrO ?_ | refine o_iaddrR ?_ | refine o_add ?_ | refine o_cat ?_ | refine o_bin ?_ | refine o_lenq ?_ | refine o_len ?_ | refine o_loadsA ?_ | refine o_loadpA ?_ | refine o_alloc ?_ | refine o_bslice ?_ | refine o_store ?_ | refine o_pickt ?_ | refine o_pickf ?_ | refine o_build ?_ | refine skF ?_ | refine skU ?_
    refine agn (i + 2) (by omega) ?_
    show Imp _ ⟨_, _, NHl (w.take (i + 2)) (List.replicate (i + 2) 0) (List.replicate (i + 2) ())⟩
    rw [ts, List.replicate_succ' (n := i + 1), List.replicate_succ' (n := i + 1)]
    exact goesD
end Go.Proofs
open Go.V Go.Pu
set_option linter.unusedVariables false
set_option linter.unusedSimpArgs false
set_option maxRecDepth 20000
namespace Go.Proofs
/-- downspout/downspoutref31.Made -/
def vc11 : VCode :=
 (.seq
 (.region 0 false [
 ⟨(some 1), .box (.t 0), none, 0, []⟩,
 ⟨(some 2), .alloc [.nils, .nils, (.int .i64 0), .nils], none, 8, []⟩])
 (.seq
 (.region 1 false [
 ⟨(some 8), .faddr 1 (.t 1), none, 8192, []⟩,
 ⟨(some 9), .load false 1 (.t 8), none, 8200, [0]⟩,
 ⟨(some 10), .len (.t 9), none, 8208, [1, 0]⟩,
 ⟨(some 11), .bin .rem (.t 10) (.c (.int .i64 100)), none, 8216, [2, 1, 0]⟩,
 ⟨(some 12), .bin .add (.c (.int .i64 1)) (.t 11), none, 8224, [3, 2, 1, 0]⟩,
 ⟨(some 13), .bslice 1 [(.int .i64 0)] 1 [(0, (.t 12))], none, 8232, [4, 3, 2, 1, 0]⟩,
 ⟨(some 3), .copy (.t 13), none, 8240, [5, 4, 3, 2, 1, 0]⟩])
 (.seq
 (.seq
 (.region 2 false [
 ⟨(some 4), .copy (.c (.int .i64 0)), none, 16384, []⟩])
 (.block 0
 (.loop
 (.seq
 (.seq
 (.region 3 false [
 ⟨(some 14), .copy (.t 4), none, 24576, []⟩,
 ⟨(some 15), .faddr 0 (.t 1), none, 24584, []⟩,
 ⟨(some 16), .load false 1 (.t 15), none, 24592, [1]⟩,
 ⟨(some 17), .len (.t 16), none, 24600, [2, 1]⟩,
 ⟨(some 18), .bin .lss (.t 14) (.t 17), none, 24608, [0, 3, 2, 1]⟩,
 ⟨(some 19), .copy (.t 18), none, 24616, [4, 0, 3, 2, 1]⟩,
 ⟨(some 20), .copy (.t 4), (some (5, 19, true)), 24624, [5, 4, 0, 3, 2, 1]⟩,
 ⟨(some 21), .bin .lss (.t 20) (.c (.int .i64 7)), (some (5, 19, true)), 24632, [6, 5, 4, 0, 3, 2, 1]⟩,
 ⟨(some 22), .pick (.t 19) (.t 21) (.c (.bool false)), none, 24640, [5, 4, 0, 3, 2, 1, 7, 6]⟩])
 (.cond (.t 22)
 .skip
 (.exit 0)))
 (.seq
 (.block 1
 (.region 5 false [
 ⟨(some 25), .copy (.t 3), none, 40960, []⟩,
 ⟨(some 26), .faddr 0 (.t 1), none, 40968, []⟩,
 ⟨(some 27), .load false 1 (.t 26), none, 40976, [1]⟩,
 ⟨(some 28), .copy (.t 4), none, 40984, []⟩,
 ⟨(some 29), .iaddr 1 (.t 27) (.t 28), none, 40992, [2, 1, 3]⟩,
 ⟨(some 30), .load false 1 (.t 29), none, 41000, [4, 2, 1, 3]⟩,
 ⟨(some 31), .conv .i64 (.t 30), none, 41008, [5, 4, 2, 1, 3]⟩,
 ⟨(some 32), .bin .rem (.t 31) (.c (.int .i64 100)), none, 41016, [6, 5, 4, 2, 1, 3]⟩,
 ⟨(some 33), .bin .add (.c (.int .i64 1)) (.t 32), none, 41024, [7, 6, 5, 4, 2, 1, 3]⟩,
 ⟨(some 34), .bslice 1 [(.int .i64 0)] 1 [(0, (.t 33))], none, 41032, [8, 7, 6, 5, 4, 2, 1, 3]⟩,
 ⟨(some 35), .append 1 8 [(.int .i64 0)] (.t 25) (.t 34), none, 41040, [0, 9, 8, 7, 6, 5, 4, 2, 1, 3]⟩,
 ⟨(some 3), .copy (.t 35), none, 41048, [10, 0, 9, 8, 7, 6, 5, 4, 2, 1, 3]⟩]))
 (.region 4 false [
 ⟨(some 23), .copy (.t 4), none, 32768, []⟩,
 ⟨(some 24), .bin .add (.t 23) (.c (.int .i64 1)), none, 32776, [0]⟩,
 ⟨(some 4), .copy (.t 24), none, 32784, [1, 0]⟩]))))))
 (.seq
 (.region 6 false [
 ⟨(some 37), .copy (.t 3), none, 49152, []⟩,
 ⟨(some 38), .call (.c (.fn 21 [])) [(.t 37)], none, 49160, [0]⟩,
 ⟨(some 36), .copy (.t 38), none, 49168, [1, 0]⟩,
 ⟨(some 39), .extract (.t 36) 0, none, 49176, [2, 1, 0]⟩,
 ⟨(some 40), .extract (.t 36) 1, none, 49184, [2, 1, 0]⟩,
 ⟨(some 5), .alloc [.nils, .nils, (.int .i64 0), .nils], none, 49192, []⟩,
 ⟨none, .store 4 (.t 5) (.t 39), none, 49200, [5, 3, 2, 1, 0]⟩,
 ⟨(some 6), .copy (.t 40), none, 49208, [4, 2, 1, 0, 6, 5, 3]⟩])
 (.seq
 (.seq
 (.region 7 false [
 ⟨(some 7), .copy (.c (.int .i64 0)), none, 57344, []⟩])
 (.block 2
 (.loop
 (.seq
 (.seq
 (.region 8 false [
 ⟨(some 41), .copy (.t 7), none, 65536, []⟩,
 ⟨(some 42), .faddr 1 (.t 1), none, 65544, []⟩,
 ⟨(some 43), .load false 1 (.t 42), none, 65552, [1]⟩,
 ⟨(some 44), .len (.t 43), none, 65560, [2, 1]⟩,
 ⟨(some 45), .bin .lss (.t 41) (.t 44), none, 65568, [0, 3, 2, 1]⟩,
 ⟨(some 46), .copy (.t 45), none, 65576, [4, 0, 3, 2, 1]⟩,
 ⟨(some 47), .copy (.t 7), (some (5, 46, true)), 65584, [5, 4, 0, 3, 2, 1]⟩,
 ⟨(some 48), .bin .lss (.t 47) (.c (.int .i64 64)), (some (5, 46, true)), 65592, [6, 5, 4, 0, 3, 2, 1]⟩,
 ⟨(some 49), .pick (.t 46) (.t 48) (.c (.bool false)), none, 65600, [5, 4, 0, 3, 2, 1, 7, 6]⟩])
 (.cond (.t 49)
 .skip
 (.exit 2)))
 (.seq
 (.block 3
 (.region 10 true [
 ⟨(some 53), .load true 4 (.t 5), none, 81920, []⟩,
 ⟨(some 54), .faddr 1 (.t 1), none, 81928, []⟩,
 ⟨(some 55), .load false 1 (.t 54), none, 81936, [1]⟩,
 ⟨(some 56), .copy (.t 7), none, 81944, []⟩,
 ⟨(some 57), .iaddr 2 (.t 55) (.t 56), none, 81952, [2, 1, 3]⟩,
 ⟨(some 58), .iaddrA 2 1 (.t 57) (.c (.int .i64 0)), none, 81960, [4, 2, 1, 3]⟩,
 ⟨(some 59), .load false 1 (.t 58), none, 81968, [5, 4, 2, 1, 3]⟩,
 ⟨(some 60), .conv .i64 (.t 59), none, 81976, [6, 5, 4, 2, 1, 3]⟩,
 ⟨(some 61), .copy (.t 3), none, 81984, []⟩,
 ⟨(some 62), .len (.t 61), none, 81992, [8]⟩,
 ⟨(some 63), .bin .rem (.t 60) (.t 62), none, 82000, [7, 6, 5, 4, 2, 1, 3, 9, 8]⟩,
 ⟨(some 64), .copy (.t 7), none, 82008, []⟩,
 ⟨(some 65), .faddr 1 (.t 1), none, 82016, []⟩,
 ⟨(some 66), .load false 1 (.t 65), none, 82024, [12]⟩,
 ⟨(some 67), .copy (.t 7), none, 82032, []⟩,
 ⟨(some 68), .iaddr 2 (.t 66) (.t 67), none, 82040, [13, 12, 14]⟩,
 ⟨(some 69), .iaddrA 2 1 (.t 68) (.c (.int .i64 1)), none, 82048, [15, 13, 12, 14]⟩,
 ⟨(some 70), .load false 1 (.t 69), none, 82056, [16, 15, 13, 12, 14]⟩,
 ⟨(some 71), .conv .i64 (.t 70), none, 82064, [17, 16, 15, 13, 12, 14]⟩,
 ⟨(some 72), .bin .rem (.t 71) (.c (.int .i64 80)), none, 82072, [18, 17, 16, 15, 13, 12, 14]⟩,
 ⟨(some 73), .bin .add (.c (.int .i64 1)) (.t 72), none, 82080, [19, 18, 17, 16, 15, 13, 12, 14]⟩,
 ⟨(some 74), .build [(.int .i64 0), (.int .i64 0), (.int .i64 0)] [(0, 1, (.t 63)), (1, 1, (.t 64)), (2, 1, (.t 73))], none, 82088, [10, 7, 6, 5, 4, 2, 1, 3, 9, 8, 11, 20, 19, 18, 17, 16, 15, 13, 12, 14]⟩,
 ⟨(some 75), .call (.c (.fn 15 [])) [(.t 53), (.t 74)], none, 82096, [0, 21, 10, 7, 6, 5, 4, 2, 1, 3, 9, 8, 11, 20, 19, 18, 17, 16, 15, 13, 12, 14]⟩,
 ⟨(some 52), .copy (.t 75), none, 82104, [22, 0, 21, 10, 7, 6, 5, 4, 2, 1, 3, 9, 8, 11, 20, 19, 18, 17, 16, 15, 13, 12, 14]⟩,
 ⟨(some 76), .extract (.t 52) 0, none, 82112, [23, 22, 0, 21, 10, 7, 6, 5, 4, 2, 1, 3, 9, 8, 11, 20, 19, 18, 17, 16, 15, 13, 12, 14]⟩,
 ⟨(some 77), .extract (.t 52) 1, none, 82120, [23, 22, 0, 21, 10, 7, 6, 5, 4, 2, 1, 3, 9, 8, 11, 20, 19, 18, 17, 16, 15, 13, 12, 14]⟩,
 ⟨none, .store 4 (.t 5) (.t 76), none, 82128, [24, 23, 22, 0, 21, 10, 7, 6, 5, 4, 2, 1, 3, 9, 8, 11, 20, 19, 18, 17, 16, 15, 13, 12, 14]⟩]))
 (.region 9 false [
 ⟨(some 50), .copy (.t 7), none, 73728, []⟩,
 ⟨(some 51), .bin .add (.t 50) (.c (.int .i64 1)), none, 73736, [0]⟩,
 ⟨(some 7), .copy (.t 51), none, 73744, [1, 0]⟩]))))))
 (.seq
 (.region 11 false [
 ⟨(some 78), .load true 4 (.t 5), none, 90112, []⟩,
 ⟨none, .store 4 (.t 2) (.t 78), none, 90120, [0]⟩])
 .ret))))))
theorem vf11 : VF Try.prog 11 = some (79, vc11, [.cell true 4 2]) := by kernel_rfl
structure RawL where
  w : List Nat
  l : List (Nat × Nat)
abbrev encU8 (n : Nat) : List PV := [.int .u8 n]
abbrev encLP (p : Nat × Nat) : List PV := [.int .u8 p.1, .int .u8 p.2]
abbrev encRaw (x : RawL) : List PV := [.sh false (x.w.map encU8), .sh false (x.l.map encLP)]
/-- What can be handed in: bytes. -/
def RawOk (x : RawL) : Prop := (∀ n ∈ x.w, n < 256) ∧ (∀ p ∈ x.l, p.1 < 256 ∧ p.2 < 256) ∧ x.w.length ≤ 9223372036854775807 ∧ x.l.length ≤ 9223372036854775807
def wtL (n : Nat) : Int := 1 + ((n % 100 : Nat) : Int)
def weightsL (x : RawL) : List Int := wtL x.l.length :: (x.w.take 7).map wtL
def jobAt (n i : Nat) (p : Nat × Nat) : JobL := ⟨((p.1 % n : Nat) : Int), i, 1 + ((p.2 % 80 : Nat) : Int)⟩
def madeF (n : Nat) : Nat → List (Nat × Nat) → SchL → SchL
  | _, [], s => s
  | i, p :: l, s => madeF n (i + 1) l (addR s (jobAt n i p)).1
def madeL (x : RawL) : SchL := madeF (weightsL x).length 0 (x.l.take 64) (newL (weightsL x))

theorem weights_len (x : RawL) : 1 ≤ (weightsL x).length ∧ (weightsL x).length ≤ 8 := by
  simp only [weightsL, List.length_cons, List.length_map, List.length_take]
  omega
theorem wtL_b (n : Nat) : 1 ≤ wtL n ∧ wtL n ≤ 100 := by unfold wtL; omega
theorem weights_b (x : RawL) : ∀ w ∈ weightsL x, 1 ≤ w ∧ w ≤ 100 := by
  intro w hw
  rcases List.mem_cons.1 hw with rfl | hw
  · exact wtL_b _
  · obtain ⟨n, _, rfl⟩ := List.mem_map.1 hw
    exact wtL_b n
theorem newR_ok {w : List Int} (h1 : 1 ≤ w.length) (h8 : w.length ≤ 8) (hb : ∀ x ∈ w, 1 ≤ x ∧ x ≤ 100) : newR w = (newL w, 0) := by
  unfold newR
  rw [if_neg]
  rintro (h | h | h)
  · omega
  · omega
  · unfold wrongL at h
    rw [List.any_eq_true] at h
    obtain ⟨x, hx, h⟩ := h
    have := hb x hx
    simp at h
    omega
theorem wait_rep (n : Nat) : waitL (List.replicate n []) = 0 := by
  unfold waitL
  simp
theorem newL_wf {w : List Int} (h1 : 1 ≤ w.length) (h8 : w.length ≤ 8) (hb : ∀ x ∈ w, 1 ≤ x ∧ x ≤ 100) : WF (newL w) := by
  refine ⟨h1, h8, by simp [newL], by simp [newL], by simp only [newL]; omega, fun i x hx => hb x (List.mem_of_getElem? hx), fun i x hx => ?_, fun i l hl j hj => ?_, ?_⟩
  · simp only [newL] at hx ⊢
    obtain ⟨w0, hw0⟩ : ∃ x, w[0]? = some x := ⟨_, List.getElem?_eq_getElem (by omega)⟩
    have := hb w0 (List.mem_of_getElem? hw0)
    rw [hw0, Option.getD_some, List.getElem?_set] at hx
    split at hx
    · rename_i he
      subst he
      split at hx
      · cases hx; omega
      · cases hx
    · rw [List.getElem?_replicate] at hx
      split at hx
      · cases hx; omega
      · cases hx
  · simp only [newL, List.getElem?_replicate] at hl
    split at hl
    · cases hl; cases hj
    · cases hl
  · simp only [newL, wait_rep]; omega
theorem addR_wf {s : SchL} (h : WF s) (j : JobL) : WF (addR s j).1 := by
  unfold addR
  split
  · exact h
  · split
    · exact h
    · split
      · exact h
      · rename_i h1 h2 h3
        have hl := h.lq
        have htl : j.t.toNat < s.q.length := by omega
        obtain ⟨x, hx⟩ : ∃ x, s.q[j.t.toNat]? = some x := ⟨_, List.getElem?_eq_getElem htl⟩
        have hq : (addL s j).q = s.q.set j.t.toNat (x ++ [j]) := by simp [addL, hx]
        refine ⟨h.n1, h.n8, h.lc, by rw [hq, List.length_set]; exact hl, h.tn, h.ws, h.cs, fun i l hl2 j' hj' => ?_, ?_⟩
        · rw [hq] at hl2
          by_cases he : j.t.toNat = i
          · subst he
            rw [List.getElem?_set_self htl] at hl2
            cases hl2
            rcases List.mem_append.1 hj' with hj' | hj'
            · exact h.jb _ _ hx j' hj'
            · simp at hj'
              subst hj'
              exact ⟨by omega, by omega, by omega⟩
          · rw [List.getElem?_set_ne he] at hl2
            exact h.jb _ _ hl2 j' hj'
        · rw [hq]
          have := waitL_set (y := x ++ [j]) hx
          simp only [List.length_append, List.length_cons, List.length_nil] at this
          omega
theorem madeF_wf (n : Nat) : ∀ (l : List (Nat × Nat)) (i : Nat) (s : SchL), WF s → WF (madeF n i l s)
  | [], i, s, h => h
  | p :: l, i, s, h => madeF_wf n l (i + 1) _ (addR_wf h _)
theorem madeL_wf (x : RawL) : WF (madeL x) := madeF_wf _ _ _ _ (newL_wf (weights_len x).1 (weights_len x).2 (weights_b x))

set_option maxHeartbeats 2000000 in
theorem made_vc {x : RawL} (hx : RawOk x) : VC Try.prog 11 [.agg (encRaw x)] [] (.agg (encSc (madeL x))) [] := by
  obtain ⟨hxw, hxl, hlw, hll⟩ := hx
  have hwb := weights_b x
  have hwn := weights_len x
  have hnew := rnew_vc (w := weightsL x) (by omega)
  rw [newR_ok hwn.1 hwn.2 hwb] at hnew
  have hwl : (x.w.map encU8).length = x.w.length := by simp
  have hlml : (x.l.map encLP).length = x.l.length := by simp
  have r1 : Int.tmod ((x.l.map encLP).length : Int) 100 = ((x.l.length % 100 : Nat) : Int) := by
    rw [hlml, Int.tmod_eq_emod_of_nonneg (by omega)]; push_cast; rfl
  refine vc_of vf11 ?_ (Nat.le_of_ble_eq_true rfl) (by intro vs h; cases h)
  repeat first | refine o_copy ?_ | refine nl ?_ | refine ct_seq ?_ | refine rg ?_ | refine ct_block ?_ | refine bq ?_ | refine o_rem ?_ | refine o_loads ?_ | refine o_loadp ?_ | refine o_faddr ?_ | refine o_iaddr ?_ | refine o_iaddrO ?_ | refine o_iaddrR ?_ | refine o_add ?_ | refine o_cat ?_ | refine o_bin ?_ | refine o_lenq ?_ | refine o_len ?_ | refine o_loadsA ?_ | refine o_loadpA ?_ | refine o_box ?_ | refine o_alloc ?_ | refine o_bslice ?_ | refine o_store ?_ | refine o_pickt ?_ | refine o_pickf ?_ | refine o_build ?_ | refine o_extract ?_ | refine o_iaddrA ?_ | refine skF ?_ | refine skU ?_
  refine ct_loopG (fun (g : Nat) => [(1, .ptr ⟨1, 0⟩ 1 0 0), (2, .ptr ⟨1, 8⟩ 1 0 0), (3, ownV ⟨1, 8232⟩ ((wtL x.l.length :: (x.w.take g).map wtL).map encI)), (4, .int .i64 g)]) (fun g => [(⟨1, 0⟩, ⟨true, false, 2, [encRaw x]⟩), (⟨1, 8⟩, ⟨true, false, 4, [[.nils, .nils, .int .i64 0, .nils]]⟩), (⟨1, 8232⟩, blkV 1 ((wtL x.l.length :: (x.w.take g).map wtL).map encI))])
    (fun g => 7 - g) (fun g => g ≤ 7 ∧ g ≤ x.w.length) 0 goesD ⟨by omega, Nat.zero_le _⟩ ?_
  rintro i ⟨hi, hiw⟩
  by_cases hend : i < x.w.length ∧ i < 7
  · obtain ⟨h1, h2⟩ := hend
    have g1 : decide ((i : Int) < ((x.w.map encU8).length : Int)) = true := by rw [hwl]; simp; omega
    have g2 : decide ((i : Int) < 7) = true := by simp; omega
    obtain ⟨n, hn⟩ : ∃ n, x.w[i]? = some n := ⟨_, List.getElem?_eq_getElem h1⟩
    have hne := gm (enc := encU8) (n := (i : Int)) hn (by omega)
    have hn256 := hxw n (List.mem_of_getElem? hn)
    have c1 : IntKind.i64.wrap (n : Int) = n := wrap64 (by omega) (by omega)
    have c2 : Int.tmod (n : Int) 100 = ((n % 100 : Nat) : Int) := by rw [Int.tmod_eq_emod_of_nonneg (by omega)]; push_cast; rfl
    have tl : ((x.w.take i).map wtL).length = i := by simp; omega
    repeat first | refine o_copy ?_ | refine nl ?_ | refine ct_seq ?_ | refine rg ?_ | refine ct_block ?_ | refine bq ?_ | refine o_loads ?_ | refine o_loadp ?_ | refine o_faddr ?_ | refine o_iaddr ?_ | refine o_iaddrO ?_ | refine o_iaddrR ?_ | refine o_add ?_ | refine o_cat ?_ | refine o_bin ?_ | refine o_lenq ?_ | refine o_len ?_ | refine o_loadsA ?_ | refine o_loadpA ?_ | refine o_box ?_ | refine o_alloc ?_ | refine o_bslice ?_ | refine o_store ?_ | refine o_pickt ?_ | refine o_pickf ?_ | refine o_build ?_ | refine o_extract ?_ | refine o_iaddrA ?_ | refine skF ?_ | refine skU ?_
    refine cndt (ct_skip ?_)
    repeat first | refine o_copy ?_ | refine nl ?_ | refine ct_seq ?_ | refine rg ?_ | refine ct_block ?_ | refine bq ?_ | refine o_convE ?_ | refine o_rem ?_ | refine o_v (vap encI (wtL n)) ?_ | refine o_loads ?_ | refine o_loadp ?_ | refine o_faddr ?_ | refine o_iaddr ?_ | refine o_iaddrO ?_ | refine o_iaddrR ?_ | refine o_add ?_ | refine o_cat ?_ | refine o_bin ?_ | refine o_lenq ?_ | refine o_len ?_ | refine o_loadsA ?_ | refine o_loadpA ?_ | refine o_box ?_ | refine o_alloc ?_ | refine o_bslice ?_ | refine o_store ?_ | refine o_pickt ?_ | refine o_pickf ?_ | refine o_build ?_ | refine o_extract ?_ | refine o_iaddrA ?_ | refine skF ?_ | refine skU ?_
    refine agn (i + 1) ⟨by omega, by omega⟩ ?_
    have e : wtL x.l.length :: (x.w.take (i + 1)).map wtL = (wtL x.l.length :: (x.w.take i).map wtL) ++ [wtL n] := by
      rw [List.take_add_one, hn]; simp
    show Imp _ ⟨_, [(1, _), (2, _), (3, ownV ⟨1, 8232⟩ ((wtL x.l.length :: (x.w.take (i + 1)).map wtL).map encI)), (4, _)], [(_, _), (_, _), (⟨1, 8232⟩, blkV 1 ((wtL x.l.length :: (x.w.take (i + 1)).map wtL).map encI))]⟩
    rw [e]
    exact goesD
  have hw7 : weightsL x = wtL x.l.length :: (x.w.take i).map wtL := by
    unfold weightsL
    congr 1
    congr 1
    by_cases h7 : i = 7
    · rw [h7]
    · have : i = x.w.length := by omega
      rw [this, List.take_length, List.take_of_length_le (by omega)]
  rw [← hw7]
  have mod2 : ∀ (a b : Nat), 0 < b → Int.tmod (a : Int) (b : Int) = ((a % b : Nat) : Int) := fun a b hb => by rw [Int.tmod_eq_emod_of_nonneg (by omega)]; push_cast; rfl
  have hml : ((weightsL x).map encI).length = (weightsL x).length := by simp
  have hT : ∀ (e : Bool), e = e := fun _ => rfl
  have step1 : (decide ((i : Int) < ((x.w.map encU8).length : Int)) = false) ∨ (decide ((i : Int) < ((x.w.map encU8).length : Int)) = true ∧ decide ((i : Int) < 7) = false) := by
    rw [hwl]
    by_cases h : i < x.w.length
    · exact .inr ⟨by simpa using h, by simp; omega⟩
    · exact .inl (by simp; omega)
  rcases step1 with g1 | ⟨g1, g2⟩
  · repeat first | refine o_copy ?_ | refine nl ?_ | refine ct_seq ?_ | refine rg ?_ | refine ct_block ?_ | refine bq ?_ | refine o_loads ?_ | refine o_loadp ?_ | refine o_faddr ?_ | refine o_iaddr ?_ | refine o_iaddrO ?_ | refine o_iaddrR ?_ | refine o_add ?_ | refine o_cat ?_ | refine o_bin ?_ | refine o_lenq ?_ | refine o_len ?_ | refine o_loadsA ?_ | refine o_loadpA ?_ | refine o_box ?_ | refine o_alloc ?_ | refine o_bslice ?_ | refine o_store ?_ | refine o_pickt ?_ | refine o_pickf ?_ | refine o_build ?_ | refine o_extract ?_ | refine o_iaddrA ?_ | refine skF ?_ | refine skU ?_
    refine cndf (ct_exit ?_)
    repeat first | refine o_copy ?_ | refine nl ?_ | refine ct_seq ?_ | refine rg ?_ | refine ct_block ?_ | refine bq ?_ | refine cf hnew ?_ | refine o_loads ?_ | refine o_loadp ?_ | refine o_faddr ?_ | refine o_iaddr ?_ | refine o_iaddrO ?_ | refine o_iaddrR ?_ | refine o_add ?_ | refine o_cat ?_ | refine o_bin ?_ | refine o_lenq ?_ | refine o_len ?_ | refine o_loadsA ?_ | refine o_loadpA ?_ | refine o_box ?_ | refine o_alloc ?_ | refine o_bslice ?_ | refine o_store ?_ | refine o_pickt ?_ | refine o_pickf ?_ | refine o_build ?_ | refine o_extract ?_ | refine o_iaddrA ?_ | refine skF ?_ | refine skU ?_
    refine ct_loopG (fun (g : Nat × SchL) => [(1, .ptr ⟨1, 0⟩ 1 0 0), (2, .ptr ⟨1, 8⟩ 1 0 0), (3, ownV ⟨1, 8232⟩ ((weightsL x).map encI)), (5, .ptr ⟨1, 49192⟩ 1 0 0), (7, .int .i64 g.1)]) (fun g => [(⟨1, 0⟩, ⟨true, false, 2, [encRaw x]⟩), (⟨1, 8⟩, ⟨true, false, 4, [[.nils, .nils, .int .i64 0, .nils]]⟩), (⟨1, 8232⟩, ⟨false, true, 1, (weightsL x).map encI⟩), (⟨1, 49192⟩, ⟨true, false, 4, [encSc g.2]⟩)])
      (fun g => 64 - g.1) (fun g => g.1 ≤ 64 ∧ g.1 ≤ x.l.length ∧ WF g.2 ∧ madeF (weightsL x).length g.1 ((x.l.take 64).drop g.1) g.2 = madeL x) (0, newL (weightsL x)) goesD ⟨by omega, Nat.zero_le _, newL_wf hwn.1 hwn.2 hwb, rfl⟩ ?_
    rintro ⟨k, s⟩ ⟨hk, hkl, hws, hmd⟩
    dsimp only at hk hkl hws hmd ⊢
    by_cases h1 : k < x.l.length
    · have g3 : decide ((k : Int) < ((x.l.map encLP).length : Int)) = true := by rw [hlml]; simpa using h1
      by_cases h2 : k < 64
      · have g4 : decide ((k : Int) < 64) = true := by simp; omega
        obtain ⟨⟨pa, pb⟩, hp⟩ : ∃ n, x.l[k]? = some n := ⟨_, List.getElem?_eq_getElem h1⟩
        have hpe := gm (enc := encLP) (n := (k : Int)) hp (by omega)
        have hp256 := hxl _ (List.mem_of_getElem? hp)
        have hp2 : (x.l.take 64)[k]? = some (pa, pb) := by rw [List.getElem?_take, if_pos h2]; exact hp
        rw [drop_get hp2, madeF] at hmd
        have hadd := radd_vc hws (jobAt (weightsL x).length k (pa, pb))
        have c1 : IntKind.i64.wrap (pa : Int) = pa := wrap64 (by omega) (by omega)
        have c2 : IntKind.i64.wrap (pb : Int) = pb := wrap64 (by omega) (by omega)
        have c3 : Int.tmod (pa : Int) (((weightsL x).map encI).length : Int) = ((pa % (weightsL x).length : Nat) : Int) := by rw [hml]; exact mod2 _ _ (by omega)
        have c4 : Int.tmod (pb : Int) 80 = ((pb % 80 : Nat) : Int) := mod2 pb 80 (by omega)
        repeat first | refine o_copy ?_ | refine nl ?_ | refine ct_seq ?_ | refine rg ?_ | refine ct_block ?_ | refine bq ?_ | refine o_loads ?_ | refine o_loadp ?_ | refine o_faddr ?_ | refine o_iaddr ?_ | refine o_iaddrO ?_ | refine o_iaddrR ?_ | refine o_add ?_ | refine o_cat ?_ | refine o_bin ?_ | refine o_lenq ?_ | refine o_len ?_ | refine o_loadsA ?_ | refine o_loadpA ?_ | refine o_box ?_ | refine o_alloc ?_ | refine o_bslice ?_ | refine o_store ?_ | refine o_pickt ?_ | refine o_pickf ?_ | refine o_build ?_ | refine o_extract ?_ | refine o_iaddrA ?_ | refine skF ?_ | refine skU ?_
        refine cndt (ct_skip ?_)
        repeat first | refine o_copy ?_ | refine nl ?_ | refine ct_seq ?_ | refine rg ?_ | refine ct_block ?_ | refine bq ?_ | refine o_convE ?_ | refine o_rem ?_ | refine cf hadd ?_ | refine o_loads ?_ | refine o_loadp ?_ | refine o_faddr ?_ | refine o_iaddr ?_ | refine o_iaddrO ?_ | refine o_iaddrR ?_ | refine o_add ?_ | refine o_cat ?_ | refine o_bin ?_ | refine o_lenq ?_ | refine o_len ?_ | refine o_loadsA ?_ | refine o_loadpA ?_ | refine o_box ?_ | refine o_alloc ?_ | refine o_bslice ?_ | refine o_store ?_ | refine o_pickt ?_ | refine o_pickf ?_ | refine o_build ?_ | refine o_extract ?_ | refine o_iaddrA ?_ | refine skF ?_ | refine skU ?_
        refine agn (k + 1, _) ⟨(by simp only; omega), (by simp only; omega), addR_wf hws _, hmd⟩ goesD
      · have g4 : decide ((k : Int) < 64) = false := by simp; omega
        have hk64 : k = 64 := by omega
        subst hk64
        rw [List.drop_of_length_le (by simp; omega), madeF] at hmd
        repeat first | refine o_copy ?_ | refine nl ?_ | refine ct_seq ?_ | refine rg ?_ | refine ct_block ?_ | refine bq ?_ | refine o_loads ?_ | refine o_loadp ?_ | refine o_faddr ?_ | refine o_iaddr ?_ | refine o_iaddrO ?_ | refine o_iaddrR ?_ | refine o_add ?_ | refine o_cat ?_ | refine o_bin ?_ | refine o_lenq ?_ | refine o_len ?_ | refine o_loadsA ?_ | refine o_loadpA ?_ | refine o_box ?_ | refine o_alloc ?_ | refine o_bslice ?_ | refine o_store ?_ | refine o_pickt ?_ | refine o_pickf ?_ | refine o_build ?_ | refine o_extract ?_ | refine o_iaddrA ?_ | refine skF ?_ | refine skU ?_
        refine cndf (ct_exit ?_)
        repeat first | refine o_copy ?_ | refine nl ?_ | refine ct_seq ?_ | refine rg ?_ | refine ct_block ?_ | refine bq ?_ | refine o_loads ?_ | refine o_loadp ?_ | refine o_faddr ?_ | refine o_iaddr ?_ | refine o_iaddrO ?_ | refine o_iaddrR ?_ | refine o_add ?_ | refine o_cat ?_ | refine o_bin ?_ | refine o_lenq ?_ | refine o_len ?_ | refine o_loadsA ?_ | refine o_loadpA ?_ | refine o_box ?_ | refine o_alloc ?_ | refine o_bslice ?_ | refine o_store ?_ | refine o_pickt ?_ | refine o_pickf ?_ | refine o_build ?_ | refine o_extract ?_ | refine o_iaddrA ?_ | refine skF ?_ | refine skU ?_
        rw [hmd]
        exact ct_ret ⟨.inr rfl, oAny rfl⟩
    · have g3 : decide ((k : Int) < ((x.l.map encLP).length : Int)) = false := by rw [hlml]; simp; omega
      rw [List.drop_of_length_le (by simp; omega), madeF] at hmd
      repeat first | refine o_copy ?_ | refine nl ?_ | refine ct_seq ?_ | refine rg ?_ | refine ct_block ?_ | refine bq ?_ | refine o_loads ?_ | refine o_loadp ?_ | refine o_faddr ?_ | refine o_iaddr ?_ | refine o_iaddrO ?_ | refine o_iaddrR ?_ | refine o_add ?_ | refine o_cat ?_ | refine o_bin ?_ | refine o_lenq ?_ | refine o_len ?_ | refine o_loadsA ?_ | refine o_loadpA ?_ | refine o_box ?_ | refine o_alloc ?_ | refine o_bslice ?_ | refine o_store ?_ | refine o_pickt ?_ | refine o_pickf ?_ | refine o_build ?_ | refine o_extract ?_ | refine o_iaddrA ?_ | refine skF ?_ | refine skU ?_
      refine cndf (ct_exit ?_)
      repeat first | refine o_copy ?_ | refine nl ?_ | refine ct_seq ?_ | refine rg ?_ | refine ct_block ?_ | refine bq ?_ | refine o_loads ?_ | refine o_loadp ?_ | refine o_faddr ?_ | refine o_iaddr ?_ | refine o_iaddrO ?_ | refine o_iaddrR ?_ | refine o_add ?_ | refine o_cat ?_ | refine o_bin ?_ | refine o_lenq ?_ | refine o_len ?_ | refine o_loadsA ?_ | refine o_loadpA ?_ | refine o_box ?_ | refine o_alloc ?_ | refine o_bslice ?_ | refine o_store ?_ | refine o_pickt ?_ | refine o_pickf ?_ | refine o_build ?_ | refine o_extract ?_ | refine o_iaddrA ?_ | refine skF ?_ | refine skU ?_
      rw [hmd]
      exact ct_ret ⟨.inr rfl, oAny rfl⟩
  · repeat first | refine o_copy ?_ | refine nl ?_ | refine ct_seq ?_ | refine rg ?_ | refine ct_block ?_ | refine bq ?_ | refine o_loads ?_ | refine o_loadp ?_ | refine o_faddr ?_ | refine o_iaddr ?_ | refine o_iaddrO ?_ | refine o_iaddrR ?_ | refine o_add ?_ | refine o_cat ?_ | refine o_bin ?_ | refine o_lenq ?_ | refine o_len ?_ | refine o_loadsA ?_ | refine o_loadpA ?_ | refine o_box ?_ | refine o_alloc ?_ | refine o_bslice ?_ | refine o_store ?_ | refine o_pickt ?_ | refine o_pickf ?_ | refine o_build ?_ | refine o_extract ?_ | refine o_iaddrA ?_ | refine skF ?_ | refine skU ?_
    refine cndf (ct_exit ?_)
    repeat first | refine o_copy ?_ | refine nl ?_ | refine ct_seq ?_ | refine rg ?_ | refine ct_block ?_ | refine bq ?_ | refine cf hnew ?_ | refine o_loads ?_ | refine o_loadp ?_ | refine o_faddr ?_ | refine o_iaddr ?_ | refine o_iaddrO ?_ | refine o_iaddrR ?_ | refine o_add ?_ | refine o_cat ?_ | refine o_bin ?_ | refine o_lenq ?_ | refine o_len ?_ | refine o_loadsA ?_ | refine o_loadpA ?_ | refine o_box ?_ | refine o_alloc ?_ | refine o_bslice ?_ | refine o_store ?_ | refine o_pickt ?_ | refine o_pickf ?_ | refine o_build ?_ | refine o_extract ?_ | refine o_iaddrA ?_ | refine skF ?_ | refine skU ?_
    refine ct_loopG (fun (g : Nat × SchL) => [(1, .ptr ⟨1, 0⟩ 1 0 0), (2, .ptr ⟨1, 8⟩ 1 0 0), (3, ownV ⟨1, 8232⟩ ((weightsL x).map encI)), (5, .ptr ⟨1, 49192⟩ 1 0 0), (7, .int .i64 g.1)]) (fun g => [(⟨1, 0⟩, ⟨true, false, 2, [encRaw x]⟩), (⟨1, 8⟩, ⟨true, false, 4, [[.nils, .nils, .int .i64 0, .nils]]⟩), (⟨1, 8232⟩, ⟨false, true, 1, (weightsL x).map encI⟩), (⟨1, 49192⟩, ⟨true, false, 4, [encSc g.2]⟩)])
      (fun g => 64 - g.1) (fun g => g.1 ≤ 64 ∧ g.1 ≤ x.l.length ∧ WF g.2 ∧ madeF (weightsL x).length g.1 ((x.l.take 64).drop g.1) g.2 = madeL x) (0, newL (weightsL x)) goesD ⟨by omega, Nat.zero_le _, newL_wf hwn.1 hwn.2 hwb, rfl⟩ ?_
    rintro ⟨k, s⟩ ⟨hk, hkl, hws, hmd⟩
    dsimp only at hk hkl hws hmd ⊢
    by_cases h1 : k < x.l.length
    · have g3 : decide ((k : Int) < ((x.l.map encLP).length : Int)) = true := by rw [hlml]; simpa using h1
      by_cases h2 : k < 64
      · have g4 : decide ((k : Int) < 64) = true := by simp; omega
        obtain ⟨⟨pa, pb⟩, hp⟩ : ∃ n, x.l[k]? = some n := ⟨_, List.getElem?_eq_getElem h1⟩
        have hpe := gm (enc := encLP) (n := (k : Int)) hp (by omega)
        have hp256 := hxl _ (List.mem_of_getElem? hp)
        have hp2 : (x.l.take 64)[k]? = some (pa, pb) := by rw [List.getElem?_take, if_pos h2]; exact hp
        rw [drop_get hp2, madeF] at hmd
        have hadd := radd_vc hws (jobAt (weightsL x).length k (pa, pb))
        have c1 : IntKind.i64.wrap (pa : Int) = pa := wrap64 (by omega) (by omega)
        have c2 : IntKind.i64.wrap (pb : Int) = pb := wrap64 (by omega) (by omega)
        have c3 : Int.tmod (pa : Int) (((weightsL x).map encI).length : Int) = ((pa % (weightsL x).length : Nat) : Int) := by rw [hml]; exact mod2 _ _ (by omega)
        have c4 : Int.tmod (pb : Int) 80 = ((pb % 80 : Nat) : Int) := mod2 pb 80 (by omega)
        repeat first | refine o_copy ?_ | refine nl ?_ | refine ct_seq ?_ | refine rg ?_ | refine ct_block ?_ | refine bq ?_ | refine o_loads ?_ | refine o_loadp ?_ | refine o_faddr ?_ | refine o_iaddr ?_ | refine o_iaddrO ?_ | refine o_iaddrR ?_ | refine o_add ?_ | refine o_cat ?_ | refine o_bin ?_ | refine o_lenq ?_ | refine o_len ?_ | refine o_loadsA ?_ | refine o_loadpA ?_ | refine o_box ?_ | refine o_alloc ?_ | refine o_bslice ?_ | refine o_store ?_ | refine o_pickt ?_ | refine o_pickf ?_ | refine o_build ?_ | refine o_extract ?_ | refine o_iaddrA ?_ | refine skF ?_ | refine skU ?_
        refine cndt (ct_skip ?_)
        repeat first | refine o_copy ?_ | refine nl ?_ | refine ct_seq ?_ | refine rg ?_ | refine ct_block ?_ | refine bq ?_ | refine o_convE ?_ | refine o_rem ?_ | refine cf hadd ?_ | refine o_loads ?_ | refine o_loadp ?_ | refine o_faddr ?_ | refine o_iaddr ?_ | refine o_iaddrO ?_ | refine o_iaddrR ?_ | refine o_add ?_ | refine o_cat ?_ | refine o_bin ?_ | refine o_lenq ?_ | refine o_len ?_ | refine o_loadsA ?_ | refine o_loadpA ?_ | refine o_box ?_ | refine o_alloc ?_ | refine o_bslice ?_ | refine o_store ?_ | refine o_pickt ?_ | refine o_pickf ?_ | refine o_build ?_ | refine o_extract ?_ | refine o_iaddrA ?_ | refine skF ?_ | refine skU ?_
        refine agn (k + 1, _) ⟨(by simp only; omega), (by simp only; omega), addR_wf hws _, hmd⟩ goesD
      · have g4 : decide ((k : Int) < 64) = false := by simp; omega
        have hk64 : k = 64 := by omega
        subst hk64
        rw [List.drop_of_length_le (by simp; omega), madeF] at hmd
        repeat first | refine o_copy ?_ | refine nl ?_ | refine ct_seq ?_ | refine rg ?_ | refine ct_block ?_ | refine bq ?_ | refine o_loads ?_ | refine o_loadp ?_ | refine o_faddr ?_ | refine o_iaddr ?_ | refine o_iaddrO ?_ | refine o_iaddrR ?_ | refine o_add ?_ | refine o_cat ?_ | refine o_bin ?_ | refine o_lenq ?_ | refine o_len ?_ | refine o_loadsA ?_ | refine o_loadpA ?_ | refine o_box ?_ | refine o_alloc ?_ | refine o_bslice ?_ | refine o_store ?_ | refine o_pickt ?_ | refine o_pickf ?_ | refine o_build ?_ | refine o_extract ?_ | refine o_iaddrA ?_ | refine skF ?_ | refine skU ?_
        refine cndf (ct_exit ?_)
        repeat first | refine o_copy ?_ | refine nl ?_ | refine ct_seq ?_ | refine rg ?_ | refine ct_block ?_ | refine bq ?_ | refine o_loads ?_ | refine o_loadp ?_ | refine o_faddr ?_ | refine o_iaddr ?_ | refine o_iaddrO ?_ | refine o_iaddrR ?_ | refine o_add ?_ | refine o_cat ?_ | refine o_bin ?_ | refine o_lenq ?_ | refine o_len ?_ | refine o_loadsA ?_ | refine o_loadpA ?_ | refine o_box ?_ | refine o_alloc ?_ | refine o_bslice ?_ | refine o_store ?_ | refine o_pickt ?_ | refine o_pickf ?_ | refine o_build ?_ | refine o_extract ?_ | refine o_iaddrA ?_ | refine skF ?_ | refine skU ?_
        rw [hmd]
        exact ct_ret ⟨.inr rfl, oAny rfl⟩
    · have g3 : decide ((k : Int) < ((x.l.map encLP).length : Int)) = false := by rw [hlml]; simp; omega
      rw [List.drop_of_length_le (by simp; omega), madeF] at hmd
      repeat first | refine o_copy ?_ | refine nl ?_ | refine ct_seq ?_ | refine rg ?_ | refine ct_block ?_ | refine bq ?_ | refine o_loads ?_ | refine o_loadp ?_ | refine o_faddr ?_ | refine o_iaddr ?_ | refine o_iaddrO ?_ | refine o_iaddrR ?_ | refine o_add ?_ | refine o_cat ?_ | refine o_bin ?_ | refine o_lenq ?_ | refine o_len ?_ | refine o_loadsA ?_ | refine o_loadpA ?_ | refine o_box ?_ | refine o_alloc ?_ | refine o_bslice ?_ | refine o_store ?_ | refine o_pickt ?_ | refine o_pickf ?_ | refine o_build ?_ | refine o_extract ?_ | refine o_iaddrA ?_ | refine skF ?_ | refine skU ?_
      refine cndf (ct_exit ?_)
      repeat first | refine o_copy ?_ | refine nl ?_ | refine ct_seq ?_ | refine rg ?_ | refine ct_block ?_ | refine bq ?_ | refine o_loads ?_ | refine o_loadp ?_ | refine o_faddr ?_ | refine o_iaddr ?_ | refine o_iaddrO ?_ | refine o_iaddrR ?_ | refine o_add ?_ | refine o_cat ?_ | refine o_bin ?_ | refine o_lenq ?_ | refine o_len ?_ | refine o_loadsA ?_ | refine o_loadpA ?_ | refine o_box ?_ | refine o_alloc ?_ | refine o_bslice ?_ | refine o_store ?_ | refine o_pickt ?_ | refine o_pickf ?_ | refine o_build ?_ | refine o_extract ?_ | refine o_iaddrA ?_ | refine skF ?_ | refine skU ?_
      rw [hmd]
      exact ct_ret ⟨.inr rfl, oAny rfl⟩
end Go.Proofs
