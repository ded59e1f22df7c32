/- Sf -/
import Derived.Test.YtkbjaoophgepcaaLc
open Go.V Go.Pu
set_option linter.unusedVariables false
set_option linter.unusedSimpArgs false
set_option maxRecDepth 20000
namespace Go.Proofs
/-- downspout/downspoutlaw32.LockSound -/
def vc8 : VCode :=
 (.seq
 (.region 0 false [
 ⟨(some 2), .copy (.c (.bool false)), none, 0, []⟩])
 (.seq
 (.region 1 false [
 ⟨(some 8), .call (.c (.fn 11 [])) [], none, 8192, []⟩,
 ⟨(some 3), .copy (.t 8), none, 8200, [0]⟩])
 (.seq
 (.region 2 false [
 ⟨(some 9), .build [.nils, .nils] [], none, 16384, []⟩,
 ⟨(some 4), .alloc [.nils, .nils], none, 16392, []⟩,
 ⟨none, .store 2 (.t 4) (.t 9), none, 16400, [1, 0]⟩])
 (.seq
 (.seq
 (.region 3 false [
 ⟨(some 5), .copy (.c (.int .i64 0)), none, 24576, []⟩])
 (.block 0
 (.loop
 (.seq
 (.seq
 (.region 4 false [
 ⟨(some 10), .copy (.t 5), none, 32768, []⟩,
 ⟨(some 11), .copy (.t 0), none, 32776, []⟩,
 ⟨(some 12), .len (.t 11), none, 32784, [1]⟩,
 ⟨(some 13), .bin .lss (.t 10) (.t 12), none, 32792, [0, 2, 1]⟩,
 ⟨(some 14), .copy (.t 13), none, 32800, [3, 0, 2, 1]⟩,
 ⟨(some 15), .copy (.t 5), (some (4, 14, true)), 32808, [4, 3, 0, 2, 1]⟩,
 ⟨(some 16), .bin .lss (.t 15) (.c (.int .i64 14)), (some (4, 14, true)), 32816, [5, 4, 3, 0, 2, 1]⟩,
 ⟨(some 17), .pick (.t 14) (.t 16) (.c (.bool false)), none, 32824, [4, 3, 0, 2, 1, 6, 5]⟩])
 (.cond (.t 17)
 .skip
 (.exit 0)))
 (.seq
 (.block 1
 (.seq
 (.region 6 false [
 ⟨(some 20), .copy (.t 0), none, 49152, []⟩,
 ⟨(some 21), .copy (.t 5), none, 49160, []⟩,
 ⟨(some 22), .iaddr 5 (.t 20) (.t 21), none, 49168, [0, 1]⟩,
 ⟨(some 23), .load true 5 (.t 22), none, 49176, [2, 0, 1]⟩,
 ⟨(some 6), .alloc [(.int .u8 0), (.int .u8 0), (.int .u8 0), (.int .u8 0), (.int .u8 0)], none, 49184, []⟩,
 ⟨none, .store 5 (.t 6) (.t 23), none, 49192, [4, 3, 2, 0, 1]⟩])
 (.seq
 (.region 7 true [
 ⟨(some 24), .bslice 5 [(.int .i64 0), (.str []), (.int .i64 0), (.int .i64 0), (.bool false)] 0 [], none, 57344, []⟩,
 ⟨(some 25), .faddr 0 (.t 4), none, 57352, []⟩,
 ⟨(some 26), .load false 1 (.t 25), none, 57360, [1]⟩,
 ⟨(some 27), .append 5 48 [(.int .i64 0), (.str []), (.int .i64 0), (.int .i64 0), (.bool false)] (.t 24) (.t 26), none, 57368, [0, 2, 1]⟩,
 ⟨(some 28), .faddr 1 (.t 4), none, 57376, []⟩,
 ⟨(some 29), .load false 1 (.t 28), none, 57384, [4]⟩,
 ⟨(some 30), .append 5 48 [(.int .i64 0), (.str []), (.int .i64 0), (.int .i64 0), (.bool false)] (.t 27) (.t 29), none, 57392, [3, 0, 2, 1, 5, 4]⟩,
 ⟨(some 7), .copy (.t 30), none, 57400, [6, 3, 0, 2, 1, 5, 4]⟩])
 (.seq
 (.block 2
 (.seq
 (.region 9 false [
 ⟨(some 37), .iaddrA 5 1 (.t 6) (.c (.int .i64 0)), none, 73728, []⟩,
 ⟨(some 38), .load false 1 (.t 37), none, 73736, [0]⟩,
 ⟨(some 39), .bin .rem (.t 38) (.c (.int .u8 12)), none, 73744, [1, 0]⟩,
 ⟨(some 40), .bin .lss (.t 39) (.c (.int .u8 2)), none, 73752, [2, 1, 0]⟩,
 ⟨(some 41), .copy (.t 40), none, 73760, [3, 2, 1, 0]⟩,
 ⟨(some 42), .copy (.t 7), (some (4, 41, true)), 73768, [4, 3, 2, 1, 0]⟩,
 ⟨(some 43), .len (.t 42), (some (4, 41, true)), 73776, [5, 4, 3, 2, 1, 0]⟩,
 ⟨(some 44), .bin .gtr (.t 43) (.c (.int .i64 0)), (some (4, 41, true)), 73784, [6, 5, 4, 3, 2, 1, 0]⟩,
 ⟨(some 45), .pick (.t 41) (.t 44) (.c (.bool false)), none, 73792, [4, 3, 2, 1, 0, 7, 6, 5]⟩,
 ⟨(some 36), .copy (.t 45), none, 73800, [8, 4, 3, 2, 1, 0, 7, 6, 5]⟩])
 (.cond (.t 36)
 (.region 10 true [
 ⟨(some 46), .load true 2 (.t 4), none, 81920, []⟩,
 ⟨(some 47), .copy (.t 7), none, 81928, []⟩,
 ⟨(some 48), .iaddrA 5 1 (.t 6) (.c (.int .i64 1)), none, 81936, []⟩,
 ⟨(some 49), .load false 1 (.t 48), none, 81944, [2]⟩,
 ⟨(some 50), .conv .i64 (.t 49), none, 81952, [3, 2]⟩,
 ⟨(some 51), .copy (.t 7), none, 81960, []⟩,
 ⟨(some 52), .len (.t 51), none, 81968, [5]⟩,
 ⟨(some 53), .bin .rem (.t 50) (.t 52), none, 81976, [4, 3, 2, 6, 5]⟩,
 ⟨(some 54), .iaddr 5 (.t 47) (.t 53), none, 81984, [1, 7, 4, 3, 2, 6, 5]⟩,
 ⟨(some 55), .load true 5 (.t 54), none, 81992, [8, 1, 7, 4, 3, 2, 6, 5]⟩,
 ⟨(some 56), .call (.c (.fn 13 [])) [(.t 46), (.t 55)], none, 82000, [0, 9, 8, 1, 7, 4, 3, 2, 6, 5]⟩,
 ⟨(some 57), .field true 0 2 (.t 56), none, 82008, [10, 0, 9, 8, 1, 7, 4, 3, 2, 6, 5]⟩,
 ⟨none, .store 2 (.t 4) (.t 57), none, 82016, [11, 10, 0, 9, 8, 1, 7, 4, 3, 2, 6, 5]⟩])
 (.seq
 (.region 11 false [
 ⟨(some 59), .iaddrA 5 1 (.t 6) (.c (.int .i64 0)), none, 90112, []⟩,
 ⟨(some 60), .load false 1 (.t 59), none, 90120, [0]⟩,
 ⟨(some 61), .bin .rem (.t 60) (.c (.int .u8 12)), none, 90128, [1, 0]⟩,
 ⟨(some 62), .bin .eql (.t 61) (.c (.int .u8 2)), none, 90136, [2, 1, 0]⟩,
 ⟨(some 58), .copy (.t 62), none, 90144, [3, 2, 1, 0]⟩])
 (.cond (.t 58)
 (.region 12 false [
 ⟨(some 63), .load true 2 (.t 4), none, 98304, []⟩,
 ⟨(some 64), .iaddrA 5 1 (.t 6) (.c (.int .i64 1)), none, 98312, []⟩,
 ⟨(some 65), .load false 1 (.t 64), none, 98320, [1]⟩,
 ⟨(some 66), .bin .rem (.t 65) (.c (.int .u8 5)), none, 98328, [2, 1]⟩,
 ⟨(some 67), .conv .i64 (.t 66), none, 98336, [3, 2, 1]⟩,
 ⟨(some 68), .call (.c (.fn 28 [])) [(.t 63), (.t 67)], none, 98344, [0, 4, 3, 2, 1]⟩,
 ⟨(some 69), .field true 0 2 (.t 68), none, 98352, [5, 0, 4, 3, 2, 1]⟩,
 ⟨none, .store 2 (.t 4) (.t 69), none, 98360, [6, 5, 0, 4, 3, 2, 1]⟩])
 (.seq
 (.region 13 false [
 ⟨(some 71), .iaddrA 5 1 (.t 6) (.c (.int .i64 0)), none, 106496, []⟩,
 ⟨(some 72), .load false 1 (.t 71), none, 106504, [0]⟩,
 ⟨(some 73), .bin .rem (.t 72) (.c (.int .u8 12)), none, 106512, [1, 0]⟩,
 ⟨(some 74), .bin .eql (.t 73) (.c (.int .u8 3)), none, 106520, [2, 1, 0]⟩,
 ⟨(some 70), .copy (.t 74), none, 106528, [3, 2, 1, 0]⟩])
 (.cond (.t 70)
 (.region 14 true [
 ⟨(some 75), .load true 2 (.t 4), none, 114688, []⟩,
 ⟨(some 76), .bslice 1 [(.str [])] 2 [(0, (.c (.str [98, 47]))), (1, (.c (.str [99, 47])))], none, 114696, []⟩,
 ⟨(some 77), .iaddrA 5 1 (.t 6) (.c (.int .i64 1)), none, 114704, []⟩,
 ⟨(some 78), .load false 1 (.t 77), none, 114712, [2]⟩,
 ⟨(some 79), .bin .rem (.t 78) (.c (.int .u8 2)), none, 114720, [3, 2]⟩,
 ⟨(some 80), .iaddr 1 (.t 76) (.t 79), none, 114728, [1, 4, 3, 2]⟩,
 ⟨(some 81), .load false 1 (.t 80), none, 114736, [5, 1, 4, 3, 2]⟩,
 ⟨(some 82), .bslice 1 [(.str [])] 2 [(0, (.c (.str [97, 47]))), (1, (.c (.str [100, 47])))], none, 114744, []⟩,
 ⟨(some 83), .iaddrA 5 1 (.t 6) (.c (.int .i64 2)), none, 114752, []⟩,
 ⟨(some 84), .load false 1 (.t 83), none, 114760, [8]⟩,
 ⟨(some 85), .bin .rem (.t 84) (.c (.int .u8 2)), none, 114768, [9, 8]⟩,
 ⟨(some 86), .iaddr 1 (.t 82) (.t 85), none, 114776, [7, 10, 9, 8]⟩,
 ⟨(some 87), .load false 1 (.t 86), none, 114784, [11, 7, 10, 9, 8]⟩,
 ⟨(some 88), .call (.c (.fn 20 [])) [(.t 75), (.t 81), (.t 87)], none, 114792, [0, 6, 5, 1, 4, 3, 2, 12, 11, 7, 10, 9, 8]⟩,
 ⟨none, .store 2 (.t 4) (.t 88), none, 114800, [13, 0, 6, 5, 1, 4, 3, 2, 12, 11, 7, 10, 9, 8]⟩])
 (.region 8 true [
 ⟨(some 31), .load true 2 (.t 4), none, 65536, []⟩,
 ⟨(some 32), .load true 5 (.t 6), none, 65544, []⟩,
 ⟨(some 33), .call (.c (.fn 14 [])) [(.t 32)], none, 65552, [1]⟩,
 ⟨(some 34), .call (.c (.fn 15 [])) [(.t 31), (.t 33)], none, 65560, [0, 2, 1]⟩,
 ⟨(some 35), .field true 0 2 (.t 34), none, 65568, [3, 0, 2, 1]⟩,
 ⟨none, .store 2 (.t 4) (.t 35), none, 65576, [4, 3, 0, 2, 1]⟩]))))))))
 (.seq
 (.region 15 false [
 ⟨(some 89), .load true 2 (.t 4), none, 122880, []⟩,
 ⟨(some 90), .call (.c (.fn 23 [])) [(.t 89)], none, 122888, [0]⟩,
 ⟨(some 91), .not (.t 90), none, 122896, [1, 0]⟩])
 (.cond (.t 91)
 (.seq
 (.region 16 false [
 ⟨(some 2), .copy (.c (.bool false)), none, 131072, []⟩])
 .ret)
 .skip))))))
 (.region 5 false [
 ⟨(some 18), .copy (.t 5), none, 40960, []⟩,
 ⟨(some 19), .bin .add (.t 18) (.c (.int .i64 1)), none, 40968, [0]⟩,
 ⟨(some 5), .copy (.t 19), none, 40976, [1, 0]⟩]))))))
 (.seq
 (.region 17 false [
 ⟨(some 92), .copy (.t 3), none, 139264, []⟩,
 ⟨(some 2), .copy (.t 92), none, 139272, [0]⟩])
 .ret)))))
theorem vf8 : VF Try.prog 8 = some (93, vc8, [.tmp 2]) := by kernel_rfl
set_option maxHeartbeats 8000000 in
theorem sound_law_vc {rs : List RawL} (hl : rs.length ≤ 9223372036854775807) (hr : ∀ r ∈ rs, r.ok) : VC Try.prog 8 [.sh false (rs.map encR)] [] (.bool true) [] := by
  have hrl : (rs.map encR).length = rs.length := List.length_map _
  have hss := sanity_vc
  refine vc_of vf8 ?_ (Nat.le_of_ble_eq_true rfl) (by intro vs h; cases h)
  repeat first | refine o_copy ?_ | refine nl ?_ | refine ct_seq ?_ | refine rg ?_ | refine ct_block ?_ | refine bq ?_ | refine cv0 hss ?_ | refine o_loads ?_ | refine o_loadp ?_ | refine o_faddr ?_ | refine o_iaddr ?_ | refine o_iaddrO ?_ | refine o_iaddrR ?_ | refine o_add ?_ | refine o_cat ?_ | refine o_bin ?_ | refine o_lenq ?_ | refine o_len ?_ | refine o_loadsA ?_ | refine o_loadpA ?_ | refine o_alloc ?_ | refine o_bslice ?_ | refine o_store ?_ | refine o_field ?_ | refine o_not ?_ | refine o_pickt ?_ | refine o_pickf ?_ | refine o_build ?_ | refine o_iaddrA ?_ | refine skF ?_ | refine skU ?_
  refine ct_imp ((Imp.wkC (b1 := ⟨1, 16392⟩) 0 rfl rfl (CLe.nils (ex := false)) rfl rfl).trans (Imp.wkC (b1 := ⟨1, 16392⟩) 1 rfl rfl (CLe.nils (ex := false)) rfl rfl)) ?_
  refine ct_loopG (fun (g : Nat) => [(0, .sh false (rs.map encR)), (3, .bool true), (4, .ptr ⟨1, 16392⟩ 1 0 0), (5, .int .i64 g)]) (fun g => [(⟨1, 16392⟩, ⟨true, false, 2, [encLs (playL (rs.take g))]⟩)]) (fun g => rs.length - g)
    (fun g => g ≤ rs.length ∧ g ≤ 14) 0 goesD ⟨Nat.zero_le _, Nat.zero_le _⟩ ?_
  rintro i ⟨hi, hin⟩
  dsimp only at hi hin ⊢
  by_cases hA : i < rs.length
  · have g1 : decide ((i : Int) < (rs.map encR).length) = true := by rw [hrl]; simp; omega
    obtain ⟨r, hx⟩ : ∃ y, rs[i]? = some y := ⟨_, List.getElem?_eq_getElem hA⟩
    have hxe := gm (enc := encR) (n := (i : Int)) hx (by omega)
    have hlt2 : (i : Int) < ((rs.map encR).length : Nat) := by rw [hrl]; omega
    have hP := play_scr (rs.take i)
    have hP1 := play_scr (rs.take (i + 1))
    have hst := play_step hx
    have hro := hr r (List.mem_of_getElem? hx)
    have hsd := sound_vc hP1.s
    have hn1 : (rs.take i).length ≤ 14 := by rw [List.length_take]; omega
    generalize hS : playL (rs.take i) = S at hP hst
    have hn := Nat.le_trans hP.n hn1
    have hRt := hP.s.toSoundW.right
    have hb1 : (S.held.map encL).length ≤ 14 := by rw [List.length_map]; omega
    have hb2 : (S.waits.map encL).length ≤ 14 := by rw [List.length_map]; omega
    obtain ⟨p1, p2⟩ := scr_five hP
    obtain ⟨b1, b2, b3, b4, b5⟩ := hro
    have m1 : Int.tmod (r.k : Int) 12 = ((r.k % 12 : Nat) : Int) := tm r.k 12
    have hlk := lock_vc (hr r (List.mem_of_getElem? hx))
    have htk := htake_vc (l := S) (by omega) (lockL r)
    rw [show ptakeL S (lockL r) = rtakeL S (lockL r) from take_eq hRt _] at htk
    have hlen : (S.held ++ S.waits).length = S.held.length + S.waits.length := List.length_append
    by_cases hB : i < 14
    · have g2 : decide ((i : Int) < 14) = true := by simp; omega
      by_cases hA : r.k % 12 < 2
      · have c0 : decide (((r.k % 12 : Nat) : Int) < 2) = true := by simp; omega
        by_cases hQ : 0 < (S.held ++ S.waits).length
        · have e : stepL S r = (dropG rmt S (((S.held ++ S.waits)[r.a % (S.held ++ S.waits).length]?).getD default)).l := by unfold stepL; rw [if_pos ⟨hA, hQ⟩]
          have hml : r.a % (S.held ++ S.waits).length < (S.held ++ S.waits).length := Nat.mod_lt _ hQ
          obtain ⟨x, hxx⟩ : ∃ x, (S.held ++ S.waits)[r.a % (S.held ++ S.waits).length]? = some x := ⟨_, List.getElem?_eq_getElem hml⟩
          rw [hxx] at e
          simp only [Option.getD_some] at e
          have hye := gm (enc := encL) (n := ((r.a % (S.held ++ S.waits).length : Nat) : Int)) hxx (Int.toNat_natCast _)
          have m2 : Int.tmod (r.a : Int) (((S.held ++ S.waits).map encL).length : Nat) = ((r.a % (S.held ++ S.waits).length : Nat) : Int) := by rw [List.length_map]; exact tm _ _
          have m3 : (((S.held ++ S.waits).map encL).length : Int) ≠ 0 := by rw [List.length_map]; omega
          have m4 : ((r.a % (S.held ++ S.waits).length : Nat) : Int) < (((S.held ++ S.waits).map encL).length : Nat) := by rw [List.length_map]; omega
          have w1 : IntKind.i64.wrap (r.a : Int) = (r.a : Int) := wrap64 (by omega) (by omega)
          have g3 : decide ((((S.held ++ S.waits).map encL).length : Int) > 0) = true := by rw [List.length_map]; simp; omega
          have hd := hdrop_vc (l := S) (by omega) x
          rw [show dropG pmt S x = dropG rmt S x from drop_eq hRt x] at hd
          rw [← hst] at e
          generalize dropG rmt S x = G at hd e
          obtain ⟨GL, gg, ge⟩ := G
          dsimp only at e
          subst e
          repeat first | refine o_copy ?_ | refine nl ?_ | refine ct_seq ?_ | refine rg ?_ | refine ct_block ?_ | refine bq ?_ | refine o_loads ?_ | refine o_loadp ?_ | refine o_faddr ?_ | refine o_iaddr ?_ | refine o_iaddrO ?_ | refine o_iaddrR ?_ | refine o_add ?_ | refine o_cat ?_ | refine o_bin ?_ | refine o_lenq ?_ | refine o_len ?_ | refine o_loadsA ?_ | refine o_loadpA ?_ | refine o_alloc ?_ | refine o_bslice ?_ | refine o_store ?_ | refine o_field ?_ | refine o_not ?_ | refine o_pickt ?_ | refine o_pickf ?_ | refine o_build ?_ | refine o_iaddrA ?_ | refine skF ?_ | refine skU ?_
          refine cndt (ct_skip ?_)
          repeat first | refine o_copy ?_ | refine nl ?_ | refine ct_seq ?_ | refine rg ?_ | refine ct_block ?_ | refine bq ?_ | refine o_v (vaps encL [] S.held) ?_ | refine o_v (vaps encL S.held S.waits) ?_ | refine o_rem ?_ | refine o_loads ?_ | refine o_loadp ?_ | refine o_faddr ?_ | refine o_iaddr ?_ | refine o_iaddrO ?_ | refine o_iaddrR ?_ | refine o_add ?_ | refine o_cat ?_ | refine o_bin ?_ | refine o_lenq ?_ | refine o_len ?_ | refine o_loadsA ?_ | refine o_loadpA ?_ | refine o_alloc ?_ | refine o_bslice ?_ | refine o_store ?_ | refine o_field ?_ | refine o_not ?_ | refine o_pickt ?_ | refine o_pickf ?_ | refine o_build ?_ | refine o_iaddrA ?_ | refine skF ?_ | refine skU ?_
          refine cndt ?_
          repeat first | refine o_copy ?_ | refine nl ?_ | refine ct_seq ?_ | refine rg ?_ | refine ct_block ?_ | refine bq ?_ | refine o_convE ?_ | refine o_rem ?_ | refine cf hd ?_ | refine cv0 hsd ?_ | refine o_loads ?_ | refine o_loadp ?_ | refine o_faddr ?_ | refine o_iaddr ?_ | refine o_iaddrO ?_ | refine o_iaddrR ?_ | refine o_add ?_ | refine o_cat ?_ | refine o_bin ?_ | refine o_lenq ?_ | refine o_len ?_ | refine o_loadsA ?_ | refine o_loadpA ?_ | refine o_alloc ?_ | refine o_bslice ?_ | refine o_store ?_ | refine o_field ?_ | refine o_not ?_ | refine o_pickt ?_ | refine o_pickf ?_ | refine o_build ?_ | refine o_iaddrA ?_ | refine skF ?_ | refine skU ?_
          refine cndf (ct_skip ?_)
          repeat first | refine o_copy ?_ | refine nl ?_ | refine ct_seq ?_ | refine rg ?_ | refine ct_block ?_ | refine bq ?_ | refine o_loads ?_ | refine o_loadp ?_ | refine o_faddr ?_ | refine o_iaddr ?_ | refine o_iaddrO ?_ | refine o_iaddrR ?_ | refine o_add ?_ | refine o_cat ?_ | refine o_bin ?_ | refine o_lenq ?_ | refine o_len ?_ | refine o_loadsA ?_ | refine o_loadpA ?_ | refine o_alloc ?_ | refine o_bslice ?_ | refine o_store ?_ | refine o_field ?_ | refine o_not ?_ | refine o_pickt ?_ | refine o_pickf ?_ | refine o_build ?_ | refine o_iaddrA ?_ | refine skF ?_ | refine skU ?_
          exact agn (Q := fun _ _ => True) (i + 1) ⟨by omega, by omega⟩ goesD
        · have e : stepL S r = (rtakeL S (lockL r)).1 := by unfold stepL; rw [if_neg (fun h => hQ h.2), if_neg (by omega), if_neg (by omega)]
          rw [← hst] at e
          generalize rtakeL S (lockL r) = T at htk e
          obtain ⟨TL, tb, te⟩ := T
          dsimp only at e
          subst e
          have g3 : decide ((((S.held ++ S.waits).map encL).length : Int) > 0) = false := by rw [List.length_map]; simp; omega
          have g4 : (((r.k % 12 : Nat) : Int) == 2) = false := by simp; omega
          have g5 : (((r.k % 12 : Nat) : Int) == 3) = false := by simp; omega
          repeat first | refine o_copy ?_ | refine nl ?_ | refine ct_seq ?_ | refine rg ?_ | refine ct_block ?_ | refine bq ?_ | refine o_loads ?_ | refine o_loadp ?_ | refine o_faddr ?_ | refine o_iaddr ?_ | refine o_iaddrO ?_ | refine o_iaddrR ?_ | refine o_add ?_ | refine o_cat ?_ | refine o_bin ?_ | refine o_lenq ?_ | refine o_len ?_ | refine o_loadsA ?_ | refine o_loadpA ?_ | refine o_alloc ?_ | refine o_bslice ?_ | refine o_store ?_ | refine o_field ?_ | refine o_not ?_ | refine o_pickt ?_ | refine o_pickf ?_ | refine o_build ?_ | refine o_iaddrA ?_ | refine skF ?_ | refine skU ?_
          refine cndt (ct_skip ?_)
          repeat first | refine o_copy ?_ | refine nl ?_ | refine ct_seq ?_ | refine rg ?_ | refine ct_block ?_ | refine bq ?_ | refine o_v (vaps encL [] S.held) ?_ | refine o_v (vaps encL S.held S.waits) ?_ | refine o_rem ?_ | refine o_loads ?_ | refine o_loadp ?_ | refine o_faddr ?_ | refine o_iaddr ?_ | refine o_iaddrO ?_ | refine o_iaddrR ?_ | refine o_add ?_ | refine o_cat ?_ | refine o_bin ?_ | refine o_lenq ?_ | refine o_len ?_ | refine o_loadsA ?_ | refine o_loadpA ?_ | refine o_alloc ?_ | refine o_bslice ?_ | refine o_store ?_ | refine o_field ?_ | refine o_not ?_ | refine o_pickt ?_ | refine o_pickf ?_ | refine o_build ?_ | refine o_iaddrA ?_ | refine skF ?_ | refine skU ?_
          refine cndf ?_
          repeat first | refine o_copy ?_ | refine nl ?_ | refine ct_seq ?_ | refine rg ?_ | refine ct_block ?_ | refine bq ?_ | refine o_rem ?_ | refine o_loads ?_ | refine o_loadp ?_ | refine o_faddr ?_ | refine o_iaddr ?_ | refine o_iaddrO ?_ | refine o_iaddrR ?_ | refine o_add ?_ | refine o_cat ?_ | refine o_bin ?_ | refine o_lenq ?_ | refine o_len ?_ | refine o_loadsA ?_ | refine o_loadpA ?_ | refine o_alloc ?_ | refine o_bslice ?_ | refine o_store ?_ | refine o_field ?_ | refine o_not ?_ | refine o_pickt ?_ | refine o_pickf ?_ | refine o_build ?_ | refine o_iaddrA ?_ | refine skF ?_ | refine skU ?_
          refine cndf ?_
          repeat first | refine o_copy ?_ | refine nl ?_ | refine ct_seq ?_ | refine rg ?_ | refine ct_block ?_ | refine bq ?_ | refine o_rem ?_ | refine o_loads ?_ | refine o_loadp ?_ | refine o_faddr ?_ | refine o_iaddr ?_ | refine o_iaddrO ?_ | refine o_iaddrR ?_ | refine o_add ?_ | refine o_cat ?_ | refine o_bin ?_ | refine o_lenq ?_ | refine o_len ?_ | refine o_loadsA ?_ | refine o_loadpA ?_ | refine o_alloc ?_ | refine o_bslice ?_ | refine o_store ?_ | refine o_field ?_ | refine o_not ?_ | refine o_pickt ?_ | refine o_pickf ?_ | refine o_build ?_ | refine o_iaddrA ?_ | refine skF ?_ | refine skU ?_
          refine cndf ?_
          repeat first | refine o_copy ?_ | refine nl ?_ | refine ct_seq ?_ | refine rg ?_ | refine ct_block ?_ | refine bq ?_ | refine cv0 hlk ?_ | refine cf htk ?_ | refine cv0 hsd ?_ | refine o_loads ?_ | refine o_loadp ?_ | refine o_faddr ?_ | refine o_iaddr ?_ | refine o_iaddrO ?_ | refine o_iaddrR ?_ | refine o_add ?_ | refine o_cat ?_ | refine o_bin ?_ | refine o_lenq ?_ | refine o_len ?_ | refine o_loadsA ?_ | refine o_loadpA ?_ | refine o_alloc ?_ | refine o_bslice ?_ | refine o_store ?_ | refine o_field ?_ | refine o_not ?_ | refine o_pickt ?_ | refine o_pickf ?_ | refine o_build ?_ | refine o_iaddrA ?_ | refine skF ?_ | refine skU ?_
          refine cndf (ct_skip ?_)
          repeat first | refine o_copy ?_ | refine nl ?_ | refine ct_seq ?_ | refine rg ?_ | refine ct_block ?_ | refine bq ?_ | refine o_loads ?_ | refine o_loadp ?_ | refine o_faddr ?_ | refine o_iaddr ?_ | refine o_iaddrO ?_ | refine o_iaddrR ?_ | refine o_add ?_ | refine o_cat ?_ | refine o_bin ?_ | refine o_lenq ?_ | refine o_len ?_ | refine o_loadsA ?_ | refine o_loadpA ?_ | refine o_alloc ?_ | refine o_bslice ?_ | refine o_store ?_ | refine o_field ?_ | refine o_not ?_ | refine o_pickt ?_ | refine o_pickf ?_ | refine o_build ?_ | refine o_iaddrA ?_ | refine skF ?_ | refine skU ?_
          exact agn (Q := fun _ _ => True) (i + 1) ⟨by omega, by omega⟩ goesD
      have c0 : decide (((r.k % 12 : Nat) : Int) < 2) = false := by simp; omega
      by_cases hB : r.k % 12 = 2
      · have e : stepL S r = (leaveG rmt S (r.a % 5 : Nat)).l := by unfold stepL; rw [if_neg (by omega), if_pos hB]
        rw [← hst] at e
        have g3 : (((r.k % 12 : Nat) : Int) == 2) = true := by rw [hB]; rfl
        have m2 : Int.tmod (r.a : Int) 5 = ((r.a % 5 : Nat) : Int) := tm r.a 5
        have w2 : IntKind.i64.wrap ((r.a % 5 : Nat) : Int) = ((r.a % 5 : Nat) : Int) := wrap64 (by omega) (by omega)
        have hlv := hleave_vc (l := S) (by omega) ((r.a % 5 : Nat) : Int)
        rw [show leaveG pmt S ((r.a % 5 : Nat) : Int) = leaveG rmt S ((r.a % 5 : Nat) : Int) from leave_eq hRt _] at hlv
        generalize leaveG rmt S ((r.a % 5 : Nat) : Int) = G at hlv e
        obtain ⟨GL, gg, ge⟩ := G
        dsimp only at e
        subst e
        repeat first | refine o_copy ?_ | refine nl ?_ | refine ct_seq ?_ | refine rg ?_ | refine ct_block ?_ | refine bq ?_ | refine o_loads ?_ | refine o_loadp ?_ | refine o_faddr ?_ | refine o_iaddr ?_ | refine o_iaddrO ?_ | refine o_iaddrR ?_ | refine o_add ?_ | refine o_cat ?_ | refine o_bin ?_ | refine o_lenq ?_ | refine o_len ?_ | refine o_loadsA ?_ | refine o_loadpA ?_ | refine o_alloc ?_ | refine o_bslice ?_ | refine o_store ?_ | refine o_field ?_ | refine o_not ?_ | refine o_pickt ?_ | refine o_pickf ?_ | refine o_build ?_ | refine o_iaddrA ?_ | refine skF ?_ | refine skU ?_
        refine cndt (ct_skip ?_)
        repeat first | refine o_copy ?_ | refine nl ?_ | refine ct_seq ?_ | refine rg ?_ | refine ct_block ?_ | refine bq ?_ | refine o_v (vaps encL [] S.held) ?_ | refine o_v (vaps encL S.held S.waits) ?_ | refine o_rem ?_ | refine o_loads ?_ | refine o_loadp ?_ | refine o_faddr ?_ | refine o_iaddr ?_ | refine o_iaddrO ?_ | refine o_iaddrR ?_ | refine o_add ?_ | refine o_cat ?_ | refine o_bin ?_ | refine o_lenq ?_ | refine o_len ?_ | refine o_loadsA ?_ | refine o_loadpA ?_ | refine o_alloc ?_ | refine o_bslice ?_ | refine o_store ?_ | refine o_field ?_ | refine o_not ?_ | refine o_pickt ?_ | refine o_pickf ?_ | refine o_build ?_ | refine o_iaddrA ?_ | refine skF ?_ | refine skU ?_
        refine cndf ?_
        repeat first | refine o_copy ?_ | refine nl ?_ | refine ct_seq ?_ | refine rg ?_ | refine ct_block ?_ | refine bq ?_ | refine o_rem ?_ | refine o_loads ?_ | refine o_loadp ?_ | refine o_faddr ?_ | refine o_iaddr ?_ | refine o_iaddrO ?_ | refine o_iaddrR ?_ | refine o_add ?_ | refine o_cat ?_ | refine o_bin ?_ | refine o_lenq ?_ | refine o_len ?_ | refine o_loadsA ?_ | refine o_loadpA ?_ | refine o_alloc ?_ | refine o_bslice ?_ | refine o_store ?_ | refine o_field ?_ | refine o_not ?_ | refine o_pickt ?_ | refine o_pickf ?_ | refine o_build ?_ | refine o_iaddrA ?_ | refine skF ?_ | refine skU ?_
        refine cndt ?_
        repeat first | refine o_copy ?_ | refine nl ?_ | refine ct_seq ?_ | refine rg ?_ | refine ct_block ?_ | refine bq ?_ | refine o_rem ?_ | refine o_convE ?_ | refine cf hlv ?_ | refine cv0 hsd ?_ | refine o_loads ?_ | refine o_loadp ?_ | refine o_faddr ?_ | refine o_iaddr ?_ | refine o_iaddrO ?_ | refine o_iaddrR ?_ | refine o_add ?_ | refine o_cat ?_ | refine o_bin ?_ | refine o_lenq ?_ | refine o_len ?_ | refine o_loadsA ?_ | refine o_loadpA ?_ | refine o_alloc ?_ | refine o_bslice ?_ | refine o_store ?_ | refine o_field ?_ | refine o_not ?_ | refine o_pickt ?_ | refine o_pickf ?_ | refine o_build ?_ | refine o_iaddrA ?_ | refine skF ?_ | refine skU ?_
        refine cndf (ct_skip ?_)
        repeat first | refine o_copy ?_ | refine nl ?_ | refine ct_seq ?_ | refine rg ?_ | refine ct_block ?_ | refine bq ?_ | refine o_loads ?_ | refine o_loadp ?_ | refine o_faddr ?_ | refine o_iaddr ?_ | refine o_iaddrO ?_ | refine o_iaddrR ?_ | refine o_add ?_ | refine o_cat ?_ | refine o_bin ?_ | refine o_lenq ?_ | refine o_len ?_ | refine o_loadsA ?_ | refine o_loadpA ?_ | refine o_alloc ?_ | refine o_bslice ?_ | refine o_store ?_ | refine o_field ?_ | refine o_not ?_ | refine o_pickt ?_ | refine o_pickf ?_ | refine o_build ?_ | refine o_iaddrA ?_ | refine skF ?_ | refine skU ?_
        exact agn (Q := fun _ _ => True) (i + 1) ⟨by omega, by omega⟩ goesD
      have g3 : (((r.k % 12 : Nat) : Int) == 2) = false := by simp; omega
      by_cases hC : r.k % 12 = 3
      · have e : stepL S r = movedG rmt S (fromL r.a) (toL r.b) := by unfold stepL; rw [if_neg (by omega), if_neg hB, if_pos hC]
        rw [← hst] at e
        have g4 : (((r.k % 12 : Nat) : Int) == 3) = true := by rw [hC]; rfl
        have m2 : Int.tmod (r.a : Int) 2 = ((r.a % 2 : Nat) : Int) := tm r.a 2
        have m3 : Int.tmod (r.b : Int) 2 = ((r.b % 2 : Nat) : Int) := tm r.b 2
        have hxa : [[PV.str [98, 47]], [.str [99, 47]]][((r.a % 2 : Nat) : Int).toNat]? = some [.str (fromL r.a)] := by
          unfold fromL
          rw [Int.toNat_natCast]
          have : r.a % 2 < 2 := Nat.mod_lt _ (by omega)
          generalize r.a % 2 = m at this
          match m, this with
          | 0, _ => rfl
          | 1, _ => rfl
        have hxb : [[PV.str [97, 47]], [.str [100, 47]]][((r.b % 2 : Nat) : Int).toNat]? = some [.str (toL r.b)] := by
          unfold toL
          rw [Int.toNat_natCast]
          have : r.b % 2 < 2 := Nat.mod_lt _ (by omega)
          generalize r.b % 2 = m at this
          match m, this with
          | 0, _ => rfl
          | 1, _ => rfl
        have hmv := pmoved_vc (l := S) (by omega) (fromL r.a) (toL r.b) p1 p2 (by rw [from_len]; omega) (by rw [to_len]; omega)
        rw [show movedG pmt S (fromL r.a) (toL r.b) = movedG rmt S (fromL r.a) (toL r.b) from moved_eq hRt (scr_mv hP r.a r.b), ← e] at hmv
        have l1 : r.a % 2 < 2 := Nat.mod_lt _ (by omega)
        have l2 : r.b % 2 < 2 := Nat.mod_lt _ (by omega)
        repeat first | refine o_copy ?_ | refine nl ?_ | refine ct_seq ?_ | refine rg ?_ | refine ct_block ?_ | refine bq ?_ | refine o_loads ?_ | refine o_loadp ?_ | refine o_faddr ?_ | refine o_iaddr ?_ | refine o_iaddrO ?_ | refine o_iaddrR ?_ | refine o_add ?_ | refine o_cat ?_ | refine o_bin ?_ | refine o_lenq ?_ | refine o_len ?_ | refine o_loadsA ?_ | refine o_loadpA ?_ | refine o_alloc ?_ | refine o_bslice ?_ | refine o_store ?_ | refine o_field ?_ | refine o_not ?_ | refine o_pickt ?_ | refine o_pickf ?_ | refine o_build ?_ | refine o_iaddrA ?_ | refine skF ?_ | refine skU ?_
        refine cndt (ct_skip ?_)
        repeat first | refine o_copy ?_ | refine nl ?_ | refine ct_seq ?_ | refine rg ?_ | refine ct_block ?_ | refine bq ?_ | refine o_v (vaps encL [] S.held) ?_ | refine o_v (vaps encL S.held S.waits) ?_ | refine o_rem ?_ | refine o_loads ?_ | refine o_loadp ?_ | refine o_faddr ?_ | refine o_iaddr ?_ | refine o_iaddrO ?_ | refine o_iaddrR ?_ | refine o_add ?_ | refine o_cat ?_ | refine o_bin ?_ | refine o_lenq ?_ | refine o_len ?_ | refine o_loadsA ?_ | refine o_loadpA ?_ | refine o_alloc ?_ | refine o_bslice ?_ | refine o_store ?_ | refine o_field ?_ | refine o_not ?_ | refine o_pickt ?_ | refine o_pickf ?_ | refine o_build ?_ | refine o_iaddrA ?_ | refine skF ?_ | refine skU ?_
        refine cndf ?_
        repeat first | refine o_copy ?_ | refine nl ?_ | refine ct_seq ?_ | refine rg ?_ | refine ct_block ?_ | refine bq ?_ | refine o_rem ?_ | refine o_loads ?_ | refine o_loadp ?_ | refine o_faddr ?_ | refine o_iaddr ?_ | refine o_iaddrO ?_ | refine o_iaddrR ?_ | refine o_add ?_ | refine o_cat ?_ | refine o_bin ?_ | refine o_lenq ?_ | refine o_len ?_ | refine o_loadsA ?_ | refine o_loadpA ?_ | refine o_alloc ?_ | refine o_bslice ?_ | refine o_store ?_ | refine o_field ?_ | refine o_not ?_ | refine o_pickt ?_ | refine o_pickf ?_ | refine o_build ?_ | refine o_iaddrA ?_ | refine skF ?_ | refine skU ?_
        refine cndf ?_
        repeat first | refine o_copy ?_ | refine nl ?_ | refine ct_seq ?_ | refine rg ?_ | refine ct_block ?_ | refine bq ?_ | refine o_rem ?_ | refine o_loads ?_ | refine o_loadp ?_ | refine o_faddr ?_ | refine o_iaddr ?_ | refine o_iaddrO ?_ | refine o_iaddrR ?_ | refine o_add ?_ | refine o_cat ?_ | refine o_bin ?_ | refine o_lenq ?_ | refine o_len ?_ | refine o_loadsA ?_ | refine o_loadpA ?_ | refine o_alloc ?_ | refine o_bslice ?_ | refine o_store ?_ | refine o_field ?_ | refine o_not ?_ | refine o_pickt ?_ | refine o_pickf ?_ | refine o_build ?_ | refine o_iaddrA ?_ | refine skF ?_ | refine skU ?_
        refine cndt ?_
        repeat first | refine o_copy ?_ | refine nl ?_ | refine ct_seq ?_ | refine rg ?_ | refine ct_block ?_ | refine bq ?_ | refine o_rem ?_ | refine cf hmv ?_ | refine cv0 hsd ?_ | refine o_loads ?_ | refine o_loadp ?_ | refine o_faddr ?_ | refine o_iaddr ?_ | refine o_iaddrO ?_ | refine o_iaddrR ?_ | refine o_add ?_ | refine o_cat ?_ | refine o_bin ?_ | refine o_lenq ?_ | refine o_len ?_ | refine o_loadsA ?_ | refine o_loadpA ?_ | refine o_alloc ?_ | refine o_bslice ?_ | refine o_store ?_ | refine o_field ?_ | refine o_not ?_ | refine o_pickt ?_ | refine o_pickf ?_ | refine o_build ?_ | refine o_iaddrA ?_ | refine skF ?_ | refine skU ?_
        refine cndf (ct_skip ?_)
        repeat first | refine o_copy ?_ | refine nl ?_ | refine ct_seq ?_ | refine rg ?_ | refine ct_block ?_ | refine bq ?_ | refine o_loads ?_ | refine o_loadp ?_ | refine o_faddr ?_ | refine o_iaddr ?_ | refine o_iaddrO ?_ | refine o_iaddrR ?_ | refine o_add ?_ | refine o_cat ?_ | refine o_bin ?_ | refine o_lenq ?_ | refine o_len ?_ | refine o_loadsA ?_ | refine o_loadpA ?_ | refine o_alloc ?_ | refine o_bslice ?_ | refine o_store ?_ | refine o_field ?_ | refine o_not ?_ | refine o_pickt ?_ | refine o_pickf ?_ | refine o_build ?_ | refine o_iaddrA ?_ | refine skF ?_ | refine skU ?_
        exact agn (Q := fun _ _ => True) (i + 1) ⟨by omega, by omega⟩ goesD
      have g4 : (((r.k % 12 : Nat) : Int) == 3) = false := by simp; omega
      have e : stepL S r = (rtakeL S (lockL r)).1 := by unfold stepL; rw [if_neg (by omega), if_neg hB, if_neg hC]
      rw [← hst] at e
      generalize rtakeL S (lockL r) = T at htk e
      obtain ⟨TL, tb, te⟩ := T
      dsimp only at e
      subst e
      repeat first | refine o_copy ?_ | refine nl ?_ | refine ct_seq ?_ | refine rg ?_ | refine ct_block ?_ | refine bq ?_ | refine o_loads ?_ | refine o_loadp ?_ | refine o_faddr ?_ | refine o_iaddr ?_ | refine o_iaddrO ?_ | refine o_iaddrR ?_ | refine o_add ?_ | refine o_cat ?_ | refine o_bin ?_ | refine o_lenq ?_ | refine o_len ?_ | refine o_loadsA ?_ | refine o_loadpA ?_ | refine o_alloc ?_ | refine o_bslice ?_ | refine o_store ?_ | refine o_field ?_ | refine o_not ?_ | refine o_pickt ?_ | refine o_pickf ?_ | refine o_build ?_ | refine o_iaddrA ?_ | refine skF ?_ | refine skU ?_
      refine cndt (ct_skip ?_)
      repeat first | refine o_copy ?_ | refine nl ?_ | refine ct_seq ?_ | refine rg ?_ | refine ct_block ?_ | refine bq ?_ | refine o_v (vaps encL [] S.held) ?_ | refine o_v (vaps encL S.held S.waits) ?_ | refine o_rem ?_ | refine o_loads ?_ | refine o_loadp ?_ | refine o_faddr ?_ | refine o_iaddr ?_ | refine o_iaddrO ?_ | refine o_iaddrR ?_ | refine o_add ?_ | refine o_cat ?_ | refine o_bin ?_ | refine o_lenq ?_ | refine o_len ?_ | refine o_loadsA ?_ | refine o_loadpA ?_ | refine o_alloc ?_ | refine o_bslice ?_ | refine o_store ?_ | refine o_field ?_ | refine o_not ?_ | refine o_pickt ?_ | refine o_pickf ?_ | refine o_build ?_ | refine o_iaddrA ?_ | refine skF ?_ | refine skU ?_
      refine cndf ?_
      repeat first | refine o_copy ?_ | refine nl ?_ | refine ct_seq ?_ | refine rg ?_ | refine ct_block ?_ | refine bq ?_ | refine o_rem ?_ | refine o_loads ?_ | refine o_loadp ?_ | refine o_faddr ?_ | refine o_iaddr ?_ | refine o_iaddrO ?_ | refine o_iaddrR ?_ | refine o_add ?_ | refine o_cat ?_ | refine o_bin ?_ | refine o_lenq ?_ | refine o_len ?_ | refine o_loadsA ?_ | refine o_loadpA ?_ | refine o_alloc ?_ | refine o_bslice ?_ | refine o_store ?_ | refine o_field ?_ | refine o_not ?_ | refine o_pickt ?_ | refine o_pickf ?_ | refine o_build ?_ | refine o_iaddrA ?_ | refine skF ?_ | refine skU ?_
      refine cndf ?_
      repeat first | refine o_copy ?_ | refine nl ?_ | refine ct_seq ?_ | refine rg ?_ | refine ct_block ?_ | refine bq ?_ | refine o_rem ?_ | refine o_loads ?_ | refine o_loadp ?_ | refine o_faddr ?_ | refine o_iaddr ?_ | refine o_iaddrO ?_ | refine o_iaddrR ?_ | refine o_add ?_ | refine o_cat ?_ | refine o_bin ?_ | refine o_lenq ?_ | refine o_len ?_ | refine o_loadsA ?_ | refine o_loadpA ?_ | refine o_alloc ?_ | refine o_bslice ?_ | refine o_store ?_ | refine o_field ?_ | refine o_not ?_ | refine o_pickt ?_ | refine o_pickf ?_ | refine o_build ?_ | refine o_iaddrA ?_ | refine skF ?_ | refine skU ?_
      refine cndf ?_
      repeat first | refine o_copy ?_ | refine nl ?_ | refine ct_seq ?_ | refine rg ?_ | refine ct_block ?_ | refine bq ?_ | refine cv0 hlk ?_ | refine cf htk ?_ | refine cv0 hsd ?_ | refine o_loads ?_ | refine o_loadp ?_ | refine o_faddr ?_ | refine o_iaddr ?_ | refine o_iaddrO ?_ | refine o_iaddrR ?_ | refine o_add ?_ | refine o_cat ?_ | refine o_bin ?_ | refine o_lenq ?_ | refine o_len ?_ | refine o_loadsA ?_ | refine o_loadpA ?_ | refine o_alloc ?_ | refine o_bslice ?_ | refine o_store ?_ | refine o_field ?_ | refine o_not ?_ | refine o_pickt ?_ | refine o_pickf ?_ | refine o_build ?_ | refine o_iaddrA ?_ | refine skF ?_ | refine skU ?_
      refine cndf (ct_skip ?_)
      repeat first | refine o_copy ?_ | refine nl ?_ | refine ct_seq ?_ | refine rg ?_ | refine ct_block ?_ | refine bq ?_ | refine o_loads ?_ | refine o_loadp ?_ | refine o_faddr ?_ | refine o_iaddr ?_ | refine o_iaddrO ?_ | refine o_iaddrR ?_ | refine o_add ?_ | refine o_cat ?_ | refine o_bin ?_ | refine o_lenq ?_ | refine o_len ?_ | refine o_loadsA ?_ | refine o_loadpA ?_ | refine o_alloc ?_ | refine o_bslice ?_ | refine o_store ?_ | refine o_field ?_ | refine o_not ?_ | refine o_pickt ?_ | refine o_pickf ?_ | refine o_build ?_ | refine o_iaddrA ?_ | refine skF ?_ | refine skU ?_
      exact agn (Q := fun _ _ => True) (i + 1) ⟨by omega, by omega⟩ goesD
    · have g2 : decide ((i : Int) < 14) = false := by simp; omega
      repeat first | refine o_copy ?_ | refine nl ?_ | refine ct_seq ?_ | refine rg ?_ | refine ct_block ?_ | refine bq ?_ | refine o_loads ?_ | refine o_loadp ?_ | refine o_faddr ?_ | refine o_iaddr ?_ | refine o_iaddrO ?_ | refine o_iaddrR ?_ | refine o_add ?_ | refine o_cat ?_ | refine o_bin ?_ | refine o_lenq ?_ | refine o_len ?_ | refine o_loadsA ?_ | refine o_loadpA ?_ | refine o_alloc ?_ | refine o_bslice ?_ | refine o_store ?_ | refine o_field ?_ | refine o_not ?_ | refine o_pickt ?_ | refine o_pickf ?_ | refine o_build ?_ | refine o_iaddrA ?_ | refine skF ?_ | refine skU ?_
      refine cndf (ct_exit ?_)
      repeat first | refine o_copy ?_ | refine nl ?_ | refine ct_seq ?_ | refine rg ?_ | refine ct_block ?_ | refine bq ?_ | refine o_loads ?_ | refine o_loadp ?_ | refine o_faddr ?_ | refine o_iaddr ?_ | refine o_iaddrO ?_ | refine o_iaddrR ?_ | refine o_add ?_ | refine o_cat ?_ | refine o_bin ?_ | refine o_lenq ?_ | refine o_len ?_ | refine o_loadsA ?_ | refine o_loadpA ?_ | refine o_alloc ?_ | refine o_bslice ?_ | refine o_store ?_ | refine o_field ?_ | refine o_not ?_ | refine o_pickt ?_ | refine o_pickf ?_ | refine o_build ?_ | refine o_iaddrA ?_ | refine skF ?_ | refine skU ?_
      exact ct_ret ⟨.inr rfl, oB rfl⟩
  · have g1 : decide ((i : Int) < (rs.map encR).length) = false := by rw [hrl]; simp; omega
    repeat first | refine o_copy ?_ | refine nl ?_ | refine ct_seq ?_ | refine rg ?_ | refine ct_block ?_ | refine bq ?_ | refine o_loads ?_ | refine o_loadp ?_ | refine o_faddr ?_ | refine o_iaddr ?_ | refine o_iaddrO ?_ | refine o_iaddrR ?_ | refine o_add ?_ | refine o_cat ?_ | refine o_bin ?_ | refine o_lenq ?_ | refine o_len ?_ | refine o_loadsA ?_ | refine o_loadpA ?_ | refine o_alloc ?_ | refine o_bslice ?_ | refine o_store ?_ | refine o_field ?_ | refine o_not ?_ | refine o_pickt ?_ | refine o_pickf ?_ | refine o_build ?_ | refine o_iaddrA ?_ | refine skF ?_ | refine skU ?_
    refine cndf (ct_exit ?_)
    repeat first | refine o_copy ?_ | refine nl ?_ | refine ct_seq ?_ | refine rg ?_ | refine ct_block ?_ | refine bq ?_ | refine o_loads ?_ | refine o_loadp ?_ | refine o_faddr ?_ | refine o_iaddr ?_ | refine o_iaddrO ?_ | refine o_iaddrR ?_ | refine o_add ?_ | refine o_cat ?_ | refine o_bin ?_ | refine o_lenq ?_ | refine o_len ?_ | refine o_loadsA ?_ | refine o_loadpA ?_ | refine o_alloc ?_ | refine o_bslice ?_ | refine o_store ?_ | refine o_field ?_ | refine o_not ?_ | refine o_pickt ?_ | refine o_pickf ?_ | refine o_build ?_ | refine o_iaddrA ?_ | refine skF ?_ | refine skU ?_
    exact ct_ret ⟨.inr rfl, oB rfl⟩
theorem lockSound_in (l : List (List PV)) (il : InTy (.sl [.int .u8, .int .u8, .int .u8, .int .u8, .int .u8]) (.sh false l)) : VC Try.prog 8 [.sh false l] [] (.bool true) [] := by
  obtain ⟨rs, rfl, h1, h2⟩ := decRs il
  exact sound_law_vc h2 h1
end Go.Proofs
