/- Sa -/
import Derived.Test.YtkbjaoophgepcaaLc
open Go.V Go.Pu
set_option linter.unusedVariables false
set_option linter.unusedSimpArgs false
set_option maxRecDepth 20000
namespace Go.Proofs
/-- downspout/downspoutlaw32.LockEnds -/
def vc3 : VCode :=
 (.seq
 (.region 0 false [
 ⟨(some 4), .copy (.c (.bool false)), none, 0, []⟩])
 (.seq
 (.region 1 false [
 ⟨(some 10), .call (.c (.fn 11 [])) [], none, 8192, []⟩,
 ⟨(some 5), .copy (.t 10), none, 8200, [0]⟩])
 (.seq
 (.region 2 false [
 ⟨(some 11), .copy (.t 0), none, 16384, []⟩,
 ⟨(some 12), .call (.c (.fn 12 [])) [(.t 11), (.c (.int .i64 14))], none, 16392, [0]⟩,
 ⟨(some 6), .alloc [.nils, .nils], none, 16400, []⟩,
 ⟨none, .store 2 (.t 6) (.t 12), none, 16408, [2, 1, 0]⟩])
 (.seq
 (.region 3 false [
 ⟨(some 13), .faddr 1 (.t 6), none, 24576, []⟩,
 ⟨(some 14), .load false 1 (.t 13), none, 24584, [0]⟩,
 ⟨(some 15), .len (.t 14), none, 24592, [1, 0]⟩,
 ⟨(some 7), .copy (.t 15), none, 24600, [2, 1, 0]⟩])
 (.seq
 (.seq
 (.region 4 false [
 ⟨(some 8), .copy (.c (.int .i64 0)), none, 32768, []⟩])
 (.block 0
 (.loop
 (.seq
 (.seq
 (.region 5 false [
 ⟨(some 16), .copy (.t 8), none, 40960, []⟩,
 ⟨(some 17), .bin .lss (.t 16) (.c (.int .i64 33)), none, 40968, [0]⟩,
 ⟨(some 18), .copy (.t 17), none, 40976, [1, 0]⟩,
 ⟨(some 19), .faddr 0 (.t 6), (some (2, 18, true)), 40984, [2, 1, 0]⟩,
 ⟨(some 20), .load false 1 (.t 19), (some (2, 18, true)), 40992, [3, 2, 1, 0]⟩,
 ⟨(some 21), .len (.t 20), (some (2, 18, true)), 41000, [4, 3, 2, 1, 0]⟩,
 ⟨(some 22), .bin .gtr (.t 21) (.c (.int .i64 0)), (some (2, 18, true)), 41008, [5, 4, 3, 2, 1, 0]⟩,
 ⟨(some 23), .pick (.t 18) (.t 22) (.c (.bool false)), none, 41016, [2, 1, 0, 6, 5, 4, 3]⟩])
 (.cond (.t 23)
 .skip
 (.exit 0)))
 (.seq
 (.block 1
 (.seq
 (.region 7 true [
 ⟨(some 26), .load true 2 (.t 6), none, 57344, []⟩,
 ⟨(some 27), .faddr 0 (.t 6), none, 57352, []⟩,
 ⟨(some 28), .load false 1 (.t 27), none, 57360, [1]⟩,
 ⟨(some 29), .copy (.t 1), none, 57368, []⟩,
 ⟨(some 30), .conv .i64 (.t 29), none, 57376, [3]⟩,
 ⟨(some 31), .faddr 0 (.t 6), none, 57384, []⟩,
 ⟨(some 32), .load false 1 (.t 31), none, 57392, [5]⟩,
 ⟨(some 33), .len (.t 32), none, 57400, [6, 5]⟩,
 ⟨(some 34), .bin .rem (.t 30) (.t 33), none, 57408, [4, 3, 7, 6, 5]⟩,
 ⟨(some 35), .iaddr 5 (.t 28) (.t 34), none, 57416, [2, 1, 8, 4, 3, 7, 6, 5]⟩,
 ⟨(some 36), .load true 5 (.t 35), none, 57424, [9, 2, 1, 8, 4, 3, 7, 6, 5]⟩,
 ⟨(some 37), .call (.c (.fn 13 [])) [(.t 26), (.t 36)], none, 57432, [0, 10, 9, 2, 1, 8, 4, 3, 7, 6, 5]⟩,
 ⟨(some 9), .alloc [.nils, .nils, .nils, (.int .i64 0)], none, 57440, []⟩,
 ⟨none, .store 4 (.t 9) (.t 37), none, 57448, [12, 11, 0, 10, 9, 2, 1, 8, 4, 3, 7, 6, 5]⟩])
 (.seq
 (.seq
 (.region 8 false [
 ⟨(some 38), .faddr 3 (.t 9), none, 65536, []⟩,
 ⟨(some 39), .load false 1 (.t 38), none, 65544, [0]⟩,
 ⟨(some 40), .bin .neq (.t 39) (.c (.int .i64 0)), none, 65552, [1, 0]⟩,
 ⟨(some 41), .copy (.t 40), none, 65560, [2, 1, 0]⟩,
 ⟨(some 42), .faddr 0 (.t 9), (some (3, 41, false)), 65568, [3, 2, 1, 0]⟩,
 ⟨(some 43), .faddr 0 (.t 42), (some (3, 41, false)), 65576, [4, 3, 2, 1, 0]⟩,
 ⟨(some 44), .load false 1 (.t 43), (some (3, 41, false)), 65584, [5, 4, 3, 2, 1, 0]⟩,
 ⟨(some 45), .len (.t 44), (some (3, 41, false)), 65592, [6, 5, 4, 3, 2, 1, 0]⟩,
 ⟨(some 46), .faddr 0 (.t 9), (some (3, 41, false)), 65600, [3, 2, 1, 0]⟩,
 ⟨(some 47), .faddr 1 (.t 46), (some (3, 41, false)), 65608, [8, 3, 2, 1, 0]⟩,
 ⟨(some 48), .load false 1 (.t 47), (some (3, 41, false)), 65616, [9, 8, 3, 2, 1, 0]⟩,
 ⟨(some 49), .len (.t 48), (some (3, 41, false)), 65624, [10, 9, 8, 3, 2, 1, 0]⟩,
 ⟨(some 50), .bin .add (.t 45) (.t 49), (some (3, 41, false)), 65632, [7, 6, 5, 4, 3, 2, 1, 0, 11, 10, 9, 8]⟩,
 ⟨(some 51), .faddr 0 (.t 6), (some (3, 41, false)), 65640, [3, 2, 1, 0]⟩,
 ⟨(some 52), .load false 1 (.t 51), (some (3, 41, false)), 65648, [13, 3, 2, 1, 0]⟩,
 ⟨(some 53), .len (.t 52), (some (3, 41, false)), 65656, [14, 13, 3, 2, 1, 0]⟩,
 ⟨(some 54), .faddr 1 (.t 6), (some (3, 41, false)), 65664, [3, 2, 1, 0]⟩,
 ⟨(some 55), .load false 1 (.t 54), (some (3, 41, false)), 65672, [16, 3, 2, 1, 0]⟩,
 ⟨(some 56), .len (.t 55), (some (3, 41, false)), 65680, [17, 16, 3, 2, 1, 0]⟩,
 ⟨(some 57), .bin .add (.t 53) (.t 56), (some (3, 41, false)), 65688, [15, 14, 13, 3, 2, 1, 0, 18, 17, 16]⟩,
 ⟨(some 58), .bin .sub (.t 57) (.c (.int .i64 1)), (some (3, 41, false)), 65696, [19, 15, 14, 13, 3, 2, 1, 0, 18, 17, 16]⟩,
 ⟨(some 59), .bin .neq (.t 50) (.t 58), (some (3, 41, false)), 65704, [12, 7, 6, 5, 4, 3, 2, 1, 0, 11, 10, 9, 8, 20, 19, 15, 14, 13, 18, 17, 16]⟩,
 ⟨(some 60), .pick (.t 41) (.c (.bool true)) (.t 59), none, 65712, [3, 2, 1, 0, 21, 12, 7, 6, 5, 4, 11, 10, 9, 8, 20, 19, 15, 14, 13, 18, 17, 16]⟩])
 (.cond (.t 60)
 (.seq
 (.region 9 false [
 ⟨(some 4), .copy (.c (.bool false)), none, 73728, []⟩])
 .ret)
 .skip))
 (.seq
 (.region 10 false [
 ⟨(some 61), .copy (.t 7), none, 81920, []⟩,
 ⟨(some 62), .faddr 2 (.t 9), none, 81928, []⟩,
 ⟨(some 63), .load false 1 (.t 62), none, 81936, [1]⟩,
 ⟨(some 64), .len (.t 63), none, 81944, [2, 1]⟩,
 ⟨(some 65), .bin .sub (.t 61) (.t 64), none, 81952, [0, 3, 2, 1]⟩,
 ⟨(some 7), .copy (.t 65), none, 81960, [4, 0, 3, 2, 1]⟩])
 (.region 11 false [
 ⟨(some 66), .faddr 0 (.t 9), none, 90112, []⟩,
 ⟨(some 67), .load true 2 (.t 66), none, 90120, [0]⟩,
 ⟨none, .store 2 (.t 6) (.t 67), none, 90128, [1, 0]⟩])))))
 (.region 6 false [
 ⟨(some 24), .copy (.t 8), none, 49152, []⟩,
 ⟨(some 25), .bin .add (.t 24) (.c (.int .i64 1)), none, 49160, [0]⟩,
 ⟨(some 8), .copy (.t 25), none, 49168, [1, 0]⟩]))))))
 (.seq
 (.region 12 false [
 ⟨(some 68), .copy (.t 7), none, 98304, []⟩,
 ⟨(some 69), .bin .eql (.t 68) (.c (.int .i64 0)), none, 98312, [0]⟩,
 ⟨(some 70), .copy (.t 69), none, 98320, [1, 0]⟩,
 ⟨(some 71), .faddr 0 (.t 6), (some (2, 70, true)), 98328, [2, 1, 0]⟩,
 ⟨(some 72), .load false 1 (.t 71), (some (2, 70, true)), 98336, [3, 2, 1, 0]⟩,
 ⟨(some 73), .len (.t 72), (some (2, 70, true)), 98344, [4, 3, 2, 1, 0]⟩,
 ⟨(some 74), .bin .eql (.t 73) (.c (.int .i64 0)), (some (2, 70, true)), 98352, [5, 4, 3, 2, 1, 0]⟩,
 ⟨(some 75), .pick (.t 70) (.t 74) (.c (.bool false)), none, 98360, [2, 1, 0, 6, 5, 4, 3]⟩,
 ⟨(some 76), .copy (.t 75), none, 98368, [7, 2, 1, 0, 6, 5, 4, 3]⟩,
 ⟨(some 77), .faddr 1 (.t 6), (some (8, 76, true)), 98376, [8, 7, 2, 1, 0, 6, 5, 4, 3]⟩,
 ⟨(some 78), .load false 1 (.t 77), (some (8, 76, true)), 98384, [9, 8, 7, 2, 1, 0, 6, 5, 4, 3]⟩,
 ⟨(some 79), .len (.t 78), (some (8, 76, true)), 98392, [10, 9, 8, 7, 2, 1, 0, 6, 5, 4, 3]⟩,
 ⟨(some 80), .bin .eql (.t 79) (.c (.int .i64 0)), (some (8, 76, true)), 98400, [11, 10, 9, 8, 7, 2, 1, 0, 6, 5, 4, 3]⟩,
 ⟨(some 81), .pick (.t 76) (.t 80) (.c (.bool false)), none, 98408, [8, 7, 2, 1, 0, 6, 5, 4, 3, 12, 11, 10, 9]⟩,
 ⟨(some 82), .copy (.t 81), none, 98416, [13, 8, 7, 2, 1, 0, 6, 5, 4, 3, 12, 11, 10, 9]⟩,
 ⟨(some 83), .copy (.t 5), (some (14, 82, true)), 98424, [14, 13, 8, 7, 2, 1, 0, 6, 5, 4, 3, 12, 11, 10, 9]⟩,
 ⟨(some 84), .pick (.t 82) (.t 83) (.c (.bool false)), none, 98432, [14, 13, 8, 7, 2, 1, 0, 6, 5, 4, 3, 12, 11, 10, 9, 15]⟩,
 ⟨(some 4), .copy (.t 84), none, 98440, [16, 14, 13, 8, 7, 2, 1, 0, 6, 5, 4, 3, 12, 11, 10, 9, 15]⟩])
 .ret))))))
theorem vf3 : VF Try.prog 3 = some (85, vc3, [.tmp 4]) := by kernel_rfl
set_option maxHeartbeats 4000000 in
theorem ends_law_vc {rs : List RawL} (hl : rs.length ≤ 9223372036854775807) (hr : ∀ r ∈ rs, r.ok) {w : Nat} (hw : w < 256) : VC Try.prog 3 [.sh false (rs.map encR), .int .u8 w] [] (.bool true) [] := by
  have hp := play_vc hl hr 14 (by omega)
  have hS := play_scr (rs.take 14)
  have hn : (playL (rs.take 14)).held.length + (playL (rs.take 14)).waits.length ≤ 14 := Nat.le_trans hS.n (by rw [List.length_take]; omega)
  have hs := hS.s
  generalize playL (rs.take 14) = s at hp hn hs
  have hss := sanity_vc
  have w1 : IntKind.i64.wrap (w : Int) = (w : Int) := wrap64 (by omega) (by omega)
  refine vc_of vf3 ?_ (Nat.le_of_ble_eq_true rfl) (by intro vs h; cases h)
  repeat first | refine o_copy ?_ | refine nl ?_ | refine ct_seq ?_ | refine rg ?_ | refine ct_block ?_ | refine bq ?_ | refine cv0 hss ?_ | refine cf hp ?_ | refine o_loads ?_ | refine o_loadp ?_ | refine o_faddr ?_ | refine o_iaddr ?_ | refine o_iaddrO ?_ | refine o_iaddrR ?_ | refine o_add ?_ | refine o_sub ?_ | refine o_cat ?_ | refine o_bin ?_ | refine o_lenq ?_ | refine o_len ?_ | refine o_loadsA ?_ | refine o_loadpA ?_ | refine o_alloc ?_ | refine o_store ?_ | refine o_pickt ?_ | refine o_pickf ?_ | refine skF ?_ | refine skU ?_
  refine ct_loopG (fun (g : Nat × LocksL × Int) => [(1, .int .u8 w), (5, .bool true), (6, .ptr ⟨1, 16400⟩ 1 0 0), (7, .int .i64 g.2.2), (8, .int .i64 g.1)]) (fun g => [(⟨1, 16400⟩, ⟨true, false, 2, [encLs g.2.1]⟩)]) (fun g => 14 - g.1)
    (fun g => SoundP g.2.1 ∧ g.1 + (g.2.1.held.length + g.2.1.waits.length) ≤ 14 ∧ g.2.2 = g.2.1.waits.length) (0, s, ((s.waits.map encL).length : Int)) goesD ⟨hs, by simpa using hn, by simp⟩ ?_
  rintro ⟨n, S, wt⟩ ⟨hP, hN, hwt⟩
  dsimp only at hP hN hwt ⊢
  have hRt := hP.toSoundW.right
  have hb1 : (S.held.map encL).length ≤ 14 := by rw [List.length_map]; omega
  have hb2 : (S.waits.map encL).length ≤ 14 := by rw [List.length_map]; omega
  have g1 : decide ((n : Int) < 33) = true := by simp; omega
  by_cases hA : 0 < S.held.length
  · have g2 : decide (((S.held.map encL).length : Int) > 0) = true := by rw [List.length_map]; simp; omega
    have hml : w % S.held.length < S.held.length := Nat.mod_lt _ hA
    obtain ⟨x, hxx⟩ : ∃ x, S.held[w % S.held.length]? = some x := ⟨_, List.getElem?_eq_getElem hml⟩
    have hye := gm (enc := encL) (n := ((w % S.held.length : Nat) : Int)) hxx (Int.toNat_natCast _)
    have m2 : Int.tmod (w : Int) ((S.held.map encL).length : Nat) = ((w % S.held.length : Nat) : Int) := by rw [List.length_map]; exact tm _ _
    have m3 : ((S.held.map encL).length : Int) ≠ 0 := by rw [List.length_map]; omega
    have m4 : ((w % S.held.length : Nat) : Int) < ((S.held.map encL).length : Nat) := by rw [List.length_map]; omega
    have hd := hdrop_vc (l := S) (by omega) x
    rw [show dropG pmt S x = dropG rmt S x from drop_eq hRt x] at hd
    obtain ⟨e1, e2, e3, e4⟩ := ends_step hP (List.mem_of_getElem? hxx)
    generalize dropG rmt S x = G at hd e1 e2 e3 e4
    obtain ⟨⟨gh, gw⟩, gg, ge⟩ := G
    dsimp only at e1 e2 e3 e4
    subst e1
    dsimp only [encGr, encG] at hd
    have hb3 : (gh.map encL).length ≤ 14 := by rw [List.length_map]; omega
    have hb4 : (gw.map encL).length ≤ 14 := by rw [List.length_map]; omega
    have hb5 : (gg.map encL).length ≤ 14 := by rw [List.length_map]; omega
    have q1 : n + 1 + (gh.length + gw.length) ≤ 14 := by omega
    have q2 : wt - ((gg.map encL).length : Int) = (gw.length : Int) := by rw [List.length_map]; omega
    have g3 : (!((gh.map encL).length : Int) + ((gw.map encL).length : Int) == ((S.held.map encL).length : Int) + ((S.waits.map encL).length : Int) - 1) = false := by simp; omega
    repeat first | refine o_copy ?_ | refine nl ?_ | refine ct_seq ?_ | refine rg ?_ | refine ct_block ?_ | refine bq ?_ | refine o_loads ?_ | refine o_loadp ?_ | refine o_faddr ?_ | refine o_iaddr ?_ | refine o_iaddrO ?_ | refine o_iaddrR ?_ | refine o_add ?_ | refine o_sub ?_ | refine o_cat ?_ | refine o_bin ?_ | refine o_lenq ?_ | refine o_len ?_ | refine o_loadsA ?_ | refine o_loadpA ?_ | refine o_alloc ?_ | refine o_store ?_ | refine o_pickt ?_ | refine o_pickf ?_ | refine skF ?_ | refine skU ?_
    refine cndt (ct_skip ?_)
    repeat first | refine o_copy ?_ | refine nl ?_ | refine ct_seq ?_ | refine rg ?_ | refine ct_block ?_ | refine bq ?_ | refine o_convE ?_ | refine o_rem ?_ | refine cf hd ?_ | refine o_loads ?_ | refine o_loadp ?_ | refine o_faddr ?_ | refine o_iaddr ?_ | refine o_iaddrO ?_ | refine o_iaddrR ?_ | refine o_add ?_ | refine o_sub ?_ | refine o_cat ?_ | refine o_bin ?_ | refine o_lenq ?_ | refine o_len ?_ | refine o_loadsA ?_ | refine o_loadpA ?_ | refine o_alloc ?_ | refine o_store ?_ | refine o_pickt ?_ | refine o_pickf ?_ | refine skF ?_ | refine skU ?_
    refine cndf (ct_skip ?_)
    repeat first | refine o_copy ?_ | refine nl ?_ | refine ct_seq ?_ | refine rg ?_ | refine ct_block ?_ | refine bq ?_ | refine o_loads ?_ | refine o_loadp ?_ | refine o_faddr ?_ | refine o_iaddr ?_ | refine o_iaddrO ?_ | refine o_iaddrR ?_ | refine o_add ?_ | refine o_sub ?_ | refine o_cat ?_ | refine o_bin ?_ | refine o_lenq ?_ | refine o_len ?_ | refine o_loadsA ?_ | refine o_loadpA ?_ | refine o_alloc ?_ | refine o_store ?_ | refine o_pickt ?_ | refine o_pickf ?_ | refine skF ?_ | refine skU ?_
    exact agn (Q := fun _ _ => True) (n + 1, ⟨gh, gw⟩, wt - ((gg.map encL).length : Int)) ⟨e4, q1, q2⟩ goesD (by (show 14 - (n + 1) < 14 - n); omega)
  · have g2 : decide (((S.held.map encL).length : Int) > 0) = false := decide_eq_false (by rw [List.length_map]; omega)
    have e1 : S.held = [] := List.length_eq_zero_iff.1 (by omega)
    have e2 := ends_none hP e1
    have g3 : (((S.held.map encL).length : Int) == 0) = true := by rw [e1]; rfl
    have g4 : (((S.waits.map encL).length : Int) == 0) = true := by rw [e2]; rfl
    have g5 : (wt == 0) = true := by rw [hwt, e2]; rfl
    repeat first | refine o_copy ?_ | refine nl ?_ | refine ct_seq ?_ | refine rg ?_ | refine ct_block ?_ | refine bq ?_ | refine o_loads ?_ | refine o_loadp ?_ | refine o_faddr ?_ | refine o_iaddr ?_ | refine o_iaddrO ?_ | refine o_iaddrR ?_ | refine o_add ?_ | refine o_sub ?_ | refine o_cat ?_ | refine o_bin ?_ | refine o_lenq ?_ | refine o_len ?_ | refine o_loadsA ?_ | refine o_loadpA ?_ | refine o_alloc ?_ | refine o_store ?_ | refine o_pickt ?_ | refine o_pickf ?_ | refine skF ?_ | refine skU ?_
    refine cndf (ct_exit ?_)
    repeat first | refine o_copy ?_ | refine nl ?_ | refine ct_seq ?_ | refine rg ?_ | refine ct_block ?_ | refine bq ?_ | refine o_loads ?_ | refine o_loadp ?_ | refine o_faddr ?_ | refine o_iaddr ?_ | refine o_iaddrO ?_ | refine o_iaddrR ?_ | refine o_add ?_ | refine o_sub ?_ | refine o_cat ?_ | refine o_bin ?_ | refine o_lenq ?_ | refine o_len ?_ | refine o_loadsA ?_ | refine o_loadpA ?_ | refine o_alloc ?_ | refine o_store ?_ | refine o_pickt ?_ | refine o_pickf ?_ | refine skF ?_ | refine skU ?_
    refine ct_ret ⟨.inr rfl, oB ?_⟩
    simp
theorem lockEnds_in (l : List (List PV)) (il : InTy (.sl [.int .u8, .int .u8, .int .u8, .int .u8, .int .u8]) (.sh false l)) (b : Int) (hb : (Lit.int .u8 b).wf = true) : VC Try.prog 3 [.sh false l, .int .u8 b] [] (.bool true) [] := by
  obtain ⟨rs, rfl, h1, h2⟩ := decRs il
  obtain ⟨n, rfl, hn⟩ := wfU8 hb
  exact ends_law_vc h2 h1 hn
end Go.Proofs
