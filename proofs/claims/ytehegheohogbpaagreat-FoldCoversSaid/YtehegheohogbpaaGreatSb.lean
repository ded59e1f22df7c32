/- Sb -/
import Derived.Test.YtehegheohogbpaaGreatSa
import Derived.Test.YtehegheohogbpaaGreatPu
open Go.V Go.Pu
open Go.V renaming xA4 → zA, nl → zB, xAQ → zC, rg → zD, xAK → zE, bq → zF, xBD → zL, xBE → zM, xA2 → zO, xAo → zP, xAn → zQ, xCp → zT, xEX → zU, o_mul → zV, xCo → zW, xBt → zX, xAl → za, xAm → zb, xCF → zd, xA7 → zg, xDX → zm, xKU → zq
set_option linter.unusedVariables false
set_option linter.unusedSimpArgs false
set_option maxRecDepth 20000
namespace Go.Proofs
def vc80 : VCode :=
 (.seq
 (.region 0 false [
 .e 13 (.copy (.t 2)) 0,
 .e 14 (.copy (.t 1)) 8,
 .e 15 (.bin .sub (.t 13) (.t 14)) 16,
 .e 8 (.copy (.t 15)) 24])
 (.seq
 (.region 1 false [
 .e 16 (.copy (.t 8)) 8192,
 .e 17 (.bin .geq (.t 16) (.c (.int .i64 8))) 8200])
 (.cond (.t 17)
 (.seq
 (.region 2 false [
 .e 18 (.copy (.t 8)) 16384,
 .e 19 (.conv .u64 (.t 18)) 16392,
 .e 9 (.alloc [(.int .u64 0)]) 16400,
 .h (.store 1 (.t 9) (.t 19)) 16408 []])
 (.seq
 (.region 3 false [
 .e 20 (.copy (.t 8)) 24576,
 .e 21 (.call (.c (.fn 91 [])) [(.t 20)]) 24584,
 .e 10 (.copy (.t 21)) 24592])
 (.seq
 (.region 4 false [
 .e 22 (.copy (.t 1)) 32768,
 .e 23 (.copy (.t 8)) 32776,
 .e 24 (.bin .quo (.t 23) (.c (.int .i64 4))) 32784,
 .e 25 (.bin .mul (.t 24) (.c (.int .i64 2))) 32792,
 .e 26 (.bin .add (.t 22) (.t 25)) 32800,
 .e 27 (.bin .sub (.t 26) (.c (.int .i64 1))) 32808,
 .e 11 (.copy (.t 27)) 32816])
 (.block 0
 (.loop
 (.seq
 (.seq
 (.region 5 false [
 .e 28 (.copy (.t 11)) 40960,
 .e 29 (.copy (.t 1)) 40968,
 .e 30 (.copy (.t 8)) 40976,
 .e 31 (.bin .quo (.t 30) (.c (.int .i64 4))) 40984,
 .e 32 (.bin .mul (.t 31) (.c (.int .i64 2))) 40992,
 .e 33 (.bin .add (.t 29) (.t 32)) 41000,
 .e 34 (.bin .add (.t 33) (.c (.int .i64 1))) 41008,
 .e 35 (.bin .leq (.t 28) (.t 34)) 41016])
 (.cond (.t 35)
 .skip
 (.exit 0)))
 (.seq
 (.block 1
 (.seq
 (.region 7 false [
 .e 38 (.call (.c (.fn 92 [])) [(.t 9)]) 57344,
 .e 39 (.copy (.t 10)) 57352,
 .e 40 (.bin .sub (.t 39) (.c (.int .u64 1))) 57360,
 .e 41 (.bin .and (.t 38) (.t 40)) 57368,
 .e 42 (.conv .i64 (.t 41)) 57376,
 .e 12 (.copy (.t 42)) 57384])
 (.seq
 (.seq
 (.region 8 false [
 .e 43 (.copy (.t 12)) 65536,
 .e 44 (.copy (.t 8)) 65544,
 .e 45 (.bin .geq (.t 43) (.t 44)) 65552])
 (.cond (.t 45)
 (.region 9 false [
 .e 46 (.copy (.t 12)) 73728,
 .e 47 (.copy (.t 8)) 73736,
 .e 48 (.bin .sub (.t 46) (.t 47)) 73744,
 .e 12 (.copy (.t 48)) 73752])
 .skip))
 (.region 10 true [
 .e 49 (.copy (.t 0)) 81920,
 .e 50 (.copy (.t 11)) 81928,
 .e 51 (.copy (.t 0)) 81936,
 .e 52 (.copy (.t 1)) 81944,
 .e 53 (.copy (.t 12)) 81952,
 .f 54 (.bin .add (.t 52) (.t 53)) 81960 [3, 4],
 .e 55 (.copy (.t 0)) 81968,
 .e 56 (.copy (.t 1)) 81976,
 .e 57 (.copy (.t 12)) 81984,
 .f 58 (.bin .add (.t 56) (.t 57)) 81992 [7, 8],
 .f 59 (.iaddr 2 (.t 55) (.t 58)) 82000 [6, 9, 7, 8],
 .f 60 (.load true 2 (.t 59)) 82008 [10, 6, 9, 7, 8],
 .e 61 (.copy (.t 0)) 82016,
 .e 62 (.copy (.t 11)) 82024,
 .f 63 (.iaddr 2 (.t 61) (.t 62)) 82032 [12, 13],
 .f 64 (.load true 2 (.t 63)) 82040 [14, 12, 13],
 .f 65 (.iaddr 2 (.t 49) (.t 50)) 82048 [0, 1, 6, 7, 8, 9, 10, 11, 15, 14, 12, 13],
 .h (.store 2 (.t 65) (.t 60)) 82056 [16, 0, 1, 6, 7, 8, 9, 10, 11, 15, 14, 12, 13],
 .f 66 (.iaddr 2 (.t 51) (.t 54)) 82064 [2, 5, 3, 4, 0, 1, 6, 7, 8, 9, 10, 11, 12, 13, 14, 15, 16, 17],
 .h (.store 2 (.t 66) (.t 64)) 82072 [18, 2, 5, 3, 4, 0, 1, 6, 7, 8, 9, 10, 11, 12, 13, 14, 15, 16, 17]]))))
 (.region 6 false [
 .e 36 (.copy (.t 11)) 49152,
 .e 37 (.bin .add (.t 36) (.c (.int .i64 1))) 49160,
 .e 11 (.copy (.t 37)) 49168]))))))))
 .skip)))
theorem vf80 : VF Tryz.prog 80 = some (67, vc80, []) := by kernel_rfl
def vc96 : VCode :=
 (.seq
 (.region 0 false [
 .e 10 (.copy (.c (.int .i64 0))) 0,
 .e 11 (.copy (.c (.int .i64 0))) 8])
 (.seq
 (.seq
 (.region 1 true [
 .e 12 (.copy (.t 4)) 8192,
 .e 13 (.copy (.t 0)) 8200,
 .e 14 (.copy (.t 2)) 8208,
 .f 15 (.iaddr 2 (.t 13) (.t 14)) 8216 [1, 2],
 .f 16 (.load true 2 (.t 15)) 8224 [3, 1, 2],
 .e 17 (.copy (.t 0)) 8232,
 .e 18 (.copy (.t 1)) 8240,
 .f 19 (.iaddr 2 (.t 17) (.t 18)) 8248 [5, 6],
 .f 20 (.load true 2 (.t 19)) 8256 [7, 5, 6],
 .f 21 (.call (.t 12) [(.t 16), (.t 20)]) 8264 [0, 4, 3, 1, 2, 8, 7, 5, 6],
 .f 22 (.bin .lss (.t 21) (.c (.int .i64 0))) 8272 [9, 0, 4, 3, 1, 2, 8, 7, 5, 6]])
 (.cond (.t 22)
 (.seq
 (.region 2 false [
 .e 23 (.copy (.t 3)) 16384,
 .e 24 (.nilc (.t 23)) 16392,
 .e 25 (.load false 1 (.t 24)) 16400,
 .e 26 (.bin .add (.t 25) (.c (.int .i64 1))) 16408,
 .e 27 (.nilc (.t 23)) 16416,
 .h (.store 1 (.t 27) (.t 26)) 16424 []])
 (.seq
 (.region 3 false [
 .e 28 (.copy (.t 2)) 24576,
 .e 29 (.copy (.t 1)) 24584,
 .e 10 (.copy (.t 28)) 24592,
 .e 11 (.copy (.t 29)) 24600])
 .ret))
 .skip))
 (.seq
 (.region 4 false [
 .e 30 (.copy (.t 1)) 32768,
 .e 31 (.copy (.t 2)) 32776,
 .e 10 (.copy (.t 30)) 32784,
 .e 11 (.copy (.t 31)) 32792])
 .ret)))
theorem vf96 : VF Tryz.prog 96 = some (32, vc96, [.tmp 10, .tmp 11]) := by kernel_rfl
def vc94 : VCode :=
 (.seq
 (.region 0 false [
 .e 12 (.copy (.c (.int .i64 0))) 0])
 (.seq
 (.region 1 false [
 .e 14 (.copy (.t 0)) 8192,
 .e 15 (.copy (.t 1)) 8200,
 .e 16 (.copy (.t 2)) 8208,
 .e 17 (.copy (.t 4)) 8216,
 .e 18 (.copy (.t 5)) 8224,
 .e 19 (.call (.c (.fn 96 [])) [(.t 14), (.t 15), (.t 16), (.t 17), (.t 18)]) 8232,
 .e 13 (.copy (.t 19)) 8240,
 .e 20 (.extract (.t 13) 0) 8248,
 .e 21 (.extract (.t 13) 1) 8256,
 .e 1 (.copy (.t 20)) 8264,
 .e 2 (.copy (.t 21)) 8272])
 (.seq
 (.region 2 false [
 .e 23 (.copy (.t 0)) 16384,
 .e 24 (.copy (.t 2)) 16392,
 .e 25 (.copy (.t 3)) 16400,
 .e 26 (.copy (.t 4)) 16408,
 .e 27 (.copy (.t 5)) 16416,
 .e 28 (.call (.c (.fn 96 [])) [(.t 23), (.t 24), (.t 25), (.t 26), (.t 27)]) 16424,
 .e 22 (.copy (.t 28)) 16432,
 .e 29 (.extract (.t 22) 0) 16440,
 .e 30 (.extract (.t 22) 1) 16448,
 .e 2 (.copy (.t 29)) 16456,
 .e 3 (.copy (.t 30)) 16464])
 (.seq
 (.region 3 false [
 .e 32 (.copy (.t 0)) 24576,
 .e 33 (.copy (.t 1)) 24584,
 .e 34 (.copy (.t 2)) 24592,
 .e 35 (.copy (.t 4)) 24600,
 .e 36 (.copy (.t 5)) 24608,
 .e 37 (.call (.c (.fn 96 [])) [(.t 32), (.t 33), (.t 34), (.t 35), (.t 36)]) 24616,
 .e 31 (.copy (.t 37)) 24624,
 .e 38 (.extract (.t 31) 0) 24632,
 .e 39 (.extract (.t 31) 1) 24640,
 .e 1 (.copy (.t 38)) 24648,
 .e 2 (.copy (.t 39)) 24656])
 (.seq
 (.region 4 false [
 .e 40 (.copy (.t 2)) 32768,
 .e 12 (.copy (.t 40)) 32776])
 .ret)))))
theorem vf94 : VF Tryz.prog 94 = some (41, vc94, [.tmp 12]) := by kernel_rfl
def vc93 : VCode :=
 (.seq
 (.region 0 false [
 .e 8 (.copy (.c (.int .i64 0))) 0])
 (.seq
 (.region 1 false [
 .e 9 (.copy (.t 0)) 8192,
 .e 10 (.copy (.t 1)) 8200,
 .e 11 (.bin .sub (.t 10) (.c (.int .i64 1))) 8208,
 .e 12 (.copy (.t 1)) 8216,
 .e 13 (.copy (.t 1)) 8224,
 .e 14 (.bin .add (.t 13) (.c (.int .i64 1))) 8232,
 .e 15 (.copy (.t 2)) 8240,
 .e 16 (.copy (.t 3)) 8248,
 .e 17 (.call (.c (.fn 94 [])) [(.t 9), (.t 11), (.t 12), (.t 14), (.t 15), (.t 16)]) 8256,
 .e 8 (.copy (.t 17)) 8264])
 .ret))
theorem vf93 : VF Tryz.prog 93 = some (18, vc93, [.tmp 8]) := by kernel_rfl
def vc81 : VCode :=
 (.seq
 (.region 0 false [
 .e 8 (.copy (.c (.int .i64 0))) 0,
 .e 9 (.copy (.c (.int .i64 0))) 8])
 (.seq
 (.region 1 false [
 .e 15 (.copy (.t 2)) 8192,
 .e 16 (.copy (.t 1)) 8200,
 .e 17 (.bin .sub (.t 15) (.t 16)) 8208,
 .e 10 (.copy (.t 17)) 8216])
 (.seq
 (.region 2 false [
 .e 11 (.alloc [(.int .i64 0)]) 16384])
 (.seq
 (.region 3 false [
 .e 18 (.copy (.t 1)) 24576,
 .e 19 (.copy (.t 10)) 24584,
 .e 20 (.bin .quo (.t 19) (.c (.int .i64 4))) 24592,
 .e 21 (.bin .mul (.t 20) (.c (.int .i64 1))) 24600,
 .e 22 (.bin .add (.t 18) (.t 21)) 24608,
 .e 12 (.copy (.t 22)) 24616])
 (.seq
 (.region 4 false [
 .e 23 (.copy (.t 1)) 32768,
 .e 24 (.copy (.t 10)) 32776,
 .e 25 (.bin .quo (.t 24) (.c (.int .i64 4))) 32784,
 .e 26 (.bin .mul (.t 25) (.c (.int .i64 2))) 32792,
 .e 27 (.bin .add (.t 23) (.t 26)) 32800,
 .e 13 (.copy (.t 27)) 32808])
 (.seq
 (.region 5 false [
 .e 28 (.copy (.t 1)) 40960,
 .e 29 (.copy (.t 10)) 40968,
 .e 30 (.bin .quo (.t 29) (.c (.int .i64 4))) 40976,
 .e 31 (.bin .mul (.t 30) (.c (.int .i64 3))) 40984,
 .e 32 (.bin .add (.t 28) (.t 31)) 40992,
 .e 14 (.copy (.t 32)) 41000])
 (.seq
 (.seq
 (.region 6 false [
 .e 33 (.copy (.t 10)) 49152,
 .e 34 (.bin .geq (.t 33) (.c (.int .i64 8))) 49160])
 (.cond (.t 34)
 (.seq
 (.seq
 (.region 7 false [
 .e 35 (.copy (.t 10)) 57344,
 .e 36 (.bin .geq (.t 35) (.c (.int .i64 50))) 57352])
 (.cond (.t 36)
 (.seq
 (.region 8 false [
 .e 37 (.copy (.t 0)) 65536,
 .e 38 (.copy (.t 12)) 65544,
 .e 39 (.copy (.t 3)) 65552,
 .e 40 (.call (.c (.fn 93 [])) [(.t 37), (.t 38), (.t 11), (.t 39)]) 65560,
 .e 12 (.copy (.t 40)) 65568])
 (.seq
 (.region 9 false [
 .e 41 (.copy (.t 0)) 73728,
 .e 42 (.copy (.t 13)) 73736,
 .e 43 (.copy (.t 3)) 73744,
 .e 44 (.call (.c (.fn 93 [])) [(.t 41), (.t 42), (.t 11), (.t 43)]) 73752,
 .e 13 (.copy (.t 44)) 73760])
 (.region 10 false [
 .e 45 (.copy (.t 0)) 81920,
 .e 46 (.copy (.t 14)) 81928,
 .e 47 (.copy (.t 3)) 81936,
 .e 48 (.call (.c (.fn 93 [])) [(.t 45), (.t 46), (.t 11), (.t 47)]) 81944,
 .e 14 (.copy (.t 48)) 81952])))
 .skip))
 (.region 11 false [
 .e 49 (.copy (.t 0)) 90112,
 .e 50 (.copy (.t 12)) 90120,
 .e 51 (.copy (.t 13)) 90128,
 .e 52 (.copy (.t 14)) 90136,
 .e 53 (.copy (.t 3)) 90144,
 .e 54 (.call (.c (.fn 94 [])) [(.t 49), (.t 50), (.t 51), (.t 52), (.t 11), (.t 53)]) 90152,
 .e 13 (.copy (.t 54)) 90160]))
 .skip))
 (.seq
 (.region 12 false [
 .e 55 (.load false 1 (.t 11)) 98304])
 (.block 0
 (.seq
 (.region 14 false [
 .e 58 (.bin .eql (.t 55) (.c (.int .i64 0))) 114688,
 .e 57 (.copy (.t 58)) 114696])
 (.cond (.t 57)
 (.seq
 (.region 15 false [
 .e 59 (.copy (.t 13)) 122880,
 .e 8 (.copy (.t 59)) 122888,
 .e 9 (.copy (.c (.int .i64 1))) 122896])
 .ret)
 (.seq
 (.region 16 false [
 .e 61 (.bin .eql (.t 55) (.c (.int .i64 12))) 131072,
 .e 60 (.copy (.t 61)) 131080])
 (.cond (.t 60)
 (.seq
 (.region 17 false [
 .e 62 (.copy (.t 13)) 139264,
 .e 8 (.copy (.t 62)) 139272,
 .e 9 (.copy (.c (.int .i64 2))) 139280])
 .ret)
 (.seq
 (.region 13 false [
 .e 56 (.copy (.t 13)) 106496,
 .e 8 (.copy (.t 56)) 106504,
 .e 9 (.copy (.c (.int .i64 0))) 106512])
 .ret))))))))))))))
theorem vf81 : VF Tryz.prog 81 = some (63, vc81, [.tmp 8, .tmp 9]) := by kernel_rfl
def vc82 : VCode :=
 (.seq
 (.region 0 false [
 .e 10 (.copy (.t 1)) 0,
 .e 8 (.copy (.t 10)) 8])
 (.seq
 (.region 1 false [
 .e 11 (.copy (.t 2)) 8192,
 .e 12 (.bin .sub (.t 11) (.c (.int .i64 1))) 8200,
 .e 9 (.copy (.t 12)) 8208])
 (.block 0
 (.loop
 (.seq
 (.seq
 (.region 2 false [
 .e 13 (.copy (.t 8)) 16384,
 .e 14 (.copy (.t 9)) 16392,
 .e 15 (.bin .lss (.t 13) (.t 14)) 16400])
 (.cond (.t 15)
 .skip
 (.exit 0)))
 (.block 1
 (.seq
 (.region 3 true [
 .e 16 (.copy (.t 0)) 24576,
 .e 17 (.copy (.t 8)) 24584,
 .e 18 (.copy (.t 0)) 24592,
 .e 19 (.copy (.t 9)) 24600,
 .e 20 (.copy (.t 0)) 24608,
 .e 21 (.copy (.t 9)) 24616,
 .f 22 (.iaddr 2 (.t 20) (.t 21)) 24624 [4, 5],
 .f 23 (.load true 2 (.t 22)) 24632 [6, 4, 5],
 .e 24 (.copy (.t 0)) 24640,
 .e 25 (.copy (.t 8)) 24648,
 .f 26 (.iaddr 2 (.t 24) (.t 25)) 24656 [8, 9],
 .f 27 (.load true 2 (.t 26)) 24664 [10, 8, 9],
 .f 28 (.iaddr 2 (.t 16) (.t 17)) 24672 [0, 1, 4, 5, 6, 7, 11, 10, 8, 9],
 .h (.store 2 (.t 28) (.t 23)) 24680 [12, 0, 1, 4, 5, 6, 7, 11, 10, 8, 9],
 .f 29 (.iaddr 2 (.t 18) (.t 19)) 24688 [2, 3, 0, 1, 4, 5, 6, 7, 8, 9, 10, 11, 12, 13],
 .h (.store 2 (.t 29) (.t 27)) 24696 [14, 2, 3, 0, 1, 4, 5, 6, 7, 8, 9, 10, 11, 12, 13]])
 (.seq
 (.region 4 false [
 .e 30 (.copy (.t 8)) 32768,
 .e 31 (.bin .add (.t 30) (.c (.int .i64 1))) 32776,
 .e 8 (.copy (.t 31)) 32784])
 (.region 5 false [
 .e 32 (.copy (.t 9)) 40960,
 .e 33 (.bin .sub (.t 32) (.c (.int .i64 1))) 40968,
 .e 9 (.copy (.t 33)) 40976])))))))))
theorem vf82 : VF Tryz.prog 82 = some (34, vc82, []) := by kernel_rfl
theorem xPY {m : Nat} (h : 1 ≤ m) (h2 : m < 18446744073709551616) : bin .sub (.int .u64 (m : Nat)) (.int .u64 1) = some (.int .u64 ((m - 1 : Nat) : Int)) := by
  show some (PV.int .u64 (IntKind.u64.wrap ((m : Int) - 1))) = _
  rw [show (m : Int) - 1 = ((m - 1 : Nat) : Int) by omega, xFj (by omega)]
theorem xKT {m : Nat} (h : m < 18446744073709551616) : (BitVec.ofInt 64 (m : Int)).toNat = m := by
  rw [BitVec.toNat_ofInt]
  have h : (m : Int) % ((2 ^ 64 : Nat) : Int) = (m : Int) := Int.emod_eq_of_lt (by omega) (by omega)
  rw [h]; rfl
theorem xQK {r m : Nat} (hr : r < 18446744073709551616) (h : m < 18446744073709551616) : bin .and (.int .u64 (r : Nat)) (.int .u64 (m : Nat)) = some (.int .u64 ((r &&& m : Nat) : Int)) := by
  show some (PV.int .u64 (IntKind.u64.wrap (BitVec.ofInt 64 r &&& BitVec.ofInt 64 m).toNat)) = _
  rw [BitVec.toNat_and, xKT hr, xKT h, xFj (Nat.lt_of_le_of_lt Nat.and_le_right h)]
def bpIt (d : Array SpanL) (a l m i : Nat) : Nat → UInt64 × Array SpanL
  | 0 => (UInt64.ofNat l, d)
  | k + 1 => Sort.breakStep a l m (bpIt d a l m i k) (i + k)
set_option maxHeartbeats 2000000 in
theorem xOn {N n : Nat} (xs : List SpanL) (a b : Nat) (hN : xs.length = N) (hab : a ≤ b) (hb : b ≤ n) (hn : n ≤ N) (hm : N ≤ 60000) :
    VC Tryz.prog 80 [.own ⟨0, 0⟩ N 0 n, .int .i64 a, .int .i64 b, .fn 53 []] [blkV 2 (xs.map encS)] (.tup []) (srt (Sort.breakPatterns xs.toArray a b)) := by
  refine xAG vf80 ?_ (Nat.le_of_ble_eq_true rfl) (by intro vs h; cases h; simp)
  by_cases h8 : b - a ≥ 8
  case neg =>
    repeat first|refine zA ?_|refine zB ?_|refine zC ?_|refine zD ?_|refine zE ?_|refine zF ?_|refine zO ?_|refine zP ?_|refine zQ ?_|refine zT ?_|refine zU ?_|refine zV ?_|refine zW ?_|refine zX ?_|refine za ?_|refine zb ?_|refine zd ?_|refine zg ?_
    refine cndf (xAB ?_) rfl (decide_eq_false (by omega))
    refine ⟨.inl rfl, oL1 ?_⟩
    unfold Sort.breakPatterns
    simp only
    rw [if_neg h8]
  have hh : (b : Int) - a = ((b - a : Nat) : Int) := by omega
  have hcu : IntKind.u64.wrap ((b : Int) - a) = ((UInt64.ofNat (b - a)).toNat : Int) := by
    rw [hh, xFj (by omega), UInt64.toNat_ofNat']
    omega
  have hq := xHw (k := .i64) (n := b - a) (m := 4) (z := (b : Int) - a) (by omega) (by omega) (xCu (by omega) (by omega))
  have hc := xPv (n := b - a) (by omega)
  rw [← hh] at hc
  have hp := Sort.two_pow_bitsLen_le (n := b - a) (by omega)
  rw [← Nat.one_shiftLeft] at hp
  have hpos : 0 < 1 <<< Sort.bitsLen (b - a) := by rw [Nat.one_shiftLeft]; exact Nat.two_pow_pos _
  have htar : Sort.breakPatterns xs.toArray a b = (bpIt xs.toArray a (b - a) (1 <<< Sort.bitsLen (b - a)) (a + (b - a) / 4 * 2 - 1) 3).2 := by
    unfold Sort.breakPatterns
    simp only
    rw [if_pos h8]
    rfl
  rw [htar]
  generalize 1 <<< Sort.bitsLen (b - a) = M at hc hp hpos
  repeat first|refine zA ?_|refine zB ?_|refine zC ?_|refine zD ?_|refine zE ?_|refine zF ?_|refine zO ?_|refine zP ?_|refine zQ ?_|refine zT ?_|refine zU ?_|refine zV ?_|refine zW ?_|refine zX ?_|refine za ?_|refine zb ?_|refine zd ?_|refine zg ?_
  refine cndt ?_ rfl (decide_eq_true (by omega))
  repeat first|refine zA ?_|refine zB ?_|refine zC ?_|refine zD ?_|refine zE ?_|refine zF ?_|refine xCE ?_|refine cv0 hc ?_|refine xBU hq ?_|refine zO ?_|refine zP ?_|refine zQ ?_|refine zT ?_|refine zU ?_|refine zV ?_|refine zW ?_|refine zX ?_|refine za ?_|refine zb ?_|refine zd ?_|refine zg ?_
  refine xAJ (fun (g : Nat × UInt64 × List SpanL) => [(0, .own ⟨0, 0⟩ N 0 n), (1, .int .i64 a), (8, .int .i64 ((b : Int) - a)), (9, .ptr ⟨1, 16400⟩ 1 0 0), (10, .int .u64 (M : Nat)), (11, .int .i64 ((a : Int) + (((b - a) / 4 : Nat) : Int) * 2 - 1 + (g.1 : Nat)))])
    (fun g => [(⟨0, 0⟩, blkV 2 (g.2.2.map encS)), (⟨1, 16400⟩, ⟨true, false, 1, [[.int .u64 g.2.1.toNat]]⟩)]) (fun g => 3 - g.1)
    (fun g => g.1 ≤ 3 ∧ g.2.2.length = N ∧ (g.2.1, g.2.2.toArray) = bpIt xs.toArray a (b - a) M (a + (b - a) / 4 * 2 - 1) g.1) (0, UInt64.ofNat (b - a), xs)
    (goes (h1 := by refine ⟨rfl, rfl, rfl, rfl, rfl, congrArg (fun z => some (PV.int .i64 z)) (by omega), trivial⟩)) ⟨by omega, hN, rfl⟩ ?_
  rintro ⟨k, r, ys⟩ ⟨hk, hyl, hv⟩
  dsimp only at hk hyl hv ⊢
  repeat first|refine zA ?_|refine zB ?_|refine zC ?_|refine zD ?_|refine zE ?_|refine zF ?_|refine xBU hq ?_|refine zO ?_|refine zP ?_|refine zQ ?_|refine zT ?_|refine zU ?_|refine zV ?_|refine zW ?_|refine zX ?_|refine za ?_|refine zb ?_|refine zd ?_|refine zg ?_
  by_cases hk3 : k < 3
  · refine cndt (xAB ?_) rfl (decide_eq_true (by omega))
    have b1 := xPY (m := M) hpos (by omega)
    have b2 := xQK (r := (Sort.xorNext r).toNat) (m := M - 1) (Sort.xorNext r).toNat_lt (by omega)
    have hle : (Sort.xorNext r).toNat &&& (M - 1) ≤ M - 1 := Nat.and_le_right
    have hstep : bpIt xs.toArray a (b - a) M (a + (b - a) / 4 * 2 - 1) (k + 1) = (Sort.xorNext r, Sort.swp ys.toArray (a + (b - a) / 4 * 2 - 1 + k) (a + if (Sort.xorNext r).toNat &&& (M - 1) ≥ b - a then ((Sort.xorNext r).toNat &&& (M - 1)) - (b - a) else (Sort.xorNext r).toNat &&& (M - 1))) := by
      rw [bpIt, ← hv]; rfl
    generalize (Sort.xorNext r).toNat &&& (M - 1) = o at hle b2 hstep
    have hci : IntKind.i64.wrap (o : Int) = o := xCu (by omega) (by omega)
    repeat first|refine zA ?_|refine zB ?_|refine zC ?_|refine zD ?_|refine zE ?_|refine zF ?_|refine cl (lent := [⟨1, 16400⟩]) (xPx r) ?_|refine xBU b1 ?_|refine xBU b2 ?_|refine xCE ?_|refine zO ?_|refine zP ?_|refine zQ ?_|refine zT ?_|refine zU ?_|refine zV ?_|refine zW ?_|refine zX ?_|refine za ?_|refine zb ?_|refine zd ?_|refine zg ?_
    have hk1 : 0 + ((a : Int) + (((b - a) / 4 : Nat) : Int) * 2 - 1 + (k : Nat)).toNat = a + (b - a) / 4 * 2 - 1 + k := by omega
    obtain ⟨x, hx⟩ : ∃ x, ys[a + (b - a) / 4 * 2 - 1 + k]? = some x := ⟨_, List.getElem?_eq_getElem (by omega)⟩
    have hx' := xAV hx hk1
    by_cases ho : o ≥ b - a
    · obtain ⟨y, hy⟩ : ∃ y, ys[a + (o - (b - a))]? = some y := ⟨_, List.getElem?_eq_getElem (by omega)⟩
      have hk2 : 0 + ((a : Int) + ((o : Int) - ((b : Int) - a))).toNat = a + (o - (b - a)) := by omega
      have hy' := xAV hy hk2
      rw [if_pos ho, xBe hx hy, ← hk1, ← hk2] at hstep
      refine cndt ?_ rfl (decide_eq_true (by omega))
      repeat first|refine zA ?_|refine zB ?_|refine zC ?_|refine zD ?_|refine zE ?_|refine zF ?_|refine xAD ?_|refine o_v (vst encS y) ?_|refine o_v (vst encS x) ?_|refine zO ?_|refine zP ?_|refine zQ ?_|refine zT ?_|refine zU ?_|refine zV ?_|refine zW ?_|refine zX ?_|refine za ?_|refine zb ?_|refine zd ?_|refine zg ?_
      exact agn (k + 1, Sort.xorNext r, _) ⟨by simp only; omega, by simpa only [List.length_set] using hyl, hstep.symm⟩
        (goes (h1 := by refine ⟨rfl, rfl, rfl, rfl, rfl, congrArg (fun z => some (PV.int .i64 z)) (by omega), trivial⟩))
    · obtain ⟨y, hy⟩ : ∃ y, ys[a + o]? = some y := ⟨_, List.getElem?_eq_getElem (by omega)⟩
      have hk2 : 0 + ((a : Int) + (o : Int)).toNat = a + o := by omega
      have hy' := xAV hy hk2
      rw [if_neg ho, xBe hx hy, ← hk1, ← hk2] at hstep
      refine cndf (xAB ?_) rfl (decide_eq_false (by omega))
      repeat first|refine zA ?_|refine zB ?_|refine zC ?_|refine zD ?_|refine zE ?_|refine zF ?_|refine xAD ?_|refine o_v (vst encS y) ?_|refine o_v (vst encS x) ?_|refine zO ?_|refine zP ?_|refine zQ ?_|refine zT ?_|refine zU ?_|refine zV ?_|refine zW ?_|refine zX ?_|refine za ?_|refine zb ?_|refine zd ?_|refine zg ?_
      exact agn (k + 1, Sort.xorNext r, _) ⟨by simp only; omega, by simpa only [List.length_set] using hyl, hstep.symm⟩
        (goes (h1 := by refine ⟨rfl, rfl, rfl, rfl, rfl, congrArg (fun z => some (PV.int .i64 z)) (by omega), trivial⟩))
  · obtain rfl : k = 3 := by omega
    refine cndf (xAE ?_) rfl (decide_eq_false (by omega))
    exact ⟨.inl rfl, oL1 (by rw [← hv])⟩
abbrev bxI (s : Nat) : Blk := ⟨true, false, 1, [[.int .i64 (s : Nat)]]⟩
theorem xF2 {N n : Nat} (xs : List SpanL) (a b s : Nat) (hN : xs.length = N) (ha : a < n) (hb : b < n) (hn : n ≤ N) (hm : N ≤ 60000) (hs : s ≤ 1000) :
    VC Tryz.prog 96 [.own ⟨0, 0⟩ N 0 n, .int .i64 a, .int .i64 b, .ptr ⟨0, 1⟩ 1 0 0, .fn 53 []] [blkV 2 (xs.map encS), bxI s]
      (.tup [.int .i64 (Sort.order2 ltS xs.toArray a b s).1, .int .i64 (Sort.order2 ltS xs.toArray a b s).2.1]) [blkV 2 (xs.map encS), bxI (Sort.order2 ltS xs.toArray a b s).2.2] := by
  refine xAG vf96 ?_ (Nat.le_of_ble_eq_true rfl) (by intro vs h; cases h; simp)
  obtain ⟨x, hx⟩ : ∃ x, xs[b]? = some x := ⟨_, List.getElem?_eq_getElem (by omega)⟩
  obtain ⟨y, hy⟩ : ∃ y, xs[a]? = some y := ⟨_, List.getElem?_eq_getElem (by omega)⟩
  have hx' := xAV (k := 0 + (b : Int).toNat) hx (by omega)
  have hy' := xAV (k := 0 + (a : Int).toNat) hy (by omega)
  have hr : Sort.order2 ltS xs.toArray a b s = if ltS x y = true then (b, a, s + 1) else (a, b, s) := by unfold Sort.order2; rw [gb hx, gb hy]
  repeat first|refine zA ?_|refine zB ?_|refine zC ?_|refine zD ?_|refine zE ?_|refine zF ?_|refine xAD ?_|refine cv0 (xBR x y) ?_|refine zL ?_|refine zM ?_|refine zO ?_|refine zP ?_|refine zQ ?_|refine zT ?_|refine zW ?_|refine zX ?_|refine za ?_|refine zb ?_|refine zg ?_|refine zq ?_
  refine cnd (fun h => ?_) (fun h => xAB ?_)
  · rw [hr, if_pos (show ltS x y = true from h)]
    repeat first|refine zA ?_|refine zB ?_|refine zC ?_|refine zD ?_|refine zE ?_|refine zF ?_|refine zL ?_|refine zM ?_|refine zO ?_|refine zP ?_|refine zQ ?_|refine zT ?_|refine zW ?_|refine zX ?_|refine za ?_|refine zb ?_|refine zg ?_|refine zq ?_
    exact xAC ⟨.inr rfl, oX2 rfl rfl⟩
  · rw [hr, if_neg (show ¬ ltS x y = true by simpa [ltS] using h)]
    repeat first|refine zA ?_|refine zB ?_|refine zC ?_|refine zD ?_|refine zE ?_|refine zF ?_|refine zL ?_|refine zM ?_|refine zO ?_|refine zP ?_|refine zQ ?_|refine zT ?_|refine zW ?_|refine zX ?_|refine za ?_|refine zb ?_|refine zg ?_|refine zq ?_
    exact xAC ⟨.inr rfl, oX2 rfl rfl⟩
theorem xDV {α : Type} [Inhabited α] {lt : α → α → Bool} {d : Array α} {a b s n : Nat} (ha : a < n) (hb : b < n) : (Sort.order2 lt d a b s).1 < n ∧ (Sort.order2 lt d a b s).2.1 < n ∧ (Sort.order2 lt d a b s).2.2 ≤ s + 1 := by
  unfold Sort.order2
  split <;> (simp; omega)
theorem xGB {N n : Nat} (xs : List SpanL) (a b c s : Nat) (hN : xs.length = N) (ha : a < n) (hb : b < n) (hc : c < n) (hn : n ≤ N) (hm : N ≤ 60000) (hs : s ≤ 900) :
    VC Tryz.prog 94 [.own ⟨0, 0⟩ N 0 n, .int .i64 a, .int .i64 b, .int .i64 c, .ptr ⟨0, 1⟩ 1 0 0, .fn 53 []] [blkV 2 (xs.map encS), bxI s]
      (.int .i64 (Sort.median ltS xs.toArray a b c s).1) [blkV 2 (xs.map encS), bxI (Sort.median ltS xs.toArray a b c s).2] := by
  refine xAG vf94 ?_ (Nat.le_of_ble_eq_true rfl) (by intro vs h; cases h)
  unfold Sort.median
  simp only
  obtain ⟨b1, b2, b3⟩ := xDV (lt := ltS) (d := xs.toArray) (s := s) ha hb
  have v1 := xF2 xs a b s hN ha hb hn hm (by omega)
  generalize Sort.order2 ltS xs.toArray a b s = r1 at *
  obtain ⟨c1, c2, c3⟩ := xDV (lt := ltS) (d := xs.toArray) (s := r1.2.2) b2 hc
  have v2 := xF2 xs r1.2.1 c r1.2.2 hN b2 hc hn hm (by omega)
  generalize Sort.order2 ltS xs.toArray r1.2.1 c r1.2.2 = r2 at *
  have v3 := xF2 xs r1.1 r2.1 r2.2.2 hN b1 c1 hn hm (by omega)
  generalize Sort.order2 ltS xs.toArray r1.1 r2.1 r2.2.2 = r3 at *
  repeat first|refine zA ?_|refine zB ?_|refine zC ?_|refine zD ?_|refine zE ?_|refine zF ?_|refine cl (lent := [⟨0, 0⟩, ⟨0, 1⟩]) v1 ?_|refine cl (lent := [⟨0, 0⟩, ⟨0, 1⟩]) v2 ?_|refine cl (lent := [⟨0, 0⟩, ⟨0, 1⟩]) v3 ?_|refine zm ?_
  exact xAC ⟨.inr rfl, oX2 rfl rfl⟩
theorem xGC {α : Type} [Inhabited α] {lt : α → α → Bool} {d : Array α} {a b c s n : Nat} (ha : a < n) (hb : b < n) (hc : c < n) : (Sort.median lt d a b c s).1 < n ∧ (Sort.median lt d a b c s).2 ≤ s + 3 := by
  unfold Sort.median
  simp only
  obtain ⟨b1, b2, b3⟩ := xDV (lt := lt) (d := d) (s := s) ha hb
  generalize Sort.order2 lt d a b s = r1 at *
  obtain ⟨c1, c2, c3⟩ := xDV (lt := lt) (d := d) (s := r1.2.2) b2 hc
  generalize Sort.order2 lt d r1.2.1 c r1.2.2 = r2 at *
  obtain ⟨d1, d2, d3⟩ := xDV (lt := lt) (d := d) (s := r2.2.2) b1 c1
  exact ⟨d2, by omega⟩
theorem xGD {N n : Nat} (xs : List SpanL) (a s : Nat) (hN : xs.length = N) (h1 : 1 ≤ a) (ha : a + 1 < n) (hn : n ≤ N) (hm : N ≤ 60000) (hs : s ≤ 900) :
    VC Tryz.prog 93 [.own ⟨0, 0⟩ N 0 n, .int .i64 a, .ptr ⟨0, 1⟩ 1 0 0, .fn 53 []] [blkV 2 (xs.map encS), bxI s]
      (.int .i64 (Sort.medianAdjacent ltS xs.toArray a s).1) [blkV 2 (xs.map encS), bxI (Sort.medianAdjacent ltS xs.toArray a s).2] := by
  refine xAG vf93 ?_ (Nat.le_of_ble_eq_true rfl) (by intro vs h; cases h)
  unfold Sort.medianAdjacent
  have v1 := xGB xs (a - 1) a (a + 1) s hN (by omega) (by omega) ha hn hm hs
  rw [show ((a - 1 : Nat) : Int) = (a : Int) - 1 by omega] at v1
  repeat first|refine zA ?_|refine zB ?_|refine zC ?_|refine zD ?_|refine zE ?_|refine zF ?_|refine cl (lent := [⟨0, 0⟩, ⟨0, 1⟩]) v1 ?_|refine zT ?_|refine zU ?_|refine zW ?_|refine zX ?_
  exact xAC ⟨.inr rfl, oX2 rfl rfl⟩
def hintI : Sort.Hint → Nat
  | .unknown => 0
  | .increasing => 1
  | .decreasing => 2
set_option maxHeartbeats 1000000 in
theorem xNT {N n : Nat} (xs : List SpanL) (a b : Nat) (hN : xs.length = N) (hl : a + 13 ≤ b) (hb : b ≤ n) (hn : n ≤ N) (hm : N ≤ 60000) :
    VC Tryz.prog 81 [.own ⟨0, 0⟩ N 0 n, .int .i64 a, .int .i64 b, .fn 53 []] [blkV 2 (xs.map encS)]
      (.tup [.int .i64 (Sort.choosePivot ltS xs.toArray a b).1, .int .i64 (hintI (Sort.choosePivot ltS xs.toArray a b).2)]) [blkV 2 (xs.map encS)] := by
  refine xAG vf81 ?_ (Nat.le_of_ble_eq_true rfl) (by intro vs h; cases h; simp)
  have hq := xHw (k := .i64) (n := b - a) (m := 4) (z := (b : Int) - a) (by omega) (by omega) (xCu (by omega) (by omega))
  have ei : ((a + (b - a) / 4 * 1 : Nat) : Int) = (a : Int) + (((b - a) / 4 : Nat) : Int) * 1 := by omega
  have ej : ((a + (b - a) / 4 * 2 : Nat) : Int) = (a : Int) + (((b - a) / 4 : Nat) : Int) * 2 := by omega
  have ek : ((a + (b - a) / 4 * 3 : Nat) : Int) = (a : Int) + (((b - a) / 4 : Nat) : Int) * 3 := by omega
  unfold Sort.choosePivot
  simp only
  rw [if_pos (show b - a ≥ 8 by omega)]
  by_cases h50 : b - a ≥ 50
  · rw [if_pos h50]
    have v1 := xGD xs (a + (b - a) / 4 * 1) 0 hN (by omega) (by omega) hn hm (by omega)
    obtain ⟨b1, b2⟩ := xGC (lt := ltS) (d := xs.toArray) (s := 0) (a := a + (b - a) / 4 * 1 - 1) (b := a + (b - a) / 4 * 1) (c := a + (b - a) / 4 * 1 + 1) (n := n) (by omega) (by omega) (by omega)
    rw [← Sort.medianAdjacent] at b1 b2
    rw [ei] at v1
    generalize Sort.medianAdjacent ltS xs.toArray (a + (b - a) / 4 * 1) 0 = r1 at *
    have v2 := xGD xs (a + (b - a) / 4 * 2) r1.2 hN (by omega) (by omega) hn hm (by omega)
    obtain ⟨c1, c2⟩ := xGC (lt := ltS) (d := xs.toArray) (s := r1.2) (a := a + (b - a) / 4 * 2 - 1) (b := a + (b - a) / 4 * 2) (c := a + (b - a) / 4 * 2 + 1) (n := n) (by omega) (by omega) (by omega)
    rw [← Sort.medianAdjacent] at c1 c2
    rw [ej] at v2
    generalize Sort.medianAdjacent ltS xs.toArray (a + (b - a) / 4 * 2) r1.2 = r2 at *
    have v3 := xGD xs (a + (b - a) / 4 * 3) r2.2 hN (by omega) (by omega) hn hm (by omega)
    obtain ⟨d1, d2⟩ := xGC (lt := ltS) (d := xs.toArray) (s := r2.2) (a := a + (b - a) / 4 * 3 - 1) (b := a + (b - a) / 4 * 3) (c := a + (b - a) / 4 * 3 + 1) (n := n) (by omega) (by omega) (by omega)
    rw [← Sort.medianAdjacent] at d1 d2
    rw [ek] at v3
    generalize Sort.medianAdjacent ltS xs.toArray (a + (b - a) / 4 * 3) r2.2 = r3 at *
    have v4 := xGB xs r1.1 r2.1 r3.1 r3.2 hN b1 c1 d1 hn hm (by omega)
    generalize Sort.median ltS xs.toArray r1.1 r2.1 r3.1 r3.2 = m at *
    repeat first|refine zA ?_|refine zB ?_|refine zC ?_|refine zD ?_|refine zE ?_|refine zF ?_|refine xBU hq ?_|refine zL ?_|refine zM ?_|refine zT ?_|refine zU ?_|refine zV ?_|refine zW ?_|refine zX ?_|refine zd ?_
    refine cndt ?_ rfl (decide_eq_true (by omega))
    repeat first|refine zA ?_|refine zB ?_|refine zC ?_|refine zD ?_|refine zE ?_|refine zF ?_|refine zL ?_|refine zM ?_|refine zT ?_|refine zU ?_|refine zV ?_|refine zW ?_|refine zX ?_|refine zd ?_
    refine cndt ?_ rfl (decide_eq_true (by omega))
    repeat first|refine zA ?_|refine zB ?_|refine zC ?_|refine zD ?_|refine zE ?_|refine zF ?_|refine cl (lent := [⟨0, 0⟩, ⟨1, 16384⟩]) v1 ?_|refine cl (lent := [⟨0, 0⟩, ⟨1, 16384⟩]) v2 ?_|refine cl (lent := [⟨0, 0⟩, ⟨1, 16384⟩]) v3 ?_|refine cl (lent := [⟨0, 0⟩, ⟨1, 16384⟩]) v4 ?_|refine zL ?_|refine zM ?_|refine zT ?_|refine zU ?_|refine zV ?_|refine zW ?_|refine zX ?_|refine zd ?_
    repeat first|refine zA ?_|refine zB ?_|refine zC ?_|refine zD ?_|refine zE ?_|refine zF ?_|refine zL ?_|refine zM ?_|refine zT ?_|refine zU ?_|refine zV ?_|refine zW ?_|refine zX ?_|refine zd ?_
    by_cases h0 : m.2 = 0
    · refine cndt ?_ rfl (by simp [h0])
      rw [if_pos h0]
      repeat first|refine zA ?_|refine zB ?_|refine zC ?_|refine zD ?_|refine zE ?_|refine zF ?_|refine zL ?_|refine zM ?_|refine zT ?_|refine zU ?_|refine zV ?_|refine zW ?_|refine zX ?_|refine zd ?_
      exact xAC ⟨.inr rfl, oL1 rfl⟩
    · refine cndf ?_ rfl (by simp [h0])
      rw [if_neg h0]
      repeat first|refine zA ?_|refine zB ?_|refine zC ?_|refine zD ?_|refine zE ?_|refine zF ?_|refine zL ?_|refine zM ?_|refine zT ?_|refine zU ?_|refine zV ?_|refine zW ?_|refine zX ?_|refine zd ?_
      by_cases h12 : m.2 = 12
      · refine cndt ?_ rfl (by simp [h12])
        rw [if_pos h12]
        repeat first|refine zA ?_|refine zB ?_|refine zC ?_|refine zD ?_|refine zE ?_|refine zF ?_|refine zL ?_|refine zM ?_|refine zT ?_|refine zU ?_|refine zV ?_|refine zW ?_|refine zX ?_|refine zd ?_
        exact xAC ⟨.inr rfl, oL1 rfl⟩
      · refine cndf ?_ rfl (by simp; omega)
        rw [if_neg h12]
        repeat first|refine zA ?_|refine zB ?_|refine zC ?_|refine zD ?_|refine zE ?_|refine zF ?_|refine zL ?_|refine zM ?_|refine zT ?_|refine zU ?_|refine zV ?_|refine zW ?_|refine zX ?_|refine zd ?_
        exact xAC ⟨.inr rfl, oL1 rfl⟩
  · rw [if_neg h50]
    have v4 := xGB xs (a + (b - a) / 4 * 1) (a + (b - a) / 4 * 2) (a + (b - a) / 4 * 3) 0 hN (by omega) (by omega) (by omega) hn hm (by omega)
    rw [ei, ej, ek] at v4
    generalize Sort.median ltS xs.toArray (a + (b - a) / 4 * 1) (a + (b - a) / 4 * 2) (a + (b - a) / 4 * 3) 0 = m at *
    repeat first|refine zA ?_|refine zB ?_|refine zC ?_|refine zD ?_|refine zE ?_|refine zF ?_|refine xBU hq ?_|refine zL ?_|refine zM ?_|refine zT ?_|refine zU ?_|refine zV ?_|refine zW ?_|refine zX ?_|refine zd ?_
    refine cndt ?_ rfl (decide_eq_true (by omega))
    repeat first|refine zA ?_|refine zB ?_|refine zC ?_|refine zD ?_|refine zE ?_|refine zF ?_|refine zL ?_|refine zM ?_|refine zT ?_|refine zU ?_|refine zV ?_|refine zW ?_|refine zX ?_|refine zd ?_
    refine cndf (xAB ?_) rfl (decide_eq_false (by omega))
    repeat first|refine zA ?_|refine zB ?_|refine zC ?_|refine zD ?_|refine zE ?_|refine zF ?_|refine cl (lent := [⟨0, 0⟩, ⟨1, 16384⟩]) v4 ?_|refine zL ?_|refine zM ?_|refine zT ?_|refine zU ?_|refine zV ?_|refine zW ?_|refine zX ?_|refine zd ?_
    repeat first|refine zA ?_|refine zB ?_|refine zC ?_|refine zD ?_|refine zE ?_|refine zF ?_|refine zL ?_|refine zM ?_|refine zT ?_|refine zU ?_|refine zV ?_|refine zW ?_|refine zX ?_|refine zd ?_
    by_cases h0 : m.2 = 0
    · refine cndt ?_ rfl (by simp [h0])
      rw [if_pos h0]
      repeat first|refine zA ?_|refine zB ?_|refine zC ?_|refine zD ?_|refine zE ?_|refine zF ?_|refine zL ?_|refine zM ?_|refine zT ?_|refine zU ?_|refine zV ?_|refine zW ?_|refine zX ?_|refine zd ?_
      exact xAC ⟨.inr rfl, oL1 rfl⟩
    · refine cndf ?_ rfl (by simp [h0])
      rw [if_neg h0]
      repeat first|refine zA ?_|refine zB ?_|refine zC ?_|refine zD ?_|refine zE ?_|refine zF ?_|refine zL ?_|refine zM ?_|refine zT ?_|refine zU ?_|refine zV ?_|refine zW ?_|refine zX ?_|refine zd ?_
      by_cases h12 : m.2 = 12
      · refine cndt ?_ rfl (by simp [h12])
        rw [if_pos h12]
        repeat first|refine zA ?_|refine zB ?_|refine zC ?_|refine zD ?_|refine zE ?_|refine zF ?_|refine zL ?_|refine zM ?_|refine zT ?_|refine zU ?_|refine zV ?_|refine zW ?_|refine zX ?_|refine zd ?_
        exact xAC ⟨.inr rfl, oL1 rfl⟩
      · refine cndf ?_ rfl (by simp; omega)
        rw [if_neg h12]
        repeat first|refine zA ?_|refine zB ?_|refine zC ?_|refine zD ?_|refine zE ?_|refine zF ?_|refine zL ?_|refine zM ?_|refine zT ?_|refine zU ?_|refine zV ?_|refine zW ?_|refine zX ?_|refine zd ?_
        exact xAC ⟨.inr rfl, oL1 rfl⟩
set_option maxHeartbeats 1000000 in
theorem xLP {N n : Nat} (xs : List SpanL) (a b : Nat) (hN : xs.length = N) (hab : a < b) (hb : b ≤ n) (hn : n ≤ N) (hm : N ≤ 60000) :
    VC Tryz.prog 82 [.own ⟨0, 0⟩ N 0 n, .int .i64 a, .int .i64 b, .fn 53 []] [blkV 2 (xs.map encS)] (.tup []) (srt (Sort.reverseRange xs.toArray a b)) := by
  refine xAG vf82 ?_ (Nat.le_of_ble_eq_true rfl) (by intro vs h; cases h; simp)
  repeat first|refine zA ?_|refine zB ?_|refine zC ?_|refine zD ?_|refine zE ?_|refine zF ?_|refine zO ?_|refine zP ?_|refine zQ ?_|refine zT ?_|refine zU ?_|refine zW ?_|refine zX ?_|refine za ?_|refine zb ?_|refine zg ?_
  refine xAJ (fun (g : Nat × Nat × List SpanL) => [(0, .own ⟨0, 0⟩ N 0 n), (8, .int .i64 g.1), (9, .int .i64 (g.2.1 : Nat))])
    (fun g => [(⟨0, 0⟩, blkV 2 (g.2.2.map encS))]) (fun g => g.2.1 - g.1)
    (fun g => g.2.1 < b ∧ g.2.2.length = N ∧ Sort.reverseLoop g.1 g.2.1 g.2.2.toArray = Sort.reverseRange xs.toArray a b) (a, b - 1, xs)
    (goes (h1 := by refine ⟨rfl, rfl, congrArg (fun z => some (PV.int .i64 z)) (by simp only; omega), trivial⟩)) ⟨by simp only; omega, hN, rfl⟩ ?_
  rintro ⟨i, j, ys⟩ ⟨hj, hyl, hv⟩
  dsimp only at hj hyl hv ⊢
  rw [Sort.reverseLoop] at hv
  repeat first|refine zA ?_|refine zB ?_|refine zC ?_|refine zD ?_|refine zE ?_|refine zF ?_|refine zO ?_|refine zP ?_|refine zQ ?_|refine zT ?_|refine zU ?_|refine zW ?_|refine zX ?_|refine za ?_|refine zb ?_|refine zg ?_
  refine cnd (fun h => xAB ?_) (fun h => xAE ?_)
  · have hij : i < j := by have h' := of_decide_eq_true h; omega
    obtain ⟨x, hx⟩ : ∃ x, ys[i]? = some x := ⟨_, List.getElem?_eq_getElem (by omega)⟩
    obtain ⟨y, hy⟩ : ∃ y, ys[j]? = some y := ⟨_, List.getElem?_eq_getElem (by omega)⟩
    have hk1 : 0 + (i : Int).toNat = i := by omega
    have hk2 : 0 + (j : Int).toNat = j := by omega
    have hx' := xAV hx hk1
    have hy' := xAV hy hk2
    rw [if_pos hij, xBe hx hy, ← hk1, ← hk2] at hv
    simp only [hk1, hk2] at hv
    repeat first|refine zA ?_|refine zB ?_|refine zC ?_|refine zD ?_|refine zE ?_|refine zF ?_|refine xAD ?_|refine o_v (vst encS y) ?_|refine o_v (vst encS x) ?_|refine zO ?_|refine zP ?_|refine zQ ?_|refine zT ?_|refine zU ?_|refine zW ?_|refine zX ?_|refine za ?_|refine zb ?_|refine zg ?_
    exact agn (i + 1, j - 1, (ys.set (0 + (i : Int).toNat) y).set (0 + (j : Int).toNat) x) ⟨by simp only; omega, by simpa only [List.length_set] using hyl, by simp only [hk1, hk2]; exact hv⟩
      (goes (h1 := by refine ⟨rfl, rfl, congrArg (fun z => some (PV.int .i64 z)) (by simp only; omega), trivial⟩))
  · have hij : ¬ i < j := by have h' := of_decide_eq_false h; omega
    rw [if_neg hij] at hv
    exact ⟨.inl rfl, oL1 (by rw [← hv])⟩
end Go.Proofs
open Go.V Go.Pu
open Go.V renaming xA4 → zA, nl → zB, xAQ → zC, rg → zD, xAK → zE, bq → zF, xA2 → zO, xAo → zP, xAn → zQ, xCp → zT, xEX → zU, xCo → zW, xBt → zX, xAl → za, xAm → zb, xA7 → zg, xG4 → zi, xBa → zj, xBb → zk, skF → zw, skU → zx
set_option linter.unusedVariables false
set_option linter.unusedSimpArgs false
set_option maxRecDepth 20000
namespace Go.Proofs
def vc83 : VCode :=
 (.seq
 (.region 0 false [
 .e 8 (.copy (.c (.bool false))) 0])
 (.seq
 (.region 1 false [
 .e 13 (.copy (.t 1)) 8192,
 .e 14 (.bin .add (.t 13) (.c (.int .i64 1))) 8200,
 .e 9 (.copy (.t 14)) 8208])
 (.seq
 (.seq
 (.region 2 false [
 .e 10 (.copy (.c (.int .i64 0))) 16384])
 (.block 0
 (.loop
 (.seq
 (.seq
 (.region 3 false [
 .e 15 (.copy (.t 10)) 24576,
 .e 16 (.bin .lss (.t 15) (.c (.int .i64 5))) 24584])
 (.cond (.t 16)
 .skip
 (.exit 0)))
 (.seq
 (.block 1
 (.seq
 (.block 2
 (.loop
 (.seq
 (.seq
 (.region 5 true [
 .e 19 (.copy (.t 9)) 40960,
 .e 20 (.copy (.t 2)) 40968,
 .f 21 (.bin .lss (.t 19) (.t 20)) 40976 [0, 1],
 .f 22 (.copy (.t 21)) 40984 [2, 0, 1],
 .g 23 (.copy (.t 3)) 3 22 true 40992 [3, 2, 0, 1],
 .g 24 (.copy (.t 0)) 3 22 true 41000 [3, 2, 0, 1],
 .g 25 (.copy (.t 9)) 3 22 true 41008 [3, 2, 0, 1],
 .g 26 (.iaddr 2 (.t 24) (.t 25)) 3 22 true 41016 [5, 3, 2, 0, 1, 6],
 .g 27 (.load true 2 (.t 26)) 3 22 true 41024 [7, 5, 3, 2, 0, 1, 6],
 .g 28 (.copy (.t 0)) 3 22 true 41032 [3, 2, 0, 1],
 .g 29 (.copy (.t 9)) 3 22 true 41040 [3, 2, 0, 1],
 .g 30 (.bin .sub (.t 29) (.c (.int .i64 1))) 3 22 true 41048 [10, 3, 2, 0, 1],
 .g 31 (.iaddr 2 (.t 28) (.t 30)) 3 22 true 41056 [9, 3, 2, 0, 1, 11, 10],
 .g 32 (.load true 2 (.t 31)) 3 22 true 41064 [12, 9, 3, 2, 0, 1, 11, 10],
 .g 33 (.call (.t 23) [(.t 27), (.t 32)]) 3 22 true 41072 [4, 3, 2, 0, 1, 8, 7, 5, 6, 13, 12, 9, 11, 10],
 .g 34 (.bin .lss (.t 33) (.c (.int .i64 0))) 3 22 true 41080 [14, 4, 3, 2, 0, 1, 8, 7, 5, 6, 13, 12, 9, 11, 10],
 .g 35 (.not (.t 34)) 3 22 true 41088 [15, 14, 4, 3, 2, 0, 1, 8, 7, 5, 6, 13, 12, 9, 11, 10],
 .f 36 (.pick (.t 22) (.t 35) (.c (.bool false))) 41096 [3, 2, 0, 1, 16, 15, 14, 4, 8, 7, 5, 6, 13, 12, 9, 11, 10]])
 (.cond (.t 36)
 .skip
 (.exit 2)))
 (.block 3
 (.region 6 false [
 .e 37 (.copy (.t 9)) 49152,
 .e 38 (.bin .add (.t 37) (.c (.int .i64 1))) 49160,
 .e 9 (.copy (.t 38)) 49168])))))
 (.seq
 (.seq
 (.region 7 false [
 .e 39 (.copy (.t 9)) 57344,
 .e 40 (.copy (.t 2)) 57352,
 .e 41 (.bin .eql (.t 39) (.t 40)) 57360])
 (.cond (.t 41)
 (.seq
 (.region 8 false [
 .e 8 (.copy (.c (.bool true))) 65536])
 .ret)
 .skip))
 (.seq
 (.seq
 (.region 9 false [
 .e 42 (.copy (.t 2)) 73728,
 .e 43 (.copy (.t 1)) 73736,
 .e 44 (.bin .sub (.t 42) (.t 43)) 73744,
 .e 45 (.bin .lss (.t 44) (.c (.int .i64 50))) 73752])
 (.cond (.t 45)
 (.seq
 (.region 10 false [
 .e 8 (.copy (.c (.bool false))) 81920])
 .ret)
 .skip))
 (.seq
 (.region 11 true [
 .e 46 (.copy (.t 0)) 90112,
 .e 47 (.copy (.t 9)) 90120,
 .e 48 (.copy (.t 0)) 90128,
 .e 49 (.copy (.t 9)) 90136,
 .f 50 (.bin .sub (.t 49) (.c (.int .i64 1))) 90144 [3],
 .e 51 (.copy (.t 0)) 90152,
 .e 52 (.copy (.t 9)) 90160,
 .f 53 (.bin .sub (.t 52) (.c (.int .i64 1))) 90168 [6],
 .f 54 (.iaddr 2 (.t 51) (.t 53)) 90176 [5, 7, 6],
 .f 55 (.load true 2 (.t 54)) 90184 [8, 5, 7, 6],
 .e 56 (.copy (.t 0)) 90192,
 .e 57 (.copy (.t 9)) 90200,
 .f 58 (.iaddr 2 (.t 56) (.t 57)) 90208 [10, 11],
 .f 59 (.load true 2 (.t 58)) 90216 [12, 10, 11],
 .f 60 (.iaddr 2 (.t 46) (.t 47)) 90224 [0, 1, 5, 6, 7, 8, 9, 13, 12, 10, 11],
 .h (.store 2 (.t 60) (.t 55)) 90232 [14, 0, 1, 5, 6, 7, 8, 9, 13, 12, 10, 11],
 .f 61 (.iaddr 2 (.t 48) (.t 50)) 90240 [2, 4, 3, 0, 1, 5, 6, 7, 8, 9, 10, 11, 12, 13, 14, 15],
 .h (.store 2 (.t 61) (.t 59)) 90248 [16, 2, 4, 3, 0, 1, 5, 6, 7, 8, 9, 10, 11, 12, 13, 14, 15]])
 (.seq
 (.seq
 (.region 12 false [
 .e 62 (.copy (.t 9)) 98304,
 .e 63 (.copy (.t 1)) 98312,
 .e 64 (.bin .sub (.t 62) (.t 63)) 98320,
 .e 65 (.bin .geq (.t 64) (.c (.int .i64 2))) 98328])
 (.cond (.t 65)
 (.seq
 (.region 13 false [
 .e 66 (.copy (.t 9)) 106496,
 .e 67 (.bin .sub (.t 66) (.c (.int .i64 1))) 106504,
 .e 11 (.copy (.t 67)) 106512])
 (.block 4
 (.loop
 (.seq
 (.seq
 (.region 14 false [
 .e 68 (.copy (.t 11)) 114688,
 .e 69 (.bin .geq (.t 68) (.c (.int .i64 1))) 114696])
 (.cond (.t 69)
 .skip
 (.exit 4)))
 (.seq
 (.block 5
 (.seq
 (.seq
 (.region 16 true [
 .e 72 (.copy (.t 3)) 131072,
 .e 73 (.copy (.t 0)) 131080,
 .e 74 (.copy (.t 11)) 131088,
 .f 75 (.iaddr 2 (.t 73) (.t 74)) 131096 [1, 2],
 .f 76 (.load true 2 (.t 75)) 131104 [3, 1, 2],
 .e 77 (.copy (.t 0)) 131112,
 .e 78 (.copy (.t 11)) 131120,
 .f 79 (.bin .sub (.t 78) (.c (.int .i64 1))) 131128 [6],
 .f 80 (.iaddr 2 (.t 77) (.t 79)) 131136 [5, 7, 6],
 .f 81 (.load true 2 (.t 80)) 131144 [8, 5, 7, 6],
 .f 82 (.call (.t 72) [(.t 76), (.t 81)]) 131152 [0, 4, 3, 1, 2, 9, 8, 5, 7, 6],
 .f 83 (.bin .lss (.t 82) (.c (.int .i64 0))) 131160 [10, 0, 4, 3, 1, 2, 9, 8, 5, 7, 6],
 .f 84 (.not (.t 83)) 131168 [11, 10, 0, 4, 3, 1, 2, 9, 8, 5, 7, 6]])
 (.cond (.t 84)
 (.exit 4)
 .skip))
 (.region 17 true [
 .e 85 (.copy (.t 0)) 139264,
 .e 86 (.copy (.t 11)) 139272,
 .e 87 (.copy (.t 0)) 139280,
 .e 88 (.copy (.t 11)) 139288,
 .f 89 (.bin .sub (.t 88) (.c (.int .i64 1))) 139296 [3],
 .e 90 (.copy (.t 0)) 139304,
 .e 91 (.copy (.t 11)) 139312,
 .f 92 (.bin .sub (.t 91) (.c (.int .i64 1))) 139320 [6],
 .f 93 (.iaddr 2 (.t 90) (.t 92)) 139328 [5, 7, 6],
 .f 94 (.load true 2 (.t 93)) 139336 [8, 5, 7, 6],
 .e 95 (.copy (.t 0)) 139344,
 .e 96 (.copy (.t 11)) 139352,
 .f 97 (.iaddr 2 (.t 95) (.t 96)) 139360 [10, 11],
 .f 98 (.load true 2 (.t 97)) 139368 [12, 10, 11],
 .f 99 (.iaddr 2 (.t 85) (.t 86)) 139376 [0, 1, 5, 6, 7, 8, 9, 13, 12, 10, 11],
 .h (.store 2 (.t 99) (.t 94)) 139384 [14, 0, 1, 5, 6, 7, 8, 9, 13, 12, 10, 11],
 .f 100 (.iaddr 2 (.t 87) (.t 89)) 139392 [2, 4, 3, 0, 1, 5, 6, 7, 8, 9, 10, 11, 12, 13, 14, 15],
 .h (.store 2 (.t 100) (.t 98)) 139400 [16, 2, 4, 3, 0, 1, 5, 6, 7, 8, 9, 10, 11, 12, 13, 14, 15]])))
 (.region 15 false [
 .e 70 (.copy (.t 11)) 122880,
 .e 71 (.bin .sub (.t 70) (.c (.int .i64 1))) 122888,
 .e 11 (.copy (.t 71)) 122896]))))))
 .skip))
 (.seq
 (.region 18 false [
 .e 101 (.copy (.t 2)) 147456,
 .e 102 (.copy (.t 9)) 147464,
 .e 103 (.bin .sub (.t 101) (.t 102)) 147472,
 .e 104 (.bin .geq (.t 103) (.c (.int .i64 2))) 147480])
 (.cond (.t 104)
 (.seq
 (.region 19 false [
 .e 105 (.copy (.t 9)) 155648,
 .e 106 (.bin .add (.t 105) (.c (.int .i64 1))) 155656,
 .e 12 (.copy (.t 106)) 155664])
 (.block 6
 (.loop
 (.seq
 (.seq
 (.region 20 false [
 .e 107 (.copy (.t 12)) 163840,
 .e 108 (.copy (.t 2)) 163848,
 .e 109 (.bin .lss (.t 107) (.t 108)) 163856])
 (.cond (.t 109)
 .skip
 (.exit 6)))
 (.seq
 (.block 7
 (.seq
 (.seq
 (.region 22 true [
 .e 112 (.copy (.t 3)) 180224,
 .e 113 (.copy (.t 0)) 180232,
 .e 114 (.copy (.t 12)) 180240,
 .f 115 (.iaddr 2 (.t 113) (.t 114)) 180248 [1, 2],
 .f 116 (.load true 2 (.t 115)) 180256 [3, 1, 2],
 .e 117 (.copy (.t 0)) 180264,
 .e 118 (.copy (.t 12)) 180272,
 .f 119 (.bin .sub (.t 118) (.c (.int .i64 1))) 180280 [6],
 .f 120 (.iaddr 2 (.t 117) (.t 119)) 180288 [5, 7, 6],
 .f 121 (.load true 2 (.t 120)) 180296 [8, 5, 7, 6],
 .f 122 (.call (.t 112) [(.t 116), (.t 121)]) 180304 [0, 4, 3, 1, 2, 9, 8, 5, 7, 6],
 .f 123 (.bin .lss (.t 122) (.c (.int .i64 0))) 180312 [10, 0, 4, 3, 1, 2, 9, 8, 5, 7, 6],
 .f 124 (.not (.t 123)) 180320 [11, 10, 0, 4, 3, 1, 2, 9, 8, 5, 7, 6]])
 (.cond (.t 124)
 (.exit 6)
 .skip))
 (.region 23 true [
 .e 125 (.copy (.t 0)) 188416,
 .e 126 (.copy (.t 12)) 188424,
 .e 127 (.copy (.t 0)) 188432,
 .e 128 (.copy (.t 12)) 188440,
 .f 129 (.bin .sub (.t 128) (.c (.int .i64 1))) 188448 [3],
 .e 130 (.copy (.t 0)) 188456,
 .e 131 (.copy (.t 12)) 188464,
 .f 132 (.bin .sub (.t 131) (.c (.int .i64 1))) 188472 [6],
 .f 133 (.iaddr 2 (.t 130) (.t 132)) 188480 [5, 7, 6],
 .f 134 (.load true 2 (.t 133)) 188488 [8, 5, 7, 6],
 .e 135 (.copy (.t 0)) 188496,
 .e 136 (.copy (.t 12)) 188504,
 .f 137 (.iaddr 2 (.t 135) (.t 136)) 188512 [10, 11],
 .f 138 (.load true 2 (.t 137)) 188520 [12, 10, 11],
 .f 139 (.iaddr 2 (.t 125) (.t 126)) 188528 [0, 1, 5, 6, 7, 8, 9, 13, 12, 10, 11],
 .h (.store 2 (.t 139) (.t 134)) 188536 [14, 0, 1, 5, 6, 7, 8, 9, 13, 12, 10, 11],
 .f 140 (.iaddr 2 (.t 127) (.t 129)) 188544 [2, 4, 3, 0, 1, 5, 6, 7, 8, 9, 10, 11, 12, 13, 14, 15],
 .h (.store 2 (.t 140) (.t 138)) 188552 [16, 2, 4, 3, 0, 1, 5, 6, 7, 8, 9, 10, 11, 12, 13, 14, 15]])))
 (.region 21 false [
 .e 110 (.copy (.t 12)) 172032,
 .e 111 (.bin .add (.t 110) (.c (.int .i64 1))) 172040,
 .e 12 (.copy (.t 111)) 172048]))))))
 .skip))))))))
 (.region 4 false [
 .e 17 (.copy (.t 10)) 32768,
 .e 18 (.bin .add (.t 17) (.c (.int .i64 1))) 32776,
 .e 10 (.copy (.t 18)) 32784]))))))
 (.seq
 (.region 24 false [
 .e 8 (.copy (.c (.bool false))) 196608])
 .ret))))
theorem vf83 : VF Tryz.prog 83 = some (141, vc83, [.tmp 8]) := by kernel_rfl
set_option maxHeartbeats 4000000 in
theorem xPo {N n : Nat} (xs : List SpanL) (a b : Nat) (hN : xs.length = N) (hab : a < b) (hb : b ≤ n) (hn : n ≤ N) (hm : N ≤ 60000) :
    VC Tryz.prog 83 [.own ⟨0, 0⟩ N 0 n, .int .i64 a, .int .i64 b, .fn 53 []] [blkV 2 (xs.map encS)] (.bool (Sort.partialInsertionSort ltS xs.toArray a b).2) (srt (Sort.partialInsertionSort ltS xs.toArray a b).1) := by
  refine xAG vf83 ?_ (Nat.le_of_ble_eq_true rfl) (by intro vs h; cases h)
  repeat first|refine zA ?_|refine zB ?_|refine zC ?_|refine zD ?_|refine zE ?_|refine zF ?_|refine zO ?_|refine zP ?_|refine zQ ?_|refine zT ?_|refine zU ?_|refine zW ?_|refine zX ?_|refine za ?_|refine zb ?_|refine zg ?_|refine zi ?_|refine zj ?_|refine zk ?_|refine zw ?_|refine zx ?_
  refine xAJ (fun (g : Nat × Nat × List SpanL) => [(0, .own ⟨0, 0⟩ N 0 n), (1, .int .i64 a), (2, .int .i64 b), (3, .fn 53 []), (8, .bool false), (9, .int .i64 (g.2.1 : Nat)), (10, .int .i64 g.1)])
    (fun g => [(⟨0, 0⟩, blkV 2 (g.2.2.map encS))]) (fun g => 5 - g.1)
    (fun g => g.1 ≤ 5 ∧ a + 1 ≤ g.2.1 ∧ g.2.1 ≤ b ∧ g.2.2.length = N ∧ Sort.partialIns ltS a b (5 - g.1) g.2.1 g.2.2.toArray = Sort.partialInsertionSort ltS xs.toArray a b) (0, a + 1, xs)
    goes ⟨by omega, Nat.le_refl _, hab, hN, rfl⟩ ?_
  rintro ⟨k, i, ys⟩ ⟨hk, hai, hib, hyl, hv⟩
  dsimp only at hk hai hib hyl hv ⊢
  repeat first|refine zA ?_|refine zB ?_|refine zC ?_|refine zD ?_|refine zE ?_|refine zF ?_|refine zO ?_|refine zP ?_|refine zQ ?_|refine zT ?_|refine zU ?_|refine zW ?_|refine zX ?_|refine za ?_|refine zb ?_|refine zg ?_|refine zi ?_|refine zj ?_|refine zk ?_|refine zw ?_|refine zx ?_
  by_cases hk5 : k < 5
  case neg =>
    refine cndf (xAE ?_) rfl (decide_eq_false (by omega))
    rw [show 5 - k = 0 by omega, Sort.partialIns] at hv
    repeat first|refine zA ?_|refine zB ?_|refine zC ?_|refine zD ?_|refine zE ?_|refine zF ?_|refine zO ?_|refine zP ?_|refine zQ ?_|refine zT ?_|refine zU ?_|refine zW ?_|refine zX ?_|refine za ?_|refine zb ?_|refine zg ?_|refine zi ?_|refine zj ?_|refine zk ?_|refine zw ?_|refine zx ?_
    rw [← hv]
    exact xAC ⟨.inr rfl, oL1 rfl⟩
  refine cndt (xAB ?_) rfl (decide_eq_true (by omega))
  rw [show 5 - k = (5 - (k + 1)) + 1 by omega, Sort.partialIns] at hv
  simp only at hv
  refine xAQ (xAK (xCB (lvl := 1) (fun (g : Nat) => [(0, .own ⟨0, 0⟩ N 0 n), (1, .int .i64 a), (2, .int .i64 b), (3, .fn 53 []), (8, .bool false), (9, .int .i64 g), (10, .int .i64 k)])
    (fun g => [(⟨0, 0⟩, blkV 2 (ys.map encS))]) (fun g => a + 1 ≤ g ∧ g ≤ b ∧ g = Sort.scanSorted ltS ys.toArray b i) (xAK ?_) ?_))
  · refine xAJ (fun (g : Nat) => [(0, .own ⟨0, 0⟩ N 0 n), (1, .int .i64 a), (2, .int .i64 b), (3, .fn 53 []), (8, .bool false), (9, .int .i64 g), (10, .int .i64 k)])
      (fun g => [(⟨0, 0⟩, blkV 2 (ys.map encS))]) (fun g => b - g) (fun g => a + 1 ≤ g ∧ g ≤ b ∧ Sort.scanSorted ltS ys.toArray b g = Sort.scanSorted ltS ys.toArray b i) i goes ⟨hai, hib, rfl⟩ ?_
    rintro i2 ⟨h1, h2, hw⟩
    (try dsimp only)
    rw [Sort.scanSorted] at hw
    by_cases hlt : i2 < b
    · have d1 : decide ((i2 : Int) < (b : Int)) = true := decide_eq_true (by omega)
      obtain ⟨x, hx⟩ : ∃ x, ys[i2]? = some x := ⟨_, List.getElem?_eq_getElem (by omega)⟩
      obtain ⟨y, hy⟩ : ∃ y, ys[i2 - 1]? = some y := ⟨_, List.getElem?_eq_getElem (by omega)⟩
      have hx' := xAV (k := 0 + (i2 : Int).toNat) hx (by omega)
      have hy' := xAV (k := 0 + ((i2 : Int) - 1).toNat) hy (by omega)
      rw [gb hx, gb hy] at hw
      repeat first|refine zA ?_|refine zB ?_|refine zC ?_|refine zD ?_|refine zE ?_|refine zF ?_|refine xAD ?_|refine cv0 (xBR x y) ?_|refine zO ?_|refine zP ?_|refine zQ ?_|refine zT ?_|refine zU ?_|refine zW ?_|refine zX ?_|refine za ?_|refine zb ?_|refine zg ?_|refine zi ?_|refine zj ?_|refine zk ?_|refine zw ?_|refine zx ?_
      refine cnd (fun h => xAB ?_) (fun h => xAE ?_)
      · rw [if_pos (by simp [hlt]; simpa [ltS] using h)] at hw
        repeat first|refine zA ?_|refine zB ?_|refine zC ?_|refine zD ?_|refine zE ?_|refine zF ?_|refine zO ?_|refine zP ?_|refine zQ ?_|refine zT ?_|refine zU ?_|refine zW ?_|refine zX ?_|refine za ?_|refine zb ?_|refine zg ?_|refine zi ?_|refine zj ?_|refine zk ?_|refine zw ?_|refine zx ?_
        exact agn (i2 + 1) ⟨by omega, by omega, hw⟩ goes
      · rw [if_neg (by simp [hlt]; simpa [ltS] using h)] at hw
        exact ⟨i2, ⟨h1, h2, hw⟩, goes⟩
    · have d1 : decide ((i2 : Int) < (b : Int)) = false := decide_eq_false (by omega)
      rw [if_neg (by simp [hlt])] at hw
      repeat first|refine zA ?_|refine zB ?_|refine zC ?_|refine zD ?_|refine zE ?_|refine zF ?_|refine zO ?_|refine zP ?_|refine zQ ?_|refine zT ?_|refine zU ?_|refine zW ?_|refine zX ?_|refine za ?_|refine zb ?_|refine zg ?_|refine zi ?_|refine zj ?_|refine zk ?_|refine zw ?_|refine zx ?_
      refine cndf (xAE ?_)
      exact ⟨i2, ⟨h1, h2, hw⟩, goes⟩
  · rintro i2 ⟨h1, h2, hw⟩
    rw [← hw] at hv
    (try dsimp only)
    repeat first|refine zA ?_|refine zB ?_|refine zC ?_|refine zD ?_|refine zE ?_|refine zF ?_|refine zO ?_|refine zP ?_|refine zQ ?_|refine zT ?_|refine zU ?_|refine zW ?_|refine zX ?_|refine za ?_|refine zb ?_|refine zg ?_|refine zi ?_|refine zj ?_|refine zk ?_|refine zw ?_|refine zx ?_
    by_cases hib2 : i2 = b
    · refine cndt ?_ rfl (by simp [hib2])
      rw [if_pos hib2] at hv
      repeat first|refine zA ?_|refine zB ?_|refine zC ?_|refine zD ?_|refine zE ?_|refine zF ?_|refine zO ?_|refine zP ?_|refine zQ ?_|refine zT ?_|refine zU ?_|refine zW ?_|refine zX ?_|refine za ?_|refine zb ?_|refine zg ?_|refine zi ?_|refine zj ?_|refine zk ?_|refine zw ?_|refine zx ?_
      rw [← hv]
      exact xAC ⟨.inr rfl, oL1 rfl⟩
    refine cndf (xAB ?_) rfl (by simp; omega)
    rw [if_neg hib2] at hv
    repeat first|refine zA ?_|refine zB ?_|refine zC ?_|refine zD ?_|refine zE ?_|refine zF ?_|refine zO ?_|refine zP ?_|refine zQ ?_|refine zT ?_|refine zU ?_|refine zW ?_|refine zX ?_|refine za ?_|refine zb ?_|refine zg ?_|refine zi ?_|refine zj ?_|refine zk ?_|refine zw ?_|refine zx ?_
    by_cases h50 : b - a < 50
    · refine cndt ?_ rfl (decide_eq_true (by omega))
      rw [if_pos h50] at hv
      repeat first|refine zA ?_|refine zB ?_|refine zC ?_|refine zD ?_|refine zE ?_|refine zF ?_|refine zO ?_|refine zP ?_|refine zQ ?_|refine zT ?_|refine zU ?_|refine zW ?_|refine zX ?_|refine za ?_|refine zb ?_|refine zg ?_|refine zi ?_|refine zj ?_|refine zk ?_|refine zw ?_|refine zx ?_
      rw [← hv]
      exact xAC ⟨.inr rfl, oL1 rfl⟩
    refine cndf (xAB ?_) rfl (decide_eq_false (by omega))
    rw [if_neg h50] at hv
    obtain ⟨x, hx⟩ : ∃ x, ys[i2]? = some x := ⟨_, List.getElem?_eq_getElem (by omega)⟩
    obtain ⟨y, hy⟩ : ∃ y, ys[i2 - 1]? = some y := ⟨_, List.getElem?_eq_getElem (by omega)⟩
    have hk1 : 0 + (i2 : Int).toNat = i2 := by omega
    have hk2 : 0 + ((i2 : Int) - 1).toNat = i2 - 1 := by omega
    have hx' := xAV hx hk1
    have hy' := xAV hy hk2
    rw [xBe hx hy] at hv
    refine xAQ (rg ?_)
    repeat first|refine zA ?_|refine xAD ?_|refine o_v (vst encS y) ?_|refine o_v (vst encS x) ?_|refine zO ?_|refine zP ?_|refine zQ ?_|refine zT ?_|refine zU ?_|refine zW ?_|refine zX ?_|refine za ?_|refine zb ?_|refine zg ?_|refine zi ?_|refine zj ?_|refine zk ?_|refine zw ?_|refine zx ?_
    refine nl ?_
    rw [hk1, hk2]
    have hdl : ((ys.set i2 y).set (i2 - 1) x).length = N := by simpa only [List.length_set] using hyl
    generalize (ys.set i2 y).set (i2 - 1) x = ds at hv hdl
    refine xCB (lvl := 1) (fun (g : List SpanL) => [(0, .own ⟨0, 0⟩ N 0 n), (1, .int .i64 a), (2, .int .i64 b), (3, .fn 53 []), (8, .bool false), (9, .int .i64 i2), (10, .int .i64 k)])
      (fun g => [(⟨0, 0⟩, blkV 2 (g.map encS))]) (fun g => g.length = N ∧ g.toArray = if i2 - a ≥ 2 then Sort.shiftDown ltS (i2 - 1) ds.toArray else ds.toArray) ?_ ?_
    · repeat first|refine zA ?_|refine zB ?_|refine zC ?_|refine zD ?_|refine zE ?_|refine zF ?_|refine zO ?_|refine zP ?_|refine zQ ?_|refine zT ?_|refine zU ?_|refine zW ?_|refine zX ?_|refine za ?_|refine zb ?_|refine zg ?_|refine zi ?_|refine zj ?_|refine zk ?_|refine zw ?_|refine zx ?_
      by_cases hia : i2 - a ≥ 2
      · refine cndt ?_ rfl (decide_eq_true (by omega))
        rw [if_pos hia]
        repeat first|refine zA ?_|refine zB ?_|refine zC ?_|refine zD ?_|refine zE ?_|refine zF ?_|refine zO ?_|refine zP ?_|refine zQ ?_|refine zT ?_|refine zU ?_|refine zW ?_|refine zX ?_|refine za ?_|refine zb ?_|refine zg ?_|refine zi ?_|refine zj ?_|refine zk ?_|refine zw ?_|refine zx ?_
        refine xAJ (fun (g : Nat × List SpanL) => [(0, .own ⟨0, 0⟩ N 0 n), (1, .int .i64 a), (2, .int .i64 b), (3, .fn 53 []), (8, .bool false), (9, .int .i64 i2), (10, .int .i64 k), (11, .int .i64 g.1)])
          (fun g => [(⟨0, 0⟩, blkV 2 (g.2.map encS))]) (fun g => g.1) (fun g => g.1 ≤ i2 - 1 ∧ g.2.length = N ∧ Sort.shiftDown ltS g.1 g.2.toArray = Sort.shiftDown ltS (i2 - 1) ds.toArray) (i2 - 1, ds)
          (goes (h1 := by refine ⟨rfl, rfl, rfl, rfl, rfl, rfl, rfl, congrArg (fun z => some (PV.int .i64 z)) (by simp only; omega), trivial⟩)) ⟨Nat.le_refl _, hdl, rfl⟩ ?_
        rintro ⟨j, zs⟩ ⟨hj, hzl, hz⟩
        dsimp only at hj hzl hz ⊢
        repeat first|refine zA ?_|refine zB ?_|refine zC ?_|refine zD ?_|refine zE ?_|refine zF ?_|refine zO ?_|refine zP ?_|refine zQ ?_|refine zT ?_|refine zU ?_|refine zW ?_|refine zX ?_|refine za ?_|refine zb ?_|refine zg ?_|refine zi ?_|refine zj ?_|refine zk ?_|refine zw ?_|refine zx ?_
        cases j with
        | zero =>
          refine cndf (xAE ?_) rfl (decide_eq_false (by omega))
          exact ⟨zs, ⟨hzl, hz⟩, goes⟩
        | succ j =>
          refine cndt (xAB ?_) rfl (decide_eq_true (by omega))
          obtain ⟨x, hx⟩ : ∃ x, zs[j + 1]? = some x := ⟨_, List.getElem?_eq_getElem (by omega)⟩
          obtain ⟨y, hy⟩ : ∃ y, zs[j]? = some y := ⟨_, List.getElem?_eq_getElem (by omega)⟩
          have hl1 : 0 + ((j + 1 : Nat) : Int).toNat = j + 1 := by omega
          have hl2 : 0 + (((j + 1 : Nat) : Int) - 1).toNat = j := by omega
          have hx' := xAV hx hl1
          have hy' := xAV hy hl2
          rw [Sort.shiftDown, gb hx, gb hy] at hz
          repeat first|refine zA ?_|refine zB ?_|refine zC ?_|refine zD ?_|refine zE ?_|refine zF ?_|refine xAD ?_|refine cv0 (xBR x y) ?_|refine zO ?_|refine zP ?_|refine zQ ?_|refine zT ?_|refine zU ?_|refine zW ?_|refine zX ?_|refine za ?_|refine zb ?_|refine zg ?_|refine zi ?_|refine zj ?_|refine zk ?_|refine zw ?_|refine zx ?_
          refine cnd (fun h => xAE ?_) (fun h => xAB ?_)
          · rw [if_pos (by simpa [ltS] using h)] at hz
            exact ⟨zs, ⟨hzl, hz⟩, goes⟩
          · rw [if_neg (by simpa [ltS] using h), xBe hx hy] at hz
            repeat first|refine zA ?_|refine zB ?_|refine zC ?_|refine zD ?_|refine zE ?_|refine zF ?_|refine xAD ?_|refine o_v (vst encS y) ?_|refine o_v (vst encS x) ?_|refine zO ?_|refine zP ?_|refine zQ ?_|refine zT ?_|refine zU ?_|refine zW ?_|refine zX ?_|refine za ?_|refine zb ?_|refine zg ?_|refine zi ?_|refine zj ?_|refine zk ?_|refine zw ?_|refine zx ?_
            exact agn (j, (zs.set (0 + ((j + 1 : Nat) : Int).toNat) y).set (0 + (((j + 1 : Nat) : Int) - 1).toNat) x) ⟨by simp only; omega, by simpa only [List.length_set] using hzl, by simp only [hl1, hl2]; exact hz⟩
              (goes (h1 := by refine ⟨rfl, rfl, rfl, rfl, rfl, rfl, rfl, congrArg (fun z => some (PV.int .i64 z)) (by simp only; omega), trivial⟩))
      · refine cndf (xAB ?_) rfl (decide_eq_false (by omega))
        rw [if_neg hia]
        exact ⟨ds, ⟨hdl, rfl⟩, goes⟩
    · rintro es ⟨hel, he⟩
      rw [← he] at hv
      (try dsimp only)
      repeat first|refine zA ?_|refine zB ?_|refine zC ?_|refine zD ?_|refine zE ?_|refine zF ?_|refine zO ?_|refine zP ?_|refine zQ ?_|refine zT ?_|refine zU ?_|refine zW ?_|refine zX ?_|refine za ?_|refine zb ?_|refine zg ?_|refine zi ?_|refine zj ?_|refine zk ?_|refine zw ?_|refine zx ?_
      by_cases hbi : b - i2 ≥ 2
      · refine cndt ?_ rfl (decide_eq_true (by omega))
        rw [if_pos hbi] at hv
        repeat first|refine zA ?_|refine zB ?_|refine zC ?_|refine zD ?_|refine zE ?_|refine zF ?_|refine zO ?_|refine zP ?_|refine zQ ?_|refine zT ?_|refine zU ?_|refine zW ?_|refine zX ?_|refine za ?_|refine zb ?_|refine zg ?_|refine zi ?_|refine zj ?_|refine zk ?_|refine zw ?_|refine zx ?_
        refine xAJ (fun (g : Nat × List SpanL) => [(0, .own ⟨0, 0⟩ N 0 n), (1, .int .i64 a), (2, .int .i64 b), (3, .fn 53 []), (8, .bool false), (9, .int .i64 i2), (10, .int .i64 k), (12, .int .i64 g.1)])
          (fun g => [(⟨0, 0⟩, blkV 2 (g.2.map encS))]) (fun g => b - g.1) (fun g => i2 + 1 ≤ g.1 ∧ g.1 ≤ b ∧ g.2.length = N ∧ Sort.shiftUp ltS b g.1 g.2.toArray = Sort.shiftUp ltS b (i2 + 1) es.toArray) (i2 + 1, es)
          goes ⟨Nat.le_refl _, by omega, hel, rfl⟩ ?_
        rintro ⟨j, zs⟩ ⟨hj, hjb, hzl, hz⟩
        dsimp only at hj hjb hzl hz ⊢
        rw [Sort.shiftUp] at hz
        repeat first|refine zA ?_|refine zB ?_|refine zC ?_|refine zD ?_|refine zE ?_|refine zF ?_|refine zO ?_|refine zP ?_|refine zQ ?_|refine zT ?_|refine zU ?_|refine zW ?_|refine zX ?_|refine za ?_|refine zb ?_|refine zg ?_|refine zi ?_|refine zj ?_|refine zk ?_|refine zw ?_|refine zx ?_
        by_cases hjb2 : j < b
        · refine cndt (xAB ?_) rfl (decide_eq_true (by omega))
          obtain ⟨x, hx⟩ : ∃ x, zs[j]? = some x := ⟨_, List.getElem?_eq_getElem (by omega)⟩
          obtain ⟨y, hy⟩ : ∃ y, zs[j - 1]? = some y := ⟨_, List.getElem?_eq_getElem (by omega)⟩
          have hl1 : 0 + (j : Int).toNat = j := by omega
          have hl2 : 0 + ((j : Int) - 1).toNat = j - 1 := by omega
          have hx' := xAV hx hl1
          have hy' := xAV hy hl2
          rw [if_pos hjb2, gb hx, gb hy] at hz
          repeat first|refine zA ?_|refine zB ?_|refine zC ?_|refine zD ?_|refine zE ?_|refine zF ?_|refine xAD ?_|refine cv0 (xBR x y) ?_|refine zO ?_|refine zP ?_|refine zQ ?_|refine zT ?_|refine zU ?_|refine zW ?_|refine zX ?_|refine za ?_|refine zb ?_|refine zg ?_|refine zi ?_|refine zj ?_|refine zk ?_|refine zw ?_|refine zx ?_
          refine cnd (fun h => xAE ?_) (fun h => xAB ?_)
          · rw [if_pos (by simpa [ltS] using h)] at hz
            rw [← hz] at hv
            repeat first|refine zA ?_|refine zB ?_|refine zC ?_|refine zD ?_|refine zE ?_|refine zF ?_|refine zO ?_|refine zP ?_|refine zQ ?_|refine zT ?_|refine zU ?_|refine zW ?_|refine zX ?_|refine za ?_|refine zb ?_|refine zg ?_|refine zi ?_|refine zj ?_|refine zk ?_|refine zw ?_|refine zx ?_
            exact agn (k + 1, i2, zs) ⟨by simp only; omega, h1, h2, hzl, hv⟩ goes
          · rw [if_neg (by simpa [ltS] using h), xBe hx hy] at hz
            repeat first|refine zA ?_|refine zB ?_|refine zC ?_|refine zD ?_|refine zE ?_|refine zF ?_|refine xAD ?_|refine o_v (vst encS y) ?_|refine o_v (vst encS x) ?_|refine zO ?_|refine zP ?_|refine zQ ?_|refine zT ?_|refine zU ?_|refine zW ?_|refine zX ?_|refine za ?_|refine zb ?_|refine zg ?_|refine zi ?_|refine zj ?_|refine zk ?_|refine zw ?_|refine zx ?_
            exact agn (j + 1, (zs.set (0 + (j : Int).toNat) y).set (0 + ((j : Int) - 1).toNat) x) ⟨by simp only; omega, by simp only; omega, by simpa only [List.length_set] using hzl, by simp only [hl1, hl2]; exact hz⟩ goes
        · refine cndf (xAE ?_) rfl (decide_eq_false (by omega))
          rw [if_neg hjb2] at hz
          rw [← hz] at hv
          repeat first|refine zA ?_|refine zB ?_|refine zC ?_|refine zD ?_|refine zE ?_|refine zF ?_|refine zO ?_|refine zP ?_|refine zQ ?_|refine zT ?_|refine zU ?_|refine zW ?_|refine zX ?_|refine za ?_|refine zb ?_|refine zg ?_|refine zi ?_|refine zj ?_|refine zk ?_|refine zw ?_|refine zx ?_
          exact agn (k + 1, i2, zs) ⟨by simp only; omega, h1, h2, hzl, hv⟩ goes
      · refine cndf (xAB ?_) rfl (decide_eq_false (by omega))
        rw [if_neg hbi] at hv
        repeat first|refine zA ?_|refine zB ?_|refine zC ?_|refine zD ?_|refine zE ?_|refine zF ?_|refine zO ?_|refine zP ?_|refine zQ ?_|refine zT ?_|refine zU ?_|refine zW ?_|refine zX ?_|refine za ?_|refine zb ?_|refine zg ?_|refine zi ?_|refine zj ?_|refine zk ?_|refine zw ?_|refine zx ?_
        exact agn (k + 1, i2, es) ⟨by simp only; omega, h1, h2, hel, hv⟩ goes
end Go.Proofs
open Go.V Go.Pu
open Go.V renaming xA4 → zA, nl → zB, xAQ → zC, rg → zD, xAK → zE, bq → zF, xA2 → zO, xAo → zP, xAn → zQ, xCp → zT, xEX → zU, xCo → zW, xBt → zX, xAl → za, xAm → zb, xA7 → zg, xG4 → zi, xBa → zj, xBb → zk, skF → zw, skU → zx
set_option linter.unusedVariables false
set_option linter.unusedSimpArgs false
set_option maxRecDepth 20000
namespace Go.Proofs
def vc84 : VCode :=
 (.seq
 (.region 0 false [
 .e 10 (.copy (.c (.int .i64 0))) 0])
 (.seq
 (.region 1 true [
 .e 13 (.copy (.t 0)) 8192,
 .e 14 (.copy (.t 1)) 8200,
 .e 15 (.copy (.t 0)) 8208,
 .e 16 (.copy (.t 3)) 8216,
 .e 17 (.copy (.t 0)) 8224,
 .e 18 (.copy (.t 3)) 8232,
 .f 19 (.iaddr 2 (.t 17) (.t 18)) 8240 [4, 5],
 .f 20 (.load true 2 (.t 19)) 8248 [6, 4, 5],
 .e 21 (.copy (.t 0)) 8256,
 .e 22 (.copy (.t 1)) 8264,
 .f 23 (.iaddr 2 (.t 21) (.t 22)) 8272 [8, 9],
 .f 24 (.load true 2 (.t 23)) 8280 [10, 8, 9],
 .f 25 (.iaddr 2 (.t 13) (.t 14)) 8288 [0, 1, 4, 5, 6, 7, 11, 10, 8, 9],
 .h (.store 2 (.t 25) (.t 20)) 8296 [12, 0, 1, 4, 5, 6, 7, 11, 10, 8, 9],
 .f 26 (.iaddr 2 (.t 15) (.t 16)) 8304 [2, 3, 0, 1, 4, 5, 6, 7, 8, 9, 10, 11, 12, 13],
 .h (.store 2 (.t 26) (.t 24)) 8312 [14, 2, 3, 0, 1, 4, 5, 6, 7, 8, 9, 10, 11, 12, 13]])
 (.seq
 (.region 2 false [
 .e 27 (.copy (.t 1)) 16384,
 .e 28 (.bin .add (.t 27) (.c (.int .i64 1))) 16392,
 .e 29 (.copy (.t 2)) 16400,
 .e 30 (.bin .sub (.t 29) (.c (.int .i64 1))) 16408,
 .e 11 (.copy (.t 28)) 16416,
 .e 12 (.copy (.t 30)) 16424])
 (.seq
 (.block 0
 (.loop
 (.block 1
 (.seq
 (.block 2
 (.loop
 (.seq
 (.seq
 (.region 3 true [
 .e 31 (.copy (.t 11)) 24576,
 .e 32 (.copy (.t 12)) 24584,
 .f 33 (.bin .leq (.t 31) (.t 32)) 24592 [0, 1],
 .f 34 (.copy (.t 33)) 24600 [2, 0, 1],
 .g 35 (.copy (.t 4)) 3 34 true 24608 [3, 2, 0, 1],
 .g 36 (.copy (.t 0)) 3 34 true 24616 [3, 2, 0, 1],
 .g 37 (.copy (.t 1)) 3 34 true 24624 [3, 2, 0, 1],
 .g 38 (.iaddr 2 (.t 36) (.t 37)) 3 34 true 24632 [5, 3, 2, 0, 1, 6],
 .g 39 (.load true 2 (.t 38)) 3 34 true 24640 [7, 5, 3, 2, 0, 1, 6],
 .g 40 (.copy (.t 0)) 3 34 true 24648 [3, 2, 0, 1],
 .g 41 (.copy (.t 11)) 3 34 true 24656 [3, 2, 0, 1],
 .g 42 (.iaddr 2 (.t 40) (.t 41)) 3 34 true 24664 [9, 3, 2, 0, 1, 10],
 .g 43 (.load true 2 (.t 42)) 3 34 true 24672 [11, 9, 3, 2, 0, 1, 10],
 .g 44 (.call (.t 35) [(.t 39), (.t 43)]) 3 34 true 24680 [4, 3, 2, 0, 1, 8, 7, 5, 6, 12, 11, 9, 10],
 .g 45 (.bin .lss (.t 44) (.c (.int .i64 0))) 3 34 true 24688 [13, 4, 3, 2, 0, 1, 8, 7, 5, 6, 12, 11, 9, 10],
 .g 46 (.not (.t 45)) 3 34 true 24696 [14, 13, 4, 3, 2, 0, 1, 8, 7, 5, 6, 12, 11, 9, 10],
 .f 47 (.pick (.t 34) (.t 46) (.c (.bool false))) 24704 [3, 2, 0, 1, 15, 14, 13, 4, 8, 7, 5, 6, 12, 11, 9, 10]])
 (.cond (.t 47)
 .skip
 (.exit 2)))
 (.block 3
 (.region 4 false [
 .e 48 (.copy (.t 11)) 32768,
 .e 49 (.bin .add (.t 48) (.c (.int .i64 1))) 32776,
 .e 11 (.copy (.t 49)) 32784])))))
 (.seq
 (.block 4
 (.loop
 (.seq
 (.seq
 (.region 5 true [
 .e 50 (.copy (.t 11)) 40960,
 .e 51 (.copy (.t 12)) 40968,
 .f 52 (.bin .leq (.t 50) (.t 51)) 40976 [0, 1],
 .f 53 (.copy (.t 52)) 40984 [2, 0, 1],
 .g 54 (.copy (.t 4)) 3 53 true 40992 [3, 2, 0, 1],
 .g 55 (.copy (.t 0)) 3 53 true 41000 [3, 2, 0, 1],
 .g 56 (.copy (.t 1)) 3 53 true 41008 [3, 2, 0, 1],
 .g 57 (.iaddr 2 (.t 55) (.t 56)) 3 53 true 41016 [5, 3, 2, 0, 1, 6],
 .g 58 (.load true 2 (.t 57)) 3 53 true 41024 [7, 5, 3, 2, 0, 1, 6],
 .g 59 (.copy (.t 0)) 3 53 true 41032 [3, 2, 0, 1],
 .g 60 (.copy (.t 12)) 3 53 true 41040 [3, 2, 0, 1],
 .g 61 (.iaddr 2 (.t 59) (.t 60)) 3 53 true 41048 [9, 3, 2, 0, 1, 10],
 .g 62 (.load true 2 (.t 61)) 3 53 true 41056 [11, 9, 3, 2, 0, 1, 10],
 .g 63 (.call (.t 54) [(.t 58), (.t 62)]) 3 53 true 41064 [4, 3, 2, 0, 1, 8, 7, 5, 6, 12, 11, 9, 10],
 .g 64 (.bin .lss (.t 63) (.c (.int .i64 0))) 3 53 true 41072 [13, 4, 3, 2, 0, 1, 8, 7, 5, 6, 12, 11, 9, 10],
 .f 65 (.pick (.t 53) (.t 64) (.c (.bool false))) 41080 [3, 2, 0, 1, 14, 13, 4, 8, 7, 5, 6, 12, 11, 9, 10]])
 (.cond (.t 65)
 .skip
 (.exit 4)))
 (.block 5
 (.region 6 false [
 .e 66 (.copy (.t 12)) 49152,
 .e 67 (.bin .sub (.t 66) (.c (.int .i64 1))) 49160,
 .e 12 (.copy (.t 67)) 49168])))))
 (.seq
 (.seq
 (.region 7 false [
 .e 68 (.copy (.t 11)) 57344,
 .e 69 (.copy (.t 12)) 57352,
 .e 70 (.bin .gtr (.t 68) (.t 69)) 57360])
 (.cond (.t 70)
 (.exit 0)
 .skip))
 (.seq
 (.region 8 true [
 .e 71 (.copy (.t 0)) 65536,
 .e 72 (.copy (.t 11)) 65544,
 .e 73 (.copy (.t 0)) 65552,
 .e 74 (.copy (.t 12)) 65560,
 .e 75 (.copy (.t 0)) 65568,
 .e 76 (.copy (.t 12)) 65576,
 .f 77 (.iaddr 2 (.t 75) (.t 76)) 65584 [4, 5],
 .f 78 (.load true 2 (.t 77)) 65592 [6, 4, 5],
 .e 79 (.copy (.t 0)) 65600,
 .e 80 (.copy (.t 11)) 65608,
 .f 81 (.iaddr 2 (.t 79) (.t 80)) 65616 [8, 9],
 .f 82 (.load true 2 (.t 81)) 65624 [10, 8, 9],
 .f 83 (.iaddr 2 (.t 71) (.t 72)) 65632 [0, 1, 4, 5, 6, 7, 11, 10, 8, 9],
 .h (.store 2 (.t 83) (.t 78)) 65640 [12, 0, 1, 4, 5, 6, 7, 11, 10, 8, 9],
 .f 84 (.iaddr 2 (.t 73) (.t 74)) 65648 [2, 3, 0, 1, 4, 5, 6, 7, 8, 9, 10, 11, 12, 13],
 .h (.store 2 (.t 84) (.t 82)) 65656 [14, 2, 3, 0, 1, 4, 5, 6, 7, 8, 9, 10, 11, 12, 13]])
 (.seq
 (.region 9 false [
 .e 85 (.copy (.t 11)) 73728,
 .e 86 (.bin .add (.t 85) (.c (.int .i64 1))) 73736,
 .e 11 (.copy (.t 86)) 73744])
 (.region 10 false [
 .e 87 (.copy (.t 12)) 81920,
 .e 88 (.bin .sub (.t 87) (.c (.int .i64 1))) 81928,
 .e 12 (.copy (.t 88)) 81936])))))))))
 (.seq
 (.region 11 false [
 .e 89 (.copy (.t 11)) 90112,
 .e 10 (.copy (.t 89)) 90120])
 .ret)))))
theorem vf84 : VF Tryz.prog 84 = some (90, vc84, [.tmp 10]) := by kernel_rfl
def vc85 : VCode :=
 (.seq
 (.region 0 false [
 .e 10 (.copy (.c (.int .i64 0))) 0,
 .e 11 (.copy (.c (.bool false))) 8])
 (.seq
 (.region 1 true [
 .e 14 (.copy (.t 0)) 8192,
 .e 15 (.copy (.t 1)) 8200,
 .e 16 (.copy (.t 0)) 8208,
 .e 17 (.copy (.t 3)) 8216,
 .e 18 (.copy (.t 0)) 8224,
 .e 19 (.copy (.t 3)) 8232,
 .f 20 (.iaddr 2 (.t 18) (.t 19)) 8240 [4, 5],
 .f 21 (.load true 2 (.t 20)) 8248 [6, 4, 5],
 .e 22 (.copy (.t 0)) 8256,
 .e 23 (.copy (.t 1)) 8264,
 .f 24 (.iaddr 2 (.t 22) (.t 23)) 8272 [8, 9],
 .f 25 (.load true 2 (.t 24)) 8280 [10, 8, 9],
 .f 26 (.iaddr 2 (.t 14) (.t 15)) 8288 [0, 1, 4, 5, 6, 7, 11, 10, 8, 9],
 .h (.store 2 (.t 26) (.t 21)) 8296 [12, 0, 1, 4, 5, 6, 7, 11, 10, 8, 9],
 .f 27 (.iaddr 2 (.t 16) (.t 17)) 8304 [2, 3, 0, 1, 4, 5, 6, 7, 8, 9, 10, 11, 12, 13],
 .h (.store 2 (.t 27) (.t 25)) 8312 [14, 2, 3, 0, 1, 4, 5, 6, 7, 8, 9, 10, 11, 12, 13]])
 (.seq
 (.region 2 false [
 .e 28 (.copy (.t 1)) 16384,
 .e 29 (.bin .add (.t 28) (.c (.int .i64 1))) 16392,
 .e 30 (.copy (.t 2)) 16400,
 .e 31 (.bin .sub (.t 30) (.c (.int .i64 1))) 16408,
 .e 12 (.copy (.t 29)) 16416,
 .e 13 (.copy (.t 31)) 16424])
 (.seq
 (.block 0
 (.loop
 (.seq
 (.seq
 (.region 3 true [
 .e 32 (.copy (.t 12)) 24576,
 .e 33 (.copy (.t 13)) 24584,
 .f 34 (.bin .leq (.t 32) (.t 33)) 24592 [0, 1],
 .f 35 (.copy (.t 34)) 24600 [2, 0, 1],
 .g 36 (.copy (.t 4)) 3 35 true 24608 [3, 2, 0, 1],
 .g 37 (.copy (.t 0)) 3 35 true 24616 [3, 2, 0, 1],
 .g 38 (.copy (.t 12)) 3 35 true 24624 [3, 2, 0, 1],
 .g 39 (.iaddr 2 (.t 37) (.t 38)) 3 35 true 24632 [5, 3, 2, 0, 1, 6],
 .g 40 (.load true 2 (.t 39)) 3 35 true 24640 [7, 5, 3, 2, 0, 1, 6],
 .g 41 (.copy (.t 0)) 3 35 true 24648 [3, 2, 0, 1],
 .g 42 (.copy (.t 1)) 3 35 true 24656 [3, 2, 0, 1],
 .g 43 (.iaddr 2 (.t 41) (.t 42)) 3 35 true 24664 [9, 3, 2, 0, 1, 10],
 .g 44 (.load true 2 (.t 43)) 3 35 true 24672 [11, 9, 3, 2, 0, 1, 10],
 .g 45 (.call (.t 36) [(.t 40), (.t 44)]) 3 35 true 24680 [4, 3, 2, 0, 1, 8, 7, 5, 6, 12, 11, 9, 10],
 .g 46 (.bin .lss (.t 45) (.c (.int .i64 0))) 3 35 true 24688 [13, 4, 3, 2, 0, 1, 8, 7, 5, 6, 12, 11, 9, 10],
 .f 47 (.pick (.t 35) (.t 46) (.c (.bool false))) 24696 [3, 2, 0, 1, 14, 13, 4, 8, 7, 5, 6, 12, 11, 9, 10]])
 (.cond (.t 47)
 .skip
 (.exit 0)))
 (.block 1
 (.region 4 false [
 .e 48 (.copy (.t 12)) 32768,
 .e 49 (.bin .add (.t 48) (.c (.int .i64 1))) 32776,
 .e 12 (.copy (.t 49)) 32784])))))
 (.seq
 (.block 2
 (.loop
 (.seq
 (.seq
 (.region 5 true [
 .e 50 (.copy (.t 12)) 40960,
 .e 51 (.copy (.t 13)) 40968,
 .f 52 (.bin .leq (.t 50) (.t 51)) 40976 [0, 1],
 .f 53 (.copy (.t 52)) 40984 [2, 0, 1],
 .g 54 (.copy (.t 4)) 3 53 true 40992 [3, 2, 0, 1],
 .g 55 (.copy (.t 0)) 3 53 true 41000 [3, 2, 0, 1],
 .g 56 (.copy (.t 13)) 3 53 true 41008 [3, 2, 0, 1],
 .g 57 (.iaddr 2 (.t 55) (.t 56)) 3 53 true 41016 [5, 3, 2, 0, 1, 6],
 .g 58 (.load true 2 (.t 57)) 3 53 true 41024 [7, 5, 3, 2, 0, 1, 6],
 .g 59 (.copy (.t 0)) 3 53 true 41032 [3, 2, 0, 1],
 .g 60 (.copy (.t 1)) 3 53 true 41040 [3, 2, 0, 1],
 .g 61 (.iaddr 2 (.t 59) (.t 60)) 3 53 true 41048 [9, 3, 2, 0, 1, 10],
 .g 62 (.load true 2 (.t 61)) 3 53 true 41056 [11, 9, 3, 2, 0, 1, 10],
 .g 63 (.call (.t 54) [(.t 58), (.t 62)]) 3 53 true 41064 [4, 3, 2, 0, 1, 8, 7, 5, 6, 12, 11, 9, 10],
 .g 64 (.bin .lss (.t 63) (.c (.int .i64 0))) 3 53 true 41072 [13, 4, 3, 2, 0, 1, 8, 7, 5, 6, 12, 11, 9, 10],
 .g 65 (.not (.t 64)) 3 53 true 41080 [14, 13, 4, 3, 2, 0, 1, 8, 7, 5, 6, 12, 11, 9, 10],
 .f 66 (.pick (.t 53) (.t 65) (.c (.bool false))) 41088 [3, 2, 0, 1, 15, 14, 13, 4, 8, 7, 5, 6, 12, 11, 9, 10]])
 (.cond (.t 66)
 .skip
 (.exit 2)))
 (.block 3
 (.region 6 false [
 .e 67 (.copy (.t 13)) 49152,
 .e 68 (.bin .sub (.t 67) (.c (.int .i64 1))) 49160,
 .e 13 (.copy (.t 68)) 49168])))))
 (.seq
 (.seq
 (.region 7 false [
 .e 69 (.copy (.t 12)) 57344,
 .e 70 (.copy (.t 13)) 57352,
 .e 71 (.bin .gtr (.t 69) (.t 70)) 57360])
 (.cond (.t 71)
 (.seq
 (.region 8 true [
 .e 72 (.copy (.t 0)) 65536,
 .e 73 (.copy (.t 13)) 65544,
 .e 74 (.copy (.t 0)) 65552,
 .e 75 (.copy (.t 1)) 65560,
 .e 76 (.copy (.t 0)) 65568,
 .e 77 (.copy (.t 1)) 65576,
 .f 78 (.iaddr 2 (.t 76) (.t 77)) 65584 [4, 5],
 .f 79 (.load true 2 (.t 78)) 65592 [6, 4, 5],
 .e 80 (.copy (.t 0)) 65600,
 .e 81 (.copy (.t 13)) 65608,
 .f 82 (.iaddr 2 (.t 80) (.t 81)) 65616 [8, 9],
 .f 83 (.load true 2 (.t 82)) 65624 [10, 8, 9],
 .f 84 (.iaddr 2 (.t 72) (.t 73)) 65632 [0, 1, 4, 5, 6, 7, 11, 10, 8, 9],
 .h (.store 2 (.t 84) (.t 79)) 65640 [12, 0, 1, 4, 5, 6, 7, 11, 10, 8, 9],
 .f 85 (.iaddr 2 (.t 74) (.t 75)) 65648 [2, 3, 0, 1, 4, 5, 6, 7, 8, 9, 10, 11, 12, 13],
 .h (.store 2 (.t 85) (.t 83)) 65656 [14, 2, 3, 0, 1, 4, 5, 6, 7, 8, 9, 10, 11, 12, 13]])
 (.seq
 (.region 9 false [
 .e 86 (.copy (.t 13)) 73728,
 .e 10 (.copy (.t 86)) 73736,
 .e 11 (.copy (.c (.bool true))) 73744])
 .ret))
 .skip))
 (.seq
 (.region 10 true [
 .e 87 (.copy (.t 0)) 81920,
 .e 88 (.copy (.t 12)) 81928,
 .e 89 (.copy (.t 0)) 81936,
 .e 90 (.copy (.t 13)) 81944,
 .e 91 (.copy (.t 0)) 81952,
 .e 92 (.copy (.t 13)) 81960,
 .f 93 (.iaddr 2 (.t 91) (.t 92)) 81968 [4, 5],
 .f 94 (.load true 2 (.t 93)) 81976 [6, 4, 5],
 .e 95 (.copy (.t 0)) 81984,
 .e 96 (.copy (.t 12)) 81992,
 .f 97 (.iaddr 2 (.t 95) (.t 96)) 82000 [8, 9],
 .f 98 (.load true 2 (.t 97)) 82008 [10, 8, 9],
 .f 99 (.iaddr 2 (.t 87) (.t 88)) 82016 [0, 1, 4, 5, 6, 7, 11, 10, 8, 9],
 .h (.store 2 (.t 99) (.t 94)) 82024 [12, 0, 1, 4, 5, 6, 7, 11, 10, 8, 9],
 .f 100 (.iaddr 2 (.t 89) (.t 90)) 82032 [2, 3, 0, 1, 4, 5, 6, 7, 8, 9, 10, 11, 12, 13],
 .h (.store 2 (.t 100) (.t 98)) 82040 [14, 2, 3, 0, 1, 4, 5, 6, 7, 8, 9, 10, 11, 12, 13]])
 (.seq
 (.region 11 false [
 .e 101 (.copy (.t 12)) 90112,
 .e 102 (.bin .add (.t 101) (.c (.int .i64 1))) 90120,
 .e 12 (.copy (.t 102)) 90128])
 (.seq
 (.region 12 false [
 .e 103 (.copy (.t 13)) 98304,
 .e 104 (.bin .sub (.t 103) (.c (.int .i64 1))) 98312,
 .e 13 (.copy (.t 104)) 98320])
 (.seq
 (.block 4
 (.loop
 (.block 5
 (.seq
 (.block 6
 (.loop
 (.seq
 (.seq
 (.region 13 true [
 .e 105 (.copy (.t 12)) 106496,
 .e 106 (.copy (.t 13)) 106504,
 .f 107 (.bin .leq (.t 105) (.t 106)) 106512 [0, 1],
 .f 108 (.copy (.t 107)) 106520 [2, 0, 1],
 .g 109 (.copy (.t 4)) 3 108 true 106528 [3, 2, 0, 1],
 .g 110 (.copy (.t 0)) 3 108 true 106536 [3, 2, 0, 1],
 .g 111 (.copy (.t 12)) 3 108 true 106544 [3, 2, 0, 1],
 .g 112 (.iaddr 2 (.t 110) (.t 111)) 3 108 true 106552 [5, 3, 2, 0, 1, 6],
 .g 113 (.load true 2 (.t 112)) 3 108 true 106560 [7, 5, 3, 2, 0, 1, 6],
 .g 114 (.copy (.t 0)) 3 108 true 106568 [3, 2, 0, 1],
 .g 115 (.copy (.t 1)) 3 108 true 106576 [3, 2, 0, 1],
 .g 116 (.iaddr 2 (.t 114) (.t 115)) 3 108 true 106584 [9, 3, 2, 0, 1, 10],
 .g 117 (.load true 2 (.t 116)) 3 108 true 106592 [11, 9, 3, 2, 0, 1, 10],
 .g 118 (.call (.t 109) [(.t 113), (.t 117)]) 3 108 true 106600 [4, 3, 2, 0, 1, 8, 7, 5, 6, 12, 11, 9, 10],
 .g 119 (.bin .lss (.t 118) (.c (.int .i64 0))) 3 108 true 106608 [13, 4, 3, 2, 0, 1, 8, 7, 5, 6, 12, 11, 9, 10],
 .f 120 (.pick (.t 108) (.t 119) (.c (.bool false))) 106616 [3, 2, 0, 1, 14, 13, 4, 8, 7, 5, 6, 12, 11, 9, 10]])
 (.cond (.t 120)
 .skip
 (.exit 6)))
 (.block 7
 (.region 14 false [
 .e 121 (.copy (.t 12)) 114688,
 .e 122 (.bin .add (.t 121) (.c (.int .i64 1))) 114696,
 .e 12 (.copy (.t 122)) 114704])))))
 (.seq
 (.block 8
 (.loop
 (.seq
 (.seq
 (.region 15 true [
 .e 123 (.copy (.t 12)) 122880,
 .e 124 (.copy (.t 13)) 122888,
 .f 125 (.bin .leq (.t 123) (.t 124)) 122896 [0, 1],
 .f 126 (.copy (.t 125)) 122904 [2, 0, 1],
 .g 127 (.copy (.t 4)) 3 126 true 122912 [3, 2, 0, 1],
 .g 128 (.copy (.t 0)) 3 126 true 122920 [3, 2, 0, 1],
 .g 129 (.copy (.t 13)) 3 126 true 122928 [3, 2, 0, 1],
 .g 130 (.iaddr 2 (.t 128) (.t 129)) 3 126 true 122936 [5, 3, 2, 0, 1, 6],
 .g 131 (.load true 2 (.t 130)) 3 126 true 122944 [7, 5, 3, 2, 0, 1, 6],
 .g 132 (.copy (.t 0)) 3 126 true 122952 [3, 2, 0, 1],
 .g 133 (.copy (.t 1)) 3 126 true 122960 [3, 2, 0, 1],
 .g 134 (.iaddr 2 (.t 132) (.t 133)) 3 126 true 122968 [9, 3, 2, 0, 1, 10],
 .g 135 (.load true 2 (.t 134)) 3 126 true 122976 [11, 9, 3, 2, 0, 1, 10],
 .g 136 (.call (.t 127) [(.t 131), (.t 135)]) 3 126 true 122984 [4, 3, 2, 0, 1, 8, 7, 5, 6, 12, 11, 9, 10],
 .g 137 (.bin .lss (.t 136) (.c (.int .i64 0))) 3 126 true 122992 [13, 4, 3, 2, 0, 1, 8, 7, 5, 6, 12, 11, 9, 10],
 .g 138 (.not (.t 137)) 3 126 true 123000 [14, 13, 4, 3, 2, 0, 1, 8, 7, 5, 6, 12, 11, 9, 10],
 .f 139 (.pick (.t 126) (.t 138) (.c (.bool false))) 123008 [3, 2, 0, 1, 15, 14, 13, 4, 8, 7, 5, 6, 12, 11, 9, 10]])
 (.cond (.t 139)
 .skip
 (.exit 8)))
 (.block 9
 (.region 16 false [
 .e 140 (.copy (.t 13)) 131072,
 .e 141 (.bin .sub (.t 140) (.c (.int .i64 1))) 131080,
 .e 13 (.copy (.t 141)) 131088])))))
 (.seq
 (.seq
 (.region 17 false [
 .e 142 (.copy (.t 12)) 139264,
 .e 143 (.copy (.t 13)) 139272,
 .e 144 (.bin .gtr (.t 142) (.t 143)) 139280])
 (.cond (.t 144)
 (.exit 4)
 .skip))
 (.seq
 (.region 18 true [
 .e 145 (.copy (.t 0)) 147456,
 .e 146 (.copy (.t 12)) 147464,
 .e 147 (.copy (.t 0)) 147472,
 .e 148 (.copy (.t 13)) 147480,
 .e 149 (.copy (.t 0)) 147488,
 .e 150 (.copy (.t 13)) 147496,
 .f 151 (.iaddr 2 (.t 149) (.t 150)) 147504 [4, 5],
 .f 152 (.load true 2 (.t 151)) 147512 [6, 4, 5],
 .e 153 (.copy (.t 0)) 147520,
 .e 154 (.copy (.t 12)) 147528,
 .f 155 (.iaddr 2 (.t 153) (.t 154)) 147536 [8, 9],
 .f 156 (.load true 2 (.t 155)) 147544 [10, 8, 9],
 .f 157 (.iaddr 2 (.t 145) (.t 146)) 147552 [0, 1, 4, 5, 6, 7, 11, 10, 8, 9],
 .h (.store 2 (.t 157) (.t 152)) 147560 [12, 0, 1, 4, 5, 6, 7, 11, 10, 8, 9],
 .f 158 (.iaddr 2 (.t 147) (.t 148)) 147568 [2, 3, 0, 1, 4, 5, 6, 7, 8, 9, 10, 11, 12, 13],
 .h (.store 2 (.t 158) (.t 156)) 147576 [14, 2, 3, 0, 1, 4, 5, 6, 7, 8, 9, 10, 11, 12, 13]])
 (.seq
 (.region 19 false [
 .e 159 (.copy (.t 12)) 155648,
 .e 160 (.bin .add (.t 159) (.c (.int .i64 1))) 155656,
 .e 12 (.copy (.t 160)) 155664])
 (.region 20 false [
 .e 161 (.copy (.t 13)) 163840,
 .e 162 (.bin .sub (.t 161) (.c (.int .i64 1))) 163848,
 .e 13 (.copy (.t 162)) 163856])))))))))
 (.seq
 (.region 21 true [
 .e 163 (.copy (.t 0)) 172032,
 .e 164 (.copy (.t 13)) 172040,
 .e 165 (.copy (.t 0)) 172048,
 .e 166 (.copy (.t 1)) 172056,
 .e 167 (.copy (.t 0)) 172064,
 .e 168 (.copy (.t 1)) 172072,
 .f 169 (.iaddr 2 (.t 167) (.t 168)) 172080 [4, 5],
 .f 170 (.load true 2 (.t 169)) 172088 [6, 4, 5],
 .e 171 (.copy (.t 0)) 172096,
 .e 172 (.copy (.t 13)) 172104,
 .f 173 (.iaddr 2 (.t 171) (.t 172)) 172112 [8, 9],
 .f 174 (.load true 2 (.t 173)) 172120 [10, 8, 9],
 .f 175 (.iaddr 2 (.t 163) (.t 164)) 172128 [0, 1, 4, 5, 6, 7, 11, 10, 8, 9],
 .h (.store 2 (.t 175) (.t 170)) 172136 [12, 0, 1, 4, 5, 6, 7, 11, 10, 8, 9],
 .f 176 (.iaddr 2 (.t 165) (.t 166)) 172144 [2, 3, 0, 1, 4, 5, 6, 7, 8, 9, 10, 11, 12, 13],
 .h (.store 2 (.t 176) (.t 174)) 172152 [14, 2, 3, 0, 1, 4, 5, 6, 7, 8, 9, 10, 11, 12, 13]])
 (.seq
 (.region 22 false [
 .e 177 (.copy (.t 13)) 180224,
 .e 10 (.copy (.t 177)) 180232,
 .e 11 (.copy (.c (.bool false))) 180240])
 .ret))))))))))))
theorem vf85 : VF Tryz.prog 85 = some (178, vc85, [.tmp 10, .tmp 11]) := by kernel_rfl
theorem xJh {d : Array SpanL} {pv : SpanL} {a i j i2 j2 : Nat} (hp : d[a]! = pv) (h1 : Sort.scanUp (fun x => !ltS pv x) d j i = i2) (h2 : Sort.scanDown (fun x => ltS pv x) d i2 j = j2) (hi : i ≤ i2) (hj : j2 ≤ j) :
    Sort.partEqLoop ltS a i j d = if i2 > j2 then (i2, d) else Sort.partEqLoop ltS a (i2 + 1) (j2 - 1) (Sort.swp d i2 j2) := by
  subst hp
  rw [Sort.partEqLoop]
  rw [h1, h2]
  split
  · rfl
  · rw [dif_pos (by omega)]
theorem xMa {d : Array SpanL} {pv : SpanL} {a i j i2 j2 : Nat} (hp : d[a]! = pv) (h1 : Sort.scanUp (fun x => ltS x pv) d j i = i2) (h2 : Sort.scanDown (fun x => !ltS x pv) d i2 j = j2) (hi : i ≤ i2) (hj : j2 ≤ j) :
    Sort.partLoop ltS a i j d = if i2 > j2 then (j2, d) else Sort.partLoop ltS a (i2 + 1) (j2 - 1) (Sort.swp d i2 j2) := by
  subst hp
  rw [Sort.partLoop]
  rw [h1, h2]
  split
  · rfl
  · rw [dif_pos (by omega)]
set_option maxHeartbeats 4000000 in
theorem xMZ {N n : Nat} (xs : List SpanL) (a b pivot : Nat) (hN : xs.length = N) (hp1 : a ≤ pivot) (hp2 : pivot < b) (hb : b ≤ n) (hn : n ≤ N) (hm : N ≤ 60000) :
    VC Tryz.prog 84 [.own ⟨0, 0⟩ N 0 n, .int .i64 a, .int .i64 b, .int .i64 pivot, .fn 53 []] [blkV 2 (xs.map encS)] (.int .i64 (Sort.partitionEqual ltS xs.toArray a b pivot).1) (srt (Sort.partitionEqual ltS xs.toArray a b pivot).2) := by
  refine xAG vf84 ?_ (Nat.le_of_ble_eq_true rfl) (by intro vs h; cases h)
  obtain ⟨x0, hx0⟩ : ∃ x, xs[a]? = some x := ⟨_, List.getElem?_eq_getElem (by omega)⟩
  obtain ⟨y0, hy0⟩ : ∃ y, xs[pivot]? = some y := ⟨_, List.getElem?_eq_getElem (by omega)⟩
  have hk1 : 0 + (a : Int).toNat = a := by omega
  have hk2 : 0 + (pivot : Int).toNat = pivot := by omega
  have hx' := xAV hx0 hk1
  have hy' := xAV hy0 hk2
  have hsw := xBe hx0 hy0
  rw [← hk1, ← hk2] at hsw
  unfold Sort.partitionEqual
  rw [xBe hx0 hy0]
  refine xAQ (rg ?_)
  repeat first|refine zA ?_|refine zO ?_|refine zP ?_|refine zQ ?_|refine zT ?_|refine zU ?_|refine zW ?_|refine zX ?_|refine za ?_|refine zb ?_|refine zg ?_|refine zi ?_|refine zj ?_|refine zk ?_|refine zw ?_|refine zx ?_
  refine nl ?_
  refine xAQ (rg ?_)
  repeat first|refine zA ?_|refine xAD ?_|refine o_v (vst encS y0) ?_|refine o_v (vst encS x0) ?_|refine zO ?_|refine zP ?_|refine zQ ?_|refine zT ?_|refine zU ?_|refine zW ?_|refine zX ?_|refine za ?_|refine zb ?_|refine zg ?_|refine zi ?_|refine zj ?_|refine zk ?_|refine zw ?_|refine zx ?_
  refine nl ?_
  refine xAQ (rg ?_)
  repeat first|refine zA ?_|refine zO ?_|refine zP ?_|refine zQ ?_|refine zT ?_|refine zU ?_|refine zW ?_|refine zX ?_|refine za ?_|refine zb ?_|refine zg ?_|refine zi ?_|refine zj ?_|refine zk ?_|refine zw ?_|refine zx ?_
  refine nl ?_
  rw [hk1, hk2]
  have hdl : ((xs.set a y0).set pivot x0).length = N := by simpa only [List.length_set] using hN
  generalize (xs.set a y0).set pivot x0 = ds at hdl
  refine xCB (lvl := 1) (fun (g : Nat × List SpanL) => [(0, .own ⟨0, 0⟩ N 0 n), (11, .int .i64 g.1)]) (fun g => [(⟨0, 0⟩, blkV 2 (g.2.map encS))]) (fun g => (g.1, g.2.toArray) = Sort.partEqLoop ltS a (a + 1) (b - 1) ds.toArray) (xAK ?_) ?_
  · refine xAJ (fun (g : Nat × Nat × List SpanL) => [(0, .own ⟨0, 0⟩ N 0 n), (1, .int .i64 a), (4, .fn 53 []), (11, .int .i64 g.1), (12, .int .i64 (g.2.1 : Nat))])
      (fun g => [(⟨0, 0⟩, blkV 2 (g.2.2.map encS))]) (fun g => g.2.1 + 1 - g.1)
      (fun g => a < g.1 ∧ g.1 ≤ b ∧ g.2.1 < b ∧ g.2.2.length = N ∧ Sort.partEqLoop ltS a g.1 g.2.1 g.2.2.toArray = Sort.partEqLoop ltS a (a + 1) (b - 1) ds.toArray) (a + 1, b - 1, ds)
      (goes (h1 := by refine ⟨rfl, rfl, rfl, rfl, congrArg (fun z => some (PV.int .i64 z)) (by simp only; omega), trivial⟩)) ⟨by simp only; omega, by simp only; omega, by simp only; omega, hdl, rfl⟩ ?_
    rintro ⟨i, j, ys⟩ ⟨hai, hib, hjb, hyl, hv⟩
    dsimp only at hai hib hjb hyl hv ⊢
    obtain ⟨pv, hpv⟩ : ∃ x, ys[a]? = some x := ⟨_, List.getElem?_eq_getElem (by omega)⟩
    have hpv' := xAV (k := 0 + (a : Int).toNat) hpv (by omega)
    refine xAK ?_
    refine xCB (lvl := 1) (fun (g : Nat) => [(0, .own ⟨0, 0⟩ N 0 n), (1, .int .i64 a), (4, .fn 53 []), (12, .int .i64 (j : Nat)), (11, .int .i64 (g : Nat))]) (fun g => [(⟨0, 0⟩, blkV 2 (ys.map encS))]) (fun g => i ≤ g ∧ g ≤ b ∧ Sort.scanUp (fun x => !ltS pv x) ys.toArray j (i) = g) (xAK ?_) ?_
    · refine xAJ (fun (g : Nat) => [(0, .own ⟨0, 0⟩ N 0 n), (1, .int .i64 a), (4, .fn 53 []), (12, .int .i64 (j : Nat)), (11, .int .i64 (g : Nat))]) (fun g => [(⟨0, 0⟩, blkV 2 (ys.map encS))]) (fun g => b - g) (fun g => i ≤ g ∧ g ≤ b ∧ Sort.scanUp (fun x => !ltS pv x) ys.toArray j g = Sort.scanUp (fun x => !ltS pv x) ys.toArray j (i)) (i) goes ⟨Nat.le_refl _, hib, rfl⟩ ?_
      rintro i2 ⟨h1, h2, hw⟩
      (try dsimp only)
      rw [Sort.scanUp] at hw
      by_cases hlt : i2 ≤ j
      · have d1 : decide ((i2 : Int) ≤ (j : Int)) = true := decide_eq_true (by omega)
        obtain ⟨x, hx⟩ : ∃ x, ys[i2]? = some x := ⟨_, List.getElem?_eq_getElem (by omega)⟩
        have hx' := xAV (k := 0 + (i2 : Int).toNat) hx (by omega)
        rw [gb hx] at hw
        repeat first|refine zA ?_|refine zB ?_|refine zC ?_|refine zD ?_|refine zE ?_|refine zF ?_|refine xAD ?_|refine cv0 (xBR pv x) ?_|refine zO ?_|refine zP ?_|refine zQ ?_|refine zT ?_|refine zU ?_|refine zW ?_|refine zX ?_|refine za ?_|refine zb ?_|refine zg ?_|refine zi ?_|refine zj ?_|refine zk ?_|refine zw ?_|refine zx ?_
        refine cnd (fun h => xAB ?_) (fun h => xAE ?_)
        · rw [if_pos (by simp [hlt]; simpa [ltS] using h)] at hw
          repeat first|refine zA ?_|refine zB ?_|refine zC ?_|refine zD ?_|refine zE ?_|refine zF ?_|refine zO ?_|refine zP ?_|refine zQ ?_|refine zT ?_|refine zU ?_|refine zW ?_|refine zX ?_|refine za ?_|refine zb ?_|refine zg ?_|refine zi ?_|refine zj ?_|refine zk ?_|refine zw ?_|refine zx ?_
          exact agn (i2 + 1) ⟨by omega, by omega, hw⟩ goes
        · rw [if_neg (by simp [hlt]; simpa [ltS] using h)] at hw
          exact ⟨i2, ⟨h1, h2, hw.symm⟩, goes⟩
      · have d1 : decide ((i2 : Int) ≤ (j : Int)) = false := decide_eq_false (by omega)
        rw [if_neg (by simp [hlt])] at hw
        repeat first|refine zA ?_|refine zB ?_|refine zC ?_|refine zD ?_|refine zE ?_|refine zF ?_|refine zO ?_|refine zP ?_|refine zQ ?_|refine zT ?_|refine zU ?_|refine zW ?_|refine zX ?_|refine za ?_|refine zb ?_|refine zg ?_|refine zi ?_|refine zj ?_|refine zk ?_|refine zw ?_|refine zx ?_
        refine cndf (xAE ?_)
        exact ⟨i2, ⟨h1, h2, hw.symm⟩, goes⟩
    rintro i2 ⟨hi2, hib2, hu⟩
    (try dsimp only)
    refine xCB (lvl := 1) (fun (g : Nat) => [(0, .own ⟨0, 0⟩ N 0 n), (1, .int .i64 a), (4, .fn 53 []), (11, .int .i64 (i2 : Nat)), (12, .int .i64 (g : Nat))]) (fun g => [(⟨0, 0⟩, blkV 2 (ys.map encS))]) (fun g => g ≤ j ∧ Sort.scanDown (fun x => ltS pv x) ys.toArray i2 j = g) (xAK ?_) ?_
    · refine xAJ (fun (g : Nat) => [(0, .own ⟨0, 0⟩ N 0 n), (1, .int .i64 a), (4, .fn 53 []), (11, .int .i64 (i2 : Nat)), (12, .int .i64 (g : Nat))]) (fun g => [(⟨0, 0⟩, blkV 2 (ys.map encS))]) (fun g => g) (fun g => g ≤ j ∧ Sort.scanDown (fun x => ltS pv x) ys.toArray i2 g = Sort.scanDown (fun x => ltS pv x) ys.toArray i2 j) j goes ⟨Nat.le_refl _, rfl⟩ ?_
      rintro j2 ⟨h1, hw⟩
      (try dsimp only)
      by_cases hlt : i2 ≤ j2
      · obtain ⟨m, rfl⟩ : ∃ m, j2 = m + 1 := ⟨j2 - 1, by omega⟩
        rw [Sort.scanDown] at hw
        have d1 : decide ((i2 : Int) ≤ ((m + 1 : Nat) : Int)) = true := decide_eq_true (by omega)
        obtain ⟨x, hx⟩ : ∃ x, ys[m + 1]? = some x := ⟨_, List.getElem?_eq_getElem (by omega)⟩
        have hx' := xAV (k := 0 + ((m + 1 : Nat) : Int).toNat) hx (by omega)
        rw [gb hx] at hw
        repeat first|refine zA ?_|refine zB ?_|refine zC ?_|refine zD ?_|refine zE ?_|refine zF ?_|refine xAD ?_|refine cv0 (xBR pv x) ?_|refine zO ?_|refine zP ?_|refine zQ ?_|refine zT ?_|refine zU ?_|refine zW ?_|refine zX ?_|refine za ?_|refine zb ?_|refine zg ?_|refine zi ?_|refine zj ?_|refine zk ?_|refine zw ?_|refine zx ?_
        refine cnd (fun h => xAB ?_) (fun h => xAE ?_)
        · rw [if_pos (by simp [hlt]; simpa [ltS] using h)] at hw
          repeat first|refine zA ?_|refine zB ?_|refine zC ?_|refine zD ?_|refine zE ?_|refine zF ?_|refine zO ?_|refine zP ?_|refine zQ ?_|refine zT ?_|refine zU ?_|refine zW ?_|refine zX ?_|refine za ?_|refine zb ?_|refine zg ?_|refine zi ?_|refine zj ?_|refine zk ?_|refine zw ?_|refine zx ?_
          exact agn m ⟨by omega, hw⟩ (goes (h1 := by refine ⟨rfl, rfl, rfl, rfl, congrArg (fun z => some (PV.int .i64 z)) (by omega), trivial⟩))
        · rw [if_neg (by simp [hlt]; simpa [ltS] using h)] at hw
          exact ⟨m + 1, ⟨h1, hw.symm⟩, goes⟩
      · have d1 : decide ((i2 : Int) ≤ (j2 : Int)) = false := decide_eq_false (by omega)
        have hz : Sort.scanDown (fun x => ltS pv x) ys.toArray i2 j2 = j2 := by
          cases j2 with
          | zero => rfl
          | succ m => rw [Sort.scanDown, if_neg (by simp [hlt])]
        rw [hz] at hw
        repeat first|refine zA ?_|refine zB ?_|refine zC ?_|refine zD ?_|refine zE ?_|refine zF ?_|refine zO ?_|refine zP ?_|refine zQ ?_|refine zT ?_|refine zU ?_|refine zW ?_|refine zX ?_|refine za ?_|refine zb ?_|refine zg ?_|refine zi ?_|refine zj ?_|refine zk ?_|refine zw ?_|refine zx ?_
        refine cndf (xAE ?_)
        exact ⟨j2, ⟨h1, hw.symm⟩, goes⟩
    rintro j2 ⟨hj2, hd⟩
    (try dsimp only)
    rw [xJh (gb hpv) hu hd hi2 hj2] at hv
    repeat first|refine zA ?_|refine zB ?_|refine zC ?_|refine zD ?_|refine zE ?_|refine zF ?_|refine zO ?_|refine zP ?_|refine zQ ?_|refine zT ?_|refine zU ?_|refine zW ?_|refine zX ?_|refine za ?_|refine zb ?_|refine zg ?_|refine zi ?_|refine zj ?_|refine zk ?_|refine zw ?_|refine zx ?_
    by_cases hgt : i2 > j2
    · refine cndt (xAE ?_) rfl (decide_eq_true (by omega))
      rw [if_pos hgt] at hv
      exact ⟨(i2, ys), hv, goes⟩
    · refine cndf (xAB ?_) rfl (decide_eq_false (by omega))
      rw [if_neg hgt] at hv
      obtain ⟨x, hx⟩ : ∃ x, ys[i2]? = some x := ⟨_, List.getElem?_eq_getElem (by omega)⟩
      obtain ⟨y, hy⟩ : ∃ y, ys[j2]? = some y := ⟨_, List.getElem?_eq_getElem (by omega)⟩
      have hk1 : 0 + (i2 : Int).toNat = i2 := by omega
      have hk2 : 0 + (j2 : Int).toNat = j2 := by omega
      have hx' := xAV hx hk1
      have hy' := xAV hy hk2
      rw [xBe hx hy] at hv
      repeat first|refine zA ?_|refine zB ?_|refine zC ?_|refine zD ?_|refine zE ?_|refine zF ?_|refine xAD ?_|refine o_v (vst encS y) ?_|refine o_v (vst encS x) ?_|refine zO ?_|refine zP ?_|refine zQ ?_|refine zT ?_|refine zU ?_|refine zW ?_|refine zX ?_|refine za ?_|refine zb ?_|refine zg ?_|refine zi ?_|refine zj ?_|refine zk ?_|refine zw ?_|refine zx ?_
      exact agn (i2 + 1, j2 - 1, (ys.set (0 + (i2 : Int).toNat) y).set (0 + (j2 : Int).toNat) x) ⟨by simp only; omega, by simp only; omega, by simp only; omega, by simpa only [List.length_set] using hyl, by simp only [hk1, hk2]; exact hv⟩
        (goes (h1 := by refine ⟨rfl, rfl, rfl, rfl, congrArg (fun z => some (PV.int .i64 z)) (by simp only; omega), trivial⟩))
  · rintro ⟨r, zs⟩ hr
    dsimp only at hr ⊢
    rw [← hr]
    repeat first|refine zA ?_|refine zB ?_|refine zC ?_|refine zD ?_|refine zE ?_|refine zF ?_|refine zO ?_|refine zP ?_|refine zQ ?_|refine zT ?_|refine zU ?_|refine zW ?_|refine zX ?_|refine za ?_|refine zb ?_|refine zg ?_|refine zi ?_|refine zj ?_|refine zk ?_|refine zw ?_|refine zx ?_
    exact xAC ⟨.inr rfl, oL1 rfl⟩
set_option maxHeartbeats 4000000 in
theorem xPq {N n : Nat} (xs : List SpanL) (a b pivot : Nat) (hN : xs.length = N) (hp1 : a ≤ pivot) (hp2 : pivot < b) (hb : b ≤ n) (hn : n ≤ N) (hm : N ≤ 60000) :
    VC Tryz.prog 85 [.own ⟨0, 0⟩ N 0 n, .int .i64 a, .int .i64 b, .int .i64 pivot, .fn 53 []] [blkV 2 (xs.map encS)] (.tup [.int .i64 (Sort.partition ltS xs.toArray a b pivot).1, .bool (Sort.partition ltS xs.toArray a b pivot).2.1]) (srt (Sort.partition ltS xs.toArray a b pivot).2.2) := by
  refine xAG vf85 ?_ (Nat.le_of_ble_eq_true rfl) (by intro vs h; cases h; simp)
  obtain ⟨x0, hx0⟩ : ∃ x, xs[a]? = some x := ⟨_, List.getElem?_eq_getElem (by omega)⟩
  obtain ⟨y0, hy0⟩ : ∃ y, xs[pivot]? = some y := ⟨_, List.getElem?_eq_getElem (by omega)⟩
  have hk1 : 0 + (a : Int).toNat = a := by omega
  have hk2 : 0 + (pivot : Int).toNat = pivot := by omega
  have hx' := xAV hx0 hk1
  have hy' := xAV hy0 hk2
  have hsw := xBe hx0 hy0
  rw [← hk1, ← hk2] at hsw
  unfold Sort.partition
  simp only
  rw [xBe hx0 hy0]
  refine xAQ (rg ?_)
  repeat first|refine zA ?_|refine zO ?_|refine zP ?_|refine zQ ?_|refine zT ?_|refine zU ?_|refine zW ?_|refine zX ?_|refine za ?_|refine zb ?_|refine zg ?_|refine zi ?_|refine zj ?_|refine zk ?_|refine zw ?_|refine zx ?_
  refine nl ?_
  refine xAQ (rg ?_)
  repeat first|refine zA ?_|refine xAD ?_|refine o_v (vst encS y0) ?_|refine o_v (vst encS x0) ?_|refine zO ?_|refine zP ?_|refine zQ ?_|refine zT ?_|refine zU ?_|refine zW ?_|refine zX ?_|refine za ?_|refine zb ?_|refine zg ?_|refine zi ?_|refine zj ?_|refine zk ?_|refine zw ?_|refine zx ?_
  refine nl ?_
  refine xAQ (rg ?_)
  repeat first|refine zA ?_|refine zO ?_|refine zP ?_|refine zQ ?_|refine zT ?_|refine zU ?_|refine zW ?_|refine zX ?_|refine za ?_|refine zb ?_|refine zg ?_|refine zi ?_|refine zj ?_|refine zk ?_|refine zw ?_|refine zx ?_
  refine nl ?_
  rw [hk1, hk2]
  have hdl : ((xs.set a y0).set pivot x0).length = N := by simpa only [List.length_set] using hN
  generalize (xs.set a y0).set pivot x0 = ys at hdl
  have hyl := hdl
  obtain ⟨pv, hpv⟩ : ∃ x, ys[a]? = some x := ⟨_, List.getElem?_eq_getElem (by omega)⟩
  have hpv' := xAV (k := 0 + (a : Int).toNat) hpv (by omega)
  rw [gb hpv]
  have hjb : b - 1 < b := by omega
  obtain ⟨j, hj⟩ : ∃ j, j = b - 1 := ⟨_, rfl⟩
  have hje : (b : Int) - 1 = (j : Nat) := by omega
  rw [hje, ← hj]
  refine xCB (lvl := 1) (fun (g : Nat) => [(0, .own ⟨0, 0⟩ N 0 n), (1, .int .i64 a), (4, .fn 53 []), (13, .int .i64 (j : Nat)), (12, .int .i64 (g : Nat))]) (fun g => [(⟨0, 0⟩, blkV 2 (ys.map encS))]) (fun g => a + 1 ≤ g ∧ g ≤ b ∧ Sort.scanUp (fun x => ltS x pv) ys.toArray j (a + 1) = g) (xAK ?_) ?_
  · refine xAJ (fun (g : Nat) => [(0, .own ⟨0, 0⟩ N 0 n), (1, .int .i64 a), (4, .fn 53 []), (13, .int .i64 (j : Nat)), (12, .int .i64 (g : Nat))]) (fun g => [(⟨0, 0⟩, blkV 2 (ys.map encS))]) (fun g => b - g) (fun g => a + 1 ≤ g ∧ g ≤ b ∧ Sort.scanUp (fun x => ltS x pv) ys.toArray j g = Sort.scanUp (fun x => ltS x pv) ys.toArray j (a + 1)) (a + 1) goes ⟨Nat.le_refl _, by omega, rfl⟩ ?_
    rintro i2 ⟨h1, h2, hw⟩
    (try dsimp only)
    rw [Sort.scanUp] at hw
    by_cases hlt : i2 ≤ j
    · have d1 : decide ((i2 : Int) ≤ (j : Int)) = true := decide_eq_true (by omega)
      obtain ⟨x, hx⟩ : ∃ x, ys[i2]? = some x := ⟨_, List.getElem?_eq_getElem (by omega)⟩
      have hx' := xAV (k := 0 + (i2 : Int).toNat) hx (by omega)
      rw [gb hx] at hw
      repeat first|refine zA ?_|refine zB ?_|refine zC ?_|refine zD ?_|refine zE ?_|refine zF ?_|refine xAD ?_|refine cv0 (xBR x pv) ?_|refine zO ?_|refine zP ?_|refine zQ ?_|refine zT ?_|refine zU ?_|refine zW ?_|refine zX ?_|refine za ?_|refine zb ?_|refine zg ?_|refine zi ?_|refine zj ?_|refine zk ?_|refine zw ?_|refine zx ?_
      refine cnd (fun h => xAB ?_) (fun h => xAE ?_)
      · rw [if_pos (by simp [hlt]; simpa [ltS] using h)] at hw
        repeat first|refine zA ?_|refine zB ?_|refine zC ?_|refine zD ?_|refine zE ?_|refine zF ?_|refine zO ?_|refine zP ?_|refine zQ ?_|refine zT ?_|refine zU ?_|refine zW ?_|refine zX ?_|refine za ?_|refine zb ?_|refine zg ?_|refine zi ?_|refine zj ?_|refine zk ?_|refine zw ?_|refine zx ?_
        exact agn (i2 + 1) ⟨by omega, by omega, hw⟩ goes
      · rw [if_neg (by simp [hlt]; simpa [ltS] using h)] at hw
        exact ⟨i2, ⟨h1, h2, hw.symm⟩, goes⟩
    · have d1 : decide ((i2 : Int) ≤ (j : Int)) = false := decide_eq_false (by omega)
      rw [if_neg (by simp [hlt])] at hw
      repeat first|refine zA ?_|refine zB ?_|refine zC ?_|refine zD ?_|refine zE ?_|refine zF ?_|refine zO ?_|refine zP ?_|refine zQ ?_|refine zT ?_|refine zU ?_|refine zW ?_|refine zX ?_|refine za ?_|refine zb ?_|refine zg ?_|refine zi ?_|refine zj ?_|refine zk ?_|refine zw ?_|refine zx ?_
      refine cndf (xAE ?_)
      exact ⟨i2, ⟨h1, h2, hw.symm⟩, goes⟩
  rintro i2 ⟨hi2, hib2, hu⟩
  (try dsimp only)
  refine xCB (lvl := 1) (fun (g : Nat) => [(0, .own ⟨0, 0⟩ N 0 n), (1, .int .i64 a), (4, .fn 53 []), (12, .int .i64 (i2 : Nat)), (13, .int .i64 (g : Nat))]) (fun g => [(⟨0, 0⟩, blkV 2 (ys.map encS))]) (fun g => g ≤ j ∧ Sort.scanDown (fun x => !ltS x pv) ys.toArray i2 j = g) (xAK ?_) ?_
  · refine xAJ (fun (g : Nat) => [(0, .own ⟨0, 0⟩ N 0 n), (1, .int .i64 a), (4, .fn 53 []), (12, .int .i64 (i2 : Nat)), (13, .int .i64 (g : Nat))]) (fun g => [(⟨0, 0⟩, blkV 2 (ys.map encS))]) (fun g => g) (fun g => g ≤ j ∧ Sort.scanDown (fun x => !ltS x pv) ys.toArray i2 g = Sort.scanDown (fun x => !ltS x pv) ys.toArray i2 j) j goes ⟨Nat.le_refl _, rfl⟩ ?_
    rintro j2 ⟨h1, hw⟩
    (try dsimp only)
    by_cases hlt : i2 ≤ j2
    · obtain ⟨m, rfl⟩ : ∃ m, j2 = m + 1 := ⟨j2 - 1, by omega⟩
      rw [Sort.scanDown] at hw
      have d1 : decide ((i2 : Int) ≤ ((m + 1 : Nat) : Int)) = true := decide_eq_true (by omega)
      obtain ⟨x, hx⟩ : ∃ x, ys[m + 1]? = some x := ⟨_, List.getElem?_eq_getElem (by omega)⟩
      have hx' := xAV (k := 0 + ((m + 1 : Nat) : Int).toNat) hx (by omega)
      rw [gb hx] at hw
      repeat first|refine zA ?_|refine zB ?_|refine zC ?_|refine zD ?_|refine zE ?_|refine zF ?_|refine xAD ?_|refine cv0 (xBR x pv) ?_|refine zO ?_|refine zP ?_|refine zQ ?_|refine zT ?_|refine zU ?_|refine zW ?_|refine zX ?_|refine za ?_|refine zb ?_|refine zg ?_|refine zi ?_|refine zj ?_|refine zk ?_|refine zw ?_|refine zx ?_
      refine cnd (fun h => xAB ?_) (fun h => xAE ?_)
      · rw [if_pos (by simp [hlt]; simpa [ltS] using h)] at hw
        repeat first|refine zA ?_|refine zB ?_|refine zC ?_|refine zD ?_|refine zE ?_|refine zF ?_|refine zO ?_|refine zP ?_|refine zQ ?_|refine zT ?_|refine zU ?_|refine zW ?_|refine zX ?_|refine za ?_|refine zb ?_|refine zg ?_|refine zi ?_|refine zj ?_|refine zk ?_|refine zw ?_|refine zx ?_
        exact agn m ⟨by omega, hw⟩ (goes (h1 := by refine ⟨rfl, rfl, rfl, rfl, congrArg (fun z => some (PV.int .i64 z)) (by omega), trivial⟩))
      · rw [if_neg (by simp [hlt]; simpa [ltS] using h)] at hw
        exact ⟨m + 1, ⟨h1, hw.symm⟩, goes⟩
    · have d1 : decide ((i2 : Int) ≤ (j2 : Int)) = false := decide_eq_false (by omega)
      have hz : Sort.scanDown (fun x => !ltS x pv) ys.toArray i2 j2 = j2 := by
        cases j2 with
        | zero => rfl
        | succ m => rw [Sort.scanDown, if_neg (by simp [hlt])]
      rw [hz] at hw
      repeat first|refine zA ?_|refine zB ?_|refine zC ?_|refine zD ?_|refine zE ?_|refine zF ?_|refine zO ?_|refine zP ?_|refine zQ ?_|refine zT ?_|refine zU ?_|refine zW ?_|refine zX ?_|refine za ?_|refine zb ?_|refine zg ?_|refine zi ?_|refine zj ?_|refine zk ?_|refine zw ?_|refine zx ?_
      refine cndf (xAE ?_)
      exact ⟨j2, ⟨h1, hw.symm⟩, goes⟩
  rintro j2 ⟨hj2, hd⟩
  (try dsimp only)
  rw [hu, hd]
  repeat first|refine zA ?_|refine zB ?_|refine zC ?_|refine zD ?_|refine zE ?_|refine zF ?_|refine zO ?_|refine zP ?_|refine zQ ?_|refine zT ?_|refine zU ?_|refine zW ?_|refine zX ?_|refine za ?_|refine zb ?_|refine zg ?_|refine zi ?_|refine zj ?_|refine zk ?_|refine zw ?_|refine zx ?_
  by_cases hgt : i2 > j2
  · refine cndt ?_ rfl (decide_eq_true (by omega))
    rw [if_pos hgt]
    obtain ⟨x, hx⟩ : ∃ x, ys[j2]? = some x := ⟨_, List.getElem?_eq_getElem (by omega)⟩
    obtain ⟨y, hy⟩ : ∃ y, ys[a]? = some y := ⟨_, List.getElem?_eq_getElem (by omega)⟩
    have hk1 : 0 + (j2 : Int).toNat = j2 := by omega
    have hk2 : 0 + (a : Int).toNat = a := by omega
    have hx' := xAV hx hk1
    have hy' := xAV hy hk2
    obtain rfl : y = pv := by rw [hpv] at hy; cases hy; rfl
    rw [xBe hx hy]
    repeat first|refine zA ?_|refine zB ?_|refine zC ?_|refine zD ?_|refine zE ?_|refine zF ?_|refine xAD ?_|refine o_v (vst encS y) ?_|refine o_v (vst encS x) ?_|refine zO ?_|refine zP ?_|refine zQ ?_|refine zT ?_|refine zU ?_|refine zW ?_|refine zX ?_|refine za ?_|refine zb ?_|refine zg ?_|refine zi ?_|refine zj ?_|refine zk ?_|refine zw ?_|refine zx ?_
    refine xAC ⟨.inr rfl, oL1 ?_⟩
    simp only [hk1, hk2]
  · refine cndf (xAB ?_) rfl (decide_eq_false (by omega))
    rw [if_neg hgt]
    clear hk1 hk2
    obtain ⟨x, hx⟩ : ∃ x, ys[i2]? = some x := ⟨_, List.getElem?_eq_getElem (by omega)⟩
    obtain ⟨y, hy⟩ : ∃ y, ys[j2]? = some y := ⟨_, List.getElem?_eq_getElem (by omega)⟩
    have hk1 : 0 + (i2 : Int).toNat = i2 := by omega
    have hk2 : 0 + (j2 : Int).toNat = j2 := by omega
    have hx' := xAV hx hk1
    have hy' := xAV hy hk2
    rw [xBe hx hy]
    refine xAQ (rg ?_)
    repeat first|refine zA ?_|refine xAD ?_|refine o_v (vst encS y) ?_|refine o_v (vst encS x) ?_|refine zO ?_|refine zP ?_|refine zQ ?_|refine zT ?_|refine zU ?_|refine zW ?_|refine zX ?_|refine za ?_|refine zb ?_|refine zg ?_|refine zi ?_|refine zj ?_|refine zk ?_|refine zw ?_|refine zx ?_
    refine nl ?_
    refine xAQ (rg ?_)
    repeat first|refine zA ?_|refine zO ?_|refine zP ?_|refine zQ ?_|refine zT ?_|refine zU ?_|refine zW ?_|refine zX ?_|refine za ?_|refine zb ?_|refine zg ?_|refine zi ?_|refine zj ?_|refine zk ?_|refine zw ?_|refine zx ?_
    refine nl ?_
    refine xAQ (rg ?_)
    repeat first|refine zA ?_|refine zO ?_|refine zP ?_|refine zQ ?_|refine zT ?_|refine zU ?_|refine zW ?_|refine zX ?_|refine za ?_|refine zb ?_|refine zg ?_|refine zi ?_|refine zj ?_|refine zk ?_|refine zw ?_|refine zx ?_
    refine nl ?_
    rw [hk1, hk2]
    have hel : ((ys.set i2 y).set j2 x).length = N := by simpa only [List.length_set] using hyl
    generalize (ys.set i2 y).set j2 x = es at hel
    refine xCB (lvl := 1) (fun (g : Nat × List SpanL) => [(0, .own ⟨0, 0⟩ N 0 n), (1, .int .i64 a), (13, .int .i64 g.1)]) (fun g => [(⟨0, 0⟩, blkV 2 (g.2.map encS))]) (fun g => g.1 < b ∧ g.2.length = N ∧ (g.1, g.2.toArray) = Sort.partLoop ltS a (i2 + 1) (j2 - 1) es.toArray) (xAK ?_) ?_
    · refine xAJ (fun (g : Nat × Nat × List SpanL) => [(0, .own ⟨0, 0⟩ N 0 n), (1, .int .i64 a), (4, .fn 53 []), (12, .int .i64 g.1), (13, .int .i64 (g.2.1 : Nat))])
        (fun g => [(⟨0, 0⟩, blkV 2 (g.2.2.map encS))]) (fun g => g.2.1 + 1 - g.1)
        (fun g => a < g.1 ∧ g.1 ≤ b ∧ g.2.1 < b ∧ g.2.2.length = N ∧ Sort.partLoop ltS a g.1 g.2.1 g.2.2.toArray = Sort.partLoop ltS a (i2 + 1) (j2 - 1) es.toArray) (i2 + 1, j2 - 1, es)
        (goes (h1 := by refine ⟨rfl, rfl, rfl, rfl, congrArg (fun z => some (PV.int .i64 z)) (by simp only; omega), trivial⟩)) ⟨by simp only; omega, by simp only; omega, by simp only; omega, hel, rfl⟩ ?_
      generalize Sort.partLoop ltS a (i2 + 1) (j2 - 1) es.toArray = pl
      clear hk1 hk2 hx hy hx' hy' hu hd hpv hpv' hel hyl hdl hgt hi2 hib2 hj2 hjb hje hj hsw hx0 hy0
      rintro ⟨i, j, ys⟩ ⟨hai, hib, hjb, hyl, hv⟩
      dsimp only at hai hib hjb hyl hv ⊢
      obtain ⟨pv, hpv⟩ : ∃ x, ys[a]? = some x := ⟨_, List.getElem?_eq_getElem (by omega)⟩
      have hpv' := xAV (k := 0 + (a : Int).toNat) hpv (by omega)
      refine xAK ?_
      refine xCB (lvl := 1) (fun (g : Nat) => [(0, .own ⟨0, 0⟩ N 0 n), (1, .int .i64 a), (4, .fn 53 []), (13, .int .i64 (j : Nat)), (12, .int .i64 (g : Nat))]) (fun g => [(⟨0, 0⟩, blkV 2 (ys.map encS))]) (fun g => i ≤ g ∧ g ≤ b ∧ Sort.scanUp (fun x => ltS x pv) ys.toArray j (i) = g) (xAK ?_) ?_
      · refine xAJ (fun (g : Nat) => [(0, .own ⟨0, 0⟩ N 0 n), (1, .int .i64 a), (4, .fn 53 []), (13, .int .i64 (j : Nat)), (12, .int .i64 (g : Nat))]) (fun g => [(⟨0, 0⟩, blkV 2 (ys.map encS))]) (fun g => b - g) (fun g => i ≤ g ∧ g ≤ b ∧ Sort.scanUp (fun x => ltS x pv) ys.toArray j g = Sort.scanUp (fun x => ltS x pv) ys.toArray j (i)) (i) goes ⟨Nat.le_refl _, hib, rfl⟩ ?_
        rintro i2 ⟨h1, h2, hw⟩
        (try dsimp only)
        rw [Sort.scanUp] at hw
        by_cases hlt : i2 ≤ j
        · have d1 : decide ((i2 : Int) ≤ (j : Int)) = true := decide_eq_true (by omega)
          obtain ⟨x, hx⟩ : ∃ x, ys[i2]? = some x := ⟨_, List.getElem?_eq_getElem (by omega)⟩
          have hx' := xAV (k := 0 + (i2 : Int).toNat) hx (by omega)
          rw [gb hx] at hw
          repeat first|refine zA ?_|refine zB ?_|refine zC ?_|refine zD ?_|refine zE ?_|refine zF ?_|refine xAD ?_|refine cv0 (xBR x pv) ?_|refine zO ?_|refine zP ?_|refine zQ ?_|refine zT ?_|refine zU ?_|refine zW ?_|refine zX ?_|refine za ?_|refine zb ?_|refine zg ?_|refine zi ?_|refine zj ?_|refine zk ?_|refine zw ?_|refine zx ?_
          refine cnd (fun h => xAB ?_) (fun h => xAE ?_)
          · rw [if_pos (by simp [hlt]; simpa [ltS] using h)] at hw
            repeat first|refine zA ?_|refine zB ?_|refine zC ?_|refine zD ?_|refine zE ?_|refine zF ?_|refine zO ?_|refine zP ?_|refine zQ ?_|refine zT ?_|refine zU ?_|refine zW ?_|refine zX ?_|refine za ?_|refine zb ?_|refine zg ?_|refine zi ?_|refine zj ?_|refine zk ?_|refine zw ?_|refine zx ?_
            exact agn (i2 + 1) ⟨by omega, by omega, hw⟩ goes
          · rw [if_neg (by simp [hlt]; simpa [ltS] using h)] at hw
            exact ⟨i2, ⟨h1, h2, hw.symm⟩, goes⟩
        · have d1 : decide ((i2 : Int) ≤ (j : Int)) = false := decide_eq_false (by omega)
          rw [if_neg (by simp [hlt])] at hw
          repeat first|refine zA ?_|refine zB ?_|refine zC ?_|refine zD ?_|refine zE ?_|refine zF ?_|refine zO ?_|refine zP ?_|refine zQ ?_|refine zT ?_|refine zU ?_|refine zW ?_|refine zX ?_|refine za ?_|refine zb ?_|refine zg ?_|refine zi ?_|refine zj ?_|refine zk ?_|refine zw ?_|refine zx ?_
          refine cndf (xAE ?_)
          exact ⟨i2, ⟨h1, h2, hw.symm⟩, goes⟩
      rintro i2 ⟨hi2, hib2, hu⟩
      (try dsimp only)
      refine xCB (lvl := 1) (fun (g : Nat) => [(0, .own ⟨0, 0⟩ N 0 n), (1, .int .i64 a), (4, .fn 53 []), (12, .int .i64 (i2 : Nat)), (13, .int .i64 (g : Nat))]) (fun g => [(⟨0, 0⟩, blkV 2 (ys.map encS))]) (fun g => g ≤ j ∧ Sort.scanDown (fun x => !ltS x pv) ys.toArray i2 j = g) (xAK ?_) ?_
      · refine xAJ (fun (g : Nat) => [(0, .own ⟨0, 0⟩ N 0 n), (1, .int .i64 a), (4, .fn 53 []), (12, .int .i64 (i2 : Nat)), (13, .int .i64 (g : Nat))]) (fun g => [(⟨0, 0⟩, blkV 2 (ys.map encS))]) (fun g => g) (fun g => g ≤ j ∧ Sort.scanDown (fun x => !ltS x pv) ys.toArray i2 g = Sort.scanDown (fun x => !ltS x pv) ys.toArray i2 j) j goes ⟨Nat.le_refl _, rfl⟩ ?_
        rintro j2 ⟨h1, hw⟩
        (try dsimp only)
        by_cases hlt : i2 ≤ j2
        · obtain ⟨m, rfl⟩ : ∃ m, j2 = m + 1 := ⟨j2 - 1, by omega⟩
          rw [Sort.scanDown] at hw
          have d1 : decide ((i2 : Int) ≤ ((m + 1 : Nat) : Int)) = true := decide_eq_true (by omega)
          obtain ⟨x, hx⟩ : ∃ x, ys[m + 1]? = some x := ⟨_, List.getElem?_eq_getElem (by omega)⟩
          have hx' := xAV (k := 0 + ((m + 1 : Nat) : Int).toNat) hx (by omega)
          rw [gb hx] at hw
          repeat first|refine zA ?_|refine zB ?_|refine zC ?_|refine zD ?_|refine zE ?_|refine zF ?_|refine xAD ?_|refine cv0 (xBR x pv) ?_|refine zO ?_|refine zP ?_|refine zQ ?_|refine zT ?_|refine zU ?_|refine zW ?_|refine zX ?_|refine za ?_|refine zb ?_|refine zg ?_|refine zi ?_|refine zj ?_|refine zk ?_|refine zw ?_|refine zx ?_
          refine cnd (fun h => xAB ?_) (fun h => xAE ?_)
          · rw [if_pos (by simp [hlt]; simpa [ltS] using h)] at hw
            repeat first|refine zA ?_|refine zB ?_|refine zC ?_|refine zD ?_|refine zE ?_|refine zF ?_|refine zO ?_|refine zP ?_|refine zQ ?_|refine zT ?_|refine zU ?_|refine zW ?_|refine zX ?_|refine za ?_|refine zb ?_|refine zg ?_|refine zi ?_|refine zj ?_|refine zk ?_|refine zw ?_|refine zx ?_
            exact agn m ⟨by omega, hw⟩ (goes (h1 := by refine ⟨rfl, rfl, rfl, rfl, congrArg (fun z => some (PV.int .i64 z)) (by omega), trivial⟩))
          · rw [if_neg (by simp [hlt]; simpa [ltS] using h)] at hw
            exact ⟨m + 1, ⟨h1, hw.symm⟩, goes⟩
        · have d1 : decide ((i2 : Int) ≤ (j2 : Int)) = false := decide_eq_false (by omega)
          have hz : Sort.scanDown (fun x => !ltS x pv) ys.toArray i2 j2 = j2 := by
            cases j2 with
            | zero => rfl
            | succ m => rw [Sort.scanDown, if_neg (by simp [hlt])]
          rw [hz] at hw
          repeat first|refine zA ?_|refine zB ?_|refine zC ?_|refine zD ?_|refine zE ?_|refine zF ?_|refine zO ?_|refine zP ?_|refine zQ ?_|refine zT ?_|refine zU ?_|refine zW ?_|refine zX ?_|refine za ?_|refine zb ?_|refine zg ?_|refine zi ?_|refine zj ?_|refine zk ?_|refine zw ?_|refine zx ?_
          refine cndf (xAE ?_)
          exact ⟨j2, ⟨h1, hw.symm⟩, goes⟩
      rintro j2 ⟨hj2, hd⟩
      (try dsimp only)
      rw [xMa (gb hpv) hu hd hi2 hj2] at hv
      repeat first|refine zA ?_|refine zB ?_|refine zC ?_|refine zD ?_|refine zE ?_|refine zF ?_|refine zO ?_|refine zP ?_|refine zQ ?_|refine zT ?_|refine zU ?_|refine zW ?_|refine zX ?_|refine za ?_|refine zb ?_|refine zg ?_|refine zi ?_|refine zj ?_|refine zk ?_|refine zw ?_|refine zx ?_
      by_cases hgt : i2 > j2
      · refine cndt (xAE ?_) rfl (decide_eq_true (by omega))
        rw [if_pos hgt] at hv
        exact ⟨(j2, ys), ⟨by simp only; omega, hyl, hv⟩, goes⟩
      · refine cndf (xAB ?_) rfl (decide_eq_false (by omega))
        rw [if_neg hgt] at hv
        obtain ⟨x, hx⟩ : ∃ x, ys[i2]? = some x := ⟨_, List.getElem?_eq_getElem (by omega)⟩
        obtain ⟨y, hy⟩ : ∃ y, ys[j2]? = some y := ⟨_, List.getElem?_eq_getElem (by omega)⟩
        have hk1 : 0 + (i2 : Int).toNat = i2 := by omega
        have hk2 : 0 + (j2 : Int).toNat = j2 := by omega
        have hx' := xAV hx hk1
        have hy' := xAV hy hk2
        rw [xBe hx hy] at hv
        repeat first|refine zA ?_|refine zB ?_|refine zC ?_|refine zD ?_|refine zE ?_|refine zF ?_|refine xAD ?_|refine o_v (vst encS y) ?_|refine o_v (vst encS x) ?_|refine zO ?_|refine zP ?_|refine zQ ?_|refine zT ?_|refine zU ?_|refine zW ?_|refine zX ?_|refine za ?_|refine zb ?_|refine zg ?_|refine zi ?_|refine zj ?_|refine zk ?_|refine zw ?_|refine zx ?_
        exact agn (i2 + 1, j2 - 1, (ys.set (0 + (i2 : Int).toNat) y).set (0 + (j2 : Int).toNat) x) ⟨by simp only; omega, by simp only; omega, by simp only; omega, by simpa only [List.length_set] using hyl, by simp only [hk1, hk2]; exact hv⟩
          (goes (h1 := by refine ⟨rfl, rfl, rfl, rfl, congrArg (fun z => some (PV.int .i64 z)) (by simp only; omega), trivial⟩))
    · rintro ⟨r, zs⟩ ⟨hrb, hzl, hr⟩
      dsimp only at hrb hzl hr ⊢
      rw [← hr]
      simp only
      clear hk1 hk2 hx hy hx' hy' hyl
      obtain ⟨x, hx⟩ : ∃ x, zs[r]? = some x := ⟨_, List.getElem?_eq_getElem (by omega)⟩
      obtain ⟨y, hy⟩ : ∃ y, zs[a]? = some y := ⟨_, List.getElem?_eq_getElem (by omega)⟩
      have hk1 : 0 + (r : Int).toNat = r := by omega
      have hk2 : 0 + (a : Int).toNat = a := by omega
      have hx' := xAV hx hk1
      have hy' := xAV hy hk2
      rw [xBe hx hy]
      repeat first|refine zA ?_|refine zB ?_|refine zC ?_|refine zD ?_|refine zE ?_|refine zF ?_|refine xAD ?_|refine o_v (vst encS y) ?_|refine o_v (vst encS x) ?_|refine zO ?_|refine zP ?_|refine zQ ?_|refine zT ?_|refine zU ?_|refine zW ?_|refine zX ?_|refine za ?_|refine zb ?_|refine zg ?_|refine zi ?_|refine zj ?_|refine zk ?_|refine zw ?_|refine zx ?_
      refine xAC ⟨.inr rfl, oL1 ?_⟩
      simp only [hk1, hk2]
end Go.Proofs
open Go.V Go.Pu
open Go.V renaming xA4 → zA, nl → zB, xAQ → zC, rg → zD, xAK → zE, bq → zF, xA2 → zO, xAo → zP, xAn → zQ, xCp → zT, xEX → zU, xCo → zW, xBt → zX, xAl → za, xAm → zb, xG4 → zi, xBa → zj, xBb → zk, xDX → zm, skF → zw, skU → zx
set_option linter.unusedVariables false
set_option linter.unusedSimpArgs false
set_option maxRecDepth 20000
namespace Go.Proofs
def vc70 : VCode :=
 (.seq
 (.region 0 false [
 .e 10 (.copy (.c (.bool true))) 0])
 (.seq
 (.region 1 false [
 .e 11 (.copy (.c (.bool true))) 8192])
 (.block 0
 (.loop
 (.block 1
 (.seq
 (.region 2 false [
 .e 21 (.copy (.t 2)) 16384,
 .e 22 (.copy (.t 1)) 16392,
 .e 23 (.bin .sub (.t 21) (.t 22)) 16400,
 .e 12 (.copy (.t 23)) 16408])
 (.seq
 (.seq
 (.region 3 false [
 .e 24 (.copy (.t 12)) 24576,
 .e 25 (.bin .leq (.t 24) (.c (.int .i64 12))) 24584])
 (.cond (.t 25)
 (.seq
 (.region 4 false [
 .e 26 (.copy (.t 0)) 32768,
 .e 27 (.copy (.t 1)) 32776,
 .e 28 (.copy (.t 2)) 32784,
 .e 29 (.copy (.t 4)) 32792,
 .e 30 (.call (.c (.fn 78 [])) [(.t 26), (.t 27), (.t 28), (.t 29)]) 32800])
 .ret)
 .skip))
 (.seq
 (.seq
 (.region 5 false [
 .e 31 (.copy (.t 3)) 40960,
 .e 32 (.bin .eql (.t 31) (.c (.int .i64 0))) 40968])
 (.cond (.t 32)
 (.seq
 (.region 6 false [
 .e 33 (.copy (.t 0)) 49152,
 .e 34 (.copy (.t 1)) 49160,
 .e 35 (.copy (.t 2)) 49168,
 .e 36 (.copy (.t 4)) 49176,
 .e 37 (.call (.c (.fn 79 [])) [(.t 33), (.t 34), (.t 35), (.t 36)]) 49184])
 .ret)
 .skip))
 (.seq
 (.seq
 (.region 7 false [
 .e 38 (.copy (.t 10)) 57344,
 .e 39 (.not (.t 38)) 57352])
 (.cond (.t 39)
 (.seq
 (.region 8 false [
 .e 40 (.copy (.t 0)) 65536,
 .e 41 (.copy (.t 1)) 65544,
 .e 42 (.copy (.t 2)) 65552,
 .e 43 (.copy (.t 4)) 65560,
 .e 44 (.call (.c (.fn 80 [])) [(.t 40), (.t 41), (.t 42), (.t 43)]) 65568])
 (.region 9 false [
 .e 45 (.copy (.t 3)) 73728,
 .e 46 (.bin .sub (.t 45) (.c (.int .i64 1))) 73736,
 .e 3 (.copy (.t 46)) 73744]))
 .skip))
 (.seq
 (.region 10 false [
 .e 48 (.copy (.t 0)) 81920,
 .e 49 (.copy (.t 1)) 81928,
 .e 50 (.copy (.t 2)) 81936,
 .e 51 (.copy (.t 4)) 81944,
 .e 52 (.call (.c (.fn 81 [])) [(.t 48), (.t 49), (.t 50), (.t 51)]) 81952,
 .e 47 (.copy (.t 52)) 81960,
 .e 53 (.extract (.t 47) 0) 81968,
 .e 54 (.extract (.t 47) 1) 81976,
 .e 13 (.copy (.t 53)) 81984,
 .e 14 (.copy (.t 54)) 81992])
 (.seq
 (.seq
 (.region 11 false [
 .e 55 (.copy (.t 14)) 90112,
 .e 56 (.bin .eql (.t 55) (.c (.int .i64 2))) 90120])
 (.cond (.t 56)
 (.seq
 (.region 12 false [
 .e 57 (.copy (.t 0)) 98304,
 .e 58 (.copy (.t 1)) 98312,
 .e 59 (.copy (.t 2)) 98320,
 .e 60 (.copy (.t 4)) 98328,
 .e 61 (.call (.c (.fn 82 [])) [(.t 57), (.t 58), (.t 59), (.t 60)]) 98336])
 (.seq
 (.region 13 false [
 .e 62 (.copy (.t 2)) 106496,
 .e 63 (.bin .sub (.t 62) (.c (.int .i64 1))) 106504,
 .e 64 (.copy (.t 13)) 106512,
 .e 65 (.copy (.t 1)) 106520,
 .e 66 (.bin .sub (.t 64) (.t 65)) 106528,
 .e 67 (.bin .sub (.t 63) (.t 66)) 106536,
 .e 13 (.copy (.t 67)) 106544])
 (.region 14 false [
 .e 14 (.copy (.c (.int .i64 1))) 114688])))
 .skip))
 (.seq
 (.seq
 (.region 15 false [
 .e 68 (.copy (.t 10)) 122880,
 .e 69 (.copy (.t 68)) 122888,
 .g 70 (.copy (.t 11)) 1 69 true 122896 [],
 .e 71 (.pick (.t 69) (.t 70) (.c (.bool false))) 122904,
 .e 72 (.copy (.t 71)) 122912,
 .g 73 (.copy (.t 14)) 4 72 true 122920 [],
 .g 74 (.bin .eql (.t 73) (.c (.int .i64 1))) 4 72 true 122928 [],
 .e 75 (.pick (.t 72) (.t 74) (.c (.bool false))) 122936])
 (.cond (.t 75)
 (.seq
 (.region 16 false [
 .e 76 (.copy (.t 0)) 131072,
 .e 77 (.copy (.t 1)) 131080,
 .e 78 (.copy (.t 2)) 131088,
 .e 79 (.copy (.t 4)) 131096,
 .e 80 (.call (.c (.fn 83 [])) [(.t 76), (.t 77), (.t 78), (.t 79)]) 131104])
 (.cond (.t 80)
 .ret
 .skip))
 .skip))
 (.seq
 (.seq
 (.region 17 true [
 .e 81 (.copy (.t 1)) 139264,
 .f 82 (.bin .gtr (.t 81) (.c (.int .i64 0))) 139272 [0],
 .f 83 (.copy (.t 82)) 139280 [1, 0],
 .g 84 (.copy (.t 4)) 2 83 true 139288 [2, 1, 0],
 .g 85 (.copy (.t 0)) 2 83 true 139296 [2, 1, 0],
 .g 86 (.copy (.t 1)) 2 83 true 139304 [2, 1, 0],
 .g 87 (.bin .sub (.t 86) (.c (.int .i64 1))) 2 83 true 139312 [5, 2, 1, 0],
 .g 88 (.iaddr 2 (.t 85) (.t 87)) 2 83 true 139320 [4, 2, 1, 0, 6, 5],
 .g 89 (.load true 2 (.t 88)) 2 83 true 139328 [7, 4, 2, 1, 0, 6, 5],
 .g 90 (.copy (.t 0)) 2 83 true 139336 [2, 1, 0],
 .g 91 (.copy (.t 13)) 2 83 true 139344 [2, 1, 0],
 .g 92 (.iaddr 2 (.t 90) (.t 91)) 2 83 true 139352 [9, 2, 1, 0, 10],
 .g 93 (.load true 2 (.t 92)) 2 83 true 139360 [11, 9, 2, 1, 0, 10],
 .g 94 (.call (.t 84) [(.t 89), (.t 93)]) 2 83 true 139368 [3, 2, 1, 0, 8, 7, 4, 6, 5, 12, 11, 9, 10],
 .g 95 (.bin .lss (.t 94) (.c (.int .i64 0))) 2 83 true 139376 [13, 3, 2, 1, 0, 8, 7, 4, 6, 5, 12, 11, 9, 10],
 .g 96 (.not (.t 95)) 2 83 true 139384 [14, 13, 3, 2, 1, 0, 8, 7, 4, 6, 5, 12, 11, 9, 10],
 .f 97 (.pick (.t 83) (.t 96) (.c (.bool false))) 139392 [2, 1, 0, 15, 14, 13, 3, 8, 7, 4, 6, 5, 12, 11, 9, 10]])
 (.cond (.t 97)
 (.seq
 (.region 18 false [
 .e 98 (.copy (.t 0)) 147456,
 .e 99 (.copy (.t 1)) 147464,
 .e 100 (.copy (.t 2)) 147472,
 .e 101 (.copy (.t 13)) 147480,
 .e 102 (.copy (.t 4)) 147488,
 .e 103 (.call (.c (.fn 84 [])) [(.t 98), (.t 99), (.t 100), (.t 101), (.t 102)]) 147496,
 .e 15 (.copy (.t 103)) 147504])
 (.seq
 (.region 19 false [
 .e 104 (.copy (.t 15)) 155648,
 .e 1 (.copy (.t 104)) 155656])
 (.exit 1)))
 .skip))
 (.seq
 (.region 20 false [
 .e 106 (.copy (.t 0)) 163840,
 .e 107 (.copy (.t 1)) 163848,
 .e 108 (.copy (.t 2)) 163856,
 .e 109 (.copy (.t 13)) 163864,
 .e 110 (.copy (.t 4)) 163872,
 .e 111 (.call (.c (.fn 85 [])) [(.t 106), (.t 107), (.t 108), (.t 109), (.t 110)]) 163880,
 .e 105 (.copy (.t 111)) 163888,
 .e 112 (.extract (.t 105) 0) 163896,
 .e 113 (.extract (.t 105) 1) 163904,
 .e 16 (.copy (.t 112)) 163912,
 .e 17 (.copy (.t 113)) 163920])
 (.seq
 (.region 21 false [
 .e 114 (.copy (.t 17)) 172032,
 .e 11 (.copy (.t 114)) 172040])
 (.seq
 (.region 22 false [
 .e 115 (.copy (.t 16)) 180224,
 .e 116 (.copy (.t 1)) 180232,
 .e 117 (.bin .sub (.t 115) (.t 116)) 180240,
 .e 118 (.copy (.t 2)) 180248,
 .e 119 (.copy (.t 16)) 180256,
 .e 120 (.bin .sub (.t 118) (.t 119)) 180264,
 .e 18 (.copy (.t 117)) 180272,
 .e 19 (.copy (.t 120)) 180280])
 (.seq
 (.region 23 false [
 .e 121 (.copy (.t 12)) 188416,
 .e 122 (.bin .quo (.t 121) (.c (.int .i64 8))) 188424,
 .e 20 (.copy (.t 122)) 188432])
 (.seq
 (.region 24 false [
 .e 123 (.copy (.t 18)) 196608,
 .e 124 (.copy (.t 19)) 196616,
 .e 125 (.bin .lss (.t 123) (.t 124)) 196624])
 (.cond (.t 125)
 (.seq
 (.region 25 false [
 .e 126 (.copy (.t 18)) 204800,
 .e 127 (.copy (.t 20)) 204808,
 .e 128 (.bin .geq (.t 126) (.t 127)) 204816,
 .e 10 (.copy (.t 128)) 204824])
 (.seq
 (.region 26 false [
 .e 129 (.copy (.t 0)) 212992,
 .e 130 (.copy (.t 1)) 213000,
 .e 131 (.copy (.t 16)) 213008,
 .e 132 (.copy (.t 3)) 213016,
 .e 133 (.copy (.t 4)) 213024,
 .e 134 (.call (.c (.fn 70 [])) [(.t 129), (.t 130), (.t 131), (.t 132), (.t 133)]) 213032])
 (.region 27 false [
 .e 135 (.copy (.t 16)) 221184,
 .e 136 (.bin .add (.t 135) (.c (.int .i64 1))) 221192,
 .e 1 (.copy (.t 136)) 221200])))
 (.seq
 (.region 28 false [
 .e 137 (.copy (.t 19)) 229376,
 .e 138 (.copy (.t 20)) 229384,
 .e 139 (.bin .geq (.t 137) (.t 138)) 229392,
 .e 10 (.copy (.t 139)) 229400])
 (.seq
 (.region 29 false [
 .e 140 (.copy (.t 0)) 237568,
 .e 141 (.copy (.t 16)) 237576,
 .e 142 (.bin .add (.t 141) (.c (.int .i64 1))) 237584,
 .e 143 (.copy (.t 2)) 237592,
 .e 144 (.copy (.t 3)) 237600,
 .e 145 (.copy (.t 4)) 237608,
 .e 146 (.call (.c (.fn 70 [])) [(.t 140), (.t 142), (.t 143), (.t 144), (.t 145)]) 237616])
 (.region 30 false [
 .e 147 (.copy (.t 16)) 245760,
 .e 2 (.copy (.t 147)) 245768]))))))))))))))))))))))
theorem vf70 : VF Tryz.prog 70 = some (148, vc70, []) := by kernel_rfl
theorem xKM {d d1 d2 d3 : Array SpanL} {a b limit l1 pivot : Nat} {wb wp fin : Bool} {c : Nat × Sort.Hint} {hint : Sort.Hint} (h12 : ¬ b - a ≤ 12) (hl : ¬ limit = 0)
    (e1 : (if (!wb) = true then Sort.breakPatterns d a b else d) = d1) (e2 : (if (!wb) = true then limit - 1 else limit) = l1) (e3 : Sort.choosePivot ltS d1 a b = c)
    (e4 : (if c.2 = .decreasing then Sort.reverseRange d1 a b else d1) = d2) (e5 : (if c.2 = .decreasing then (b - 1) - (c.1 - a) else c.1) = pivot) (e6 : (if c.2 = .decreasing then Sort.Hint.increasing else c.2) = hint)
    (e7 : (if (wb && wp && decide (hint = .increasing)) = true then Sort.partialInsertionSort ltS d2 a b else (d2, false)) = (d3, fin)) :
    Sort.pdq ltS d a b limit wb wp = if fin = true then d3 else
      if (decide (a > 0) && !ltS d3[a - 1]! d3[pivot]!) = true then
        (if a < (Sort.partitionEqual ltS d3 a b pivot).1 ∧ (Sort.partitionEqual ltS d3 a b pivot).1 ≤ b then Sort.pdq ltS (Sort.partitionEqual ltS d3 a b pivot).2 (Sort.partitionEqual ltS d3 a b pivot).1 b l1 wb wp else (Sort.partitionEqual ltS d3 a b pivot).2)
      else
        (if a ≤ (Sort.partition ltS d3 a b pivot).1 ∧ (Sort.partition ltS d3 a b pivot).1 < b then
          (if (Sort.partition ltS d3 a b pivot).1 - a < b - (Sort.partition ltS d3 a b pivot).1 then
            Sort.pdq ltS (Sort.pdq ltS (Sort.partition ltS d3 a b pivot).2.2 a (Sort.partition ltS d3 a b pivot).1 l1 true true) ((Sort.partition ltS d3 a b pivot).1 + 1) b l1 (decide ((Sort.partition ltS d3 a b pivot).1 - a ≥ (b - a) / 8)) (Sort.partition ltS d3 a b pivot).2.1
          else Sort.pdq ltS (Sort.pdq ltS (Sort.partition ltS d3 a b pivot).2.2 ((Sort.partition ltS d3 a b pivot).1 + 1) b l1 true true) a (Sort.partition ltS d3 a b pivot).1 l1 (decide (b - (Sort.partition ltS d3 a b pivot).1 ≥ (b - a) / 8)) (Sort.partition ltS d3 a b pivot).2.1)
        else (Sort.partition ltS d3 a b pivot).2.2) := by
  rw [Sort.pdq, if_neg h12, if_neg hl]
  simp only [e1, e2, e3, e4, e5, e6, e7]
  rfl
theorem xKN : ∀ (m : Nat) (d : Array SpanL) (a b limit : Nat) (wb wp : Bool), b - a = m → (Sort.pdq ltS d a b limit wb wp).size = d.size := by
  intro m
  induction m using Nat.strongRecOn with
  | _ m ih =>
  intro d a b limit wb wp hm
  by_cases h12 : b - a ≤ 12
  · rw [Sort.pdq, if_pos h12]; exact xH9 _ _ _ _ _
  by_cases hl : limit = 0
  · rw [Sort.pdq, if_neg h12, if_pos hl]; exact xIC _ _ _ _
  obtain ⟨d1, e1⟩ : ∃ d1, (if (!wb) = true then Sort.breakPatterns d a b else d) = d1 := ⟨_, rfl⟩
  obtain ⟨l1, e2⟩ : ∃ l1, (if (!wb) = true then limit - 1 else limit) = l1 := ⟨_, rfl⟩
  obtain ⟨c, e3⟩ : ∃ c, Sort.choosePivot ltS d1 a b = c := ⟨_, rfl⟩
  obtain ⟨d2, e4⟩ : ∃ d2, (if c.2 = .decreasing then Sort.reverseRange d1 a b else d1) = d2 := ⟨_, rfl⟩
  obtain ⟨pivot, e5⟩ : ∃ p, (if c.2 = .decreasing then (b - 1) - (c.1 - a) else c.1) = p := ⟨_, rfl⟩
  obtain ⟨hint, e6⟩ : ∃ h, (if c.2 = .decreasing then Sort.Hint.increasing else c.2) = h := ⟨_, rfl⟩
  obtain ⟨⟨d3, fin⟩, e7⟩ : ∃ r : Array SpanL × Bool, (if (wb && wp && decide (hint = .increasing)) = true then Sort.partialInsertionSort ltS d2 a b else (d2, false)) = r := ⟨_, rfl⟩
  have h1 : d1.size = d.size := by rw [← e1]; split <;> simp [xLi]
  have h2 : d2.size = d.size := by rw [← e4]; split <;> simp [xIf, h1]
  have h3 : d3.size = d.size := by
    have : (if (wb && wp && decide (hint = .increasing)) = true then Sort.partialInsertionSort ltS d2 a b else (d2, false)).1.size = d.size := by
      split
      · exact (xCX ltS a b 5 (a + 1) d2).trans h2
      · exact h2
    rw [e7] at this; exact this
  rw [xKM h12 hl e1 e2 e3 e4 e5 e6 e7]
  split
  · exact h3
  · split
    · split
      · rename_i h
        rw [ih _ (by omega) _ _ _ _ _ _ rfl, xCW, h3]
      · rw [xCW, h3]
    · split
      · rename_i h
        split
        · rw [ih _ (by omega) _ _ _ _ _ _ rfl, ih _ (by omega) _ _ _ _ _ _ rfl, xCm, h3]
        · rw [ih _ (by omega) _ _ _ _ _ _ rfl, ih _ (by omega) _ _ _ _ _ _ rfl, xCm, h3]
      · rw [xCm, h3]
set_option maxHeartbeats 8000000 in
theorem pdq_vc {N n : Nat} (hn : n ≤ N) (hm : N ≤ 60000) : ∀ (m : Nat) (xs : List SpanL) (a b limit : Nat), b - a = m → xs.length = N → a ≤ b → b ≤ n → limit ≤ 100 →
    VC Tryz.prog 70 [.own ⟨0, 0⟩ N 0 n, .int .i64 a, .int .i64 b, .int .i64 limit, .fn 53 []] [blkV 2 (xs.map encS)] (.tup []) (srt (Sort.pdq ltS xs.toArray a b limit true true)) := by
  intro m
  induction m using Nat.strongRecOn with
  | _ m ih =>
  intro xs a0 b0 limit0 hm0 hN hab0 hb0 hl0
  refine xAG vf70 ?_ (Nat.le_of_ble_eq_true rfl) (by intro vs h; cases h; simp)
  generalize htar : Sort.pdq ltS xs.toArray a0 b0 limit0 true true = tar
  repeat first|refine zA ?_|refine zB ?_|refine zC ?_|refine zD ?_|refine zE ?_|refine zF ?_|refine zO ?_|refine zP ?_|refine zQ ?_|refine zT ?_|refine zU ?_|refine zW ?_|refine zX ?_|refine za ?_|refine zb ?_|refine zi ?_|refine zj ?_|refine zk ?_|refine zm ?_|refine zw ?_|refine zx ?_
  refine xAJ (fun (g : Nat × Nat × Nat × Bool × Bool × List SpanL) => [(0, .own ⟨0, 0⟩ N 0 n), (1, .int .i64 g.1), (2, .int .i64 (g.2.1 : Nat)), (3, .int .i64 (g.2.2.1 : Nat)), (4, .fn 53 []), (10, .bool g.2.2.2.1), (11, .bool g.2.2.2.2.1)])
    (fun g => [(⟨0, 0⟩, blkV 2 (g.2.2.2.2.2.map encS))]) (fun g => g.2.1 - g.1)
    (fun g => g.1 ≤ g.2.1 ∧ g.2.1 ≤ n ∧ g.2.2.1 ≤ 100 ∧ g.2.1 - g.1 ≤ m ∧ g.2.2.2.2.2.length = N ∧ Sort.pdq ltS g.2.2.2.2.2.toArray g.1 g.2.1 g.2.2.1 g.2.2.2.1 g.2.2.2.2.1 = tar) (a0, b0, limit0, true, true, xs)
    goes ⟨hab0, hb0, hl0, by simp only; omega, hN, htar⟩ ?_
  rintro ⟨a, b, lim, wb, wp, ys⟩ ⟨hab, hbn, hlim, hbm, hyl, hv⟩
  dsimp only at hab hbn hlim hbm hyl hv ⊢
  refine xAK ?_
  repeat first|refine zA ?_|refine zB ?_|refine zC ?_|refine zD ?_|refine zE ?_|refine zF ?_|refine zO ?_|refine zP ?_|refine zQ ?_|refine zT ?_|refine zU ?_|refine zW ?_|refine zX ?_|refine za ?_|refine zb ?_|refine zi ?_|refine zj ?_|refine zk ?_|refine zm ?_|refine zw ?_|refine zx ?_
  by_cases h12 : b - a ≤ 12
  · refine cndt ?_ rfl (decide_eq_true (by omega))
    rw [Sort.pdq, if_pos h12] at hv
    subst hv
    repeat first|refine zA ?_|refine zB ?_|refine zC ?_|refine zD ?_|refine zE ?_|refine zF ?_|refine cl (lent := [⟨0, 0⟩]) (ins_vc (n := n) ys a b hyl (by omega) hbn hn (by omega)) ?_|refine zO ?_|refine zP ?_|refine zQ ?_|refine zT ?_|refine zU ?_|refine zW ?_|refine zX ?_|refine za ?_|refine zb ?_|refine zi ?_|refine zj ?_|refine zk ?_|refine zm ?_|refine zw ?_|refine zx ?_
    exact xAC ⟨.inr rfl, oL1 rfl⟩
  refine cndf (xAB ?_) rfl (decide_eq_false (by omega))
  repeat first|refine zA ?_|refine zB ?_|refine zC ?_|refine zD ?_|refine zE ?_|refine zF ?_|refine zO ?_|refine zP ?_|refine zQ ?_|refine zT ?_|refine zU ?_|refine zW ?_|refine zX ?_|refine za ?_|refine zb ?_|refine zi ?_|refine zj ?_|refine zk ?_|refine zm ?_|refine zw ?_|refine zx ?_
  by_cases hl : lim = 0
  · refine cndt ?_ rfl (by simp [hl])
    rw [Sort.pdq, if_neg h12, if_pos hl] at hv
    subst hv
    repeat first|refine zA ?_|refine zB ?_|refine zC ?_|refine zD ?_|refine zE ?_|refine zF ?_|refine cl (lent := [⟨0, 0⟩]) (xQA (n := n) ys a b hyl (by omega) hbn hn (by omega)) ?_|refine zO ?_|refine zP ?_|refine zQ ?_|refine zT ?_|refine zU ?_|refine zW ?_|refine zX ?_|refine za ?_|refine zb ?_|refine zi ?_|refine zj ?_|refine zk ?_|refine zm ?_|refine zw ?_|refine zx ?_
    exact xAC ⟨.inr rfl, oL1 rfl⟩
  refine cndf (xAB ?_) rfl (by simp; omega)
  obtain ⟨d1, e1⟩ : ∃ d1, (if (!wb) = true then Sort.breakPatterns ys.toArray a b else ys.toArray) = d1 := ⟨_, rfl⟩
  obtain ⟨l1, e2⟩ : ∃ l1, (if (!wb) = true then lim - 1 else lim) = l1 := ⟨_, rfl⟩
  have hl1 : l1 ≤ 100 := by rw [← e2]; split <;> omega
  have hs1 : d1.size = N := by
    rw [← e1]
    split
    · rw [(Sort.breakPatterns_holds ys.toArray a b hab (by simp; omega)).1]; simpa using hyl
    · simpa using hyl
  refine xCB (lvl := 1) (fun (g : List SpanL) => [(0, .own ⟨0, 0⟩ N 0 n), (1, .int .i64 a), (2, .int .i64 b), (3, .int .i64 l1), (4, .fn 53 []), (10, .bool wb), (11, .bool wp), (12, .int .i64 ((b : Int) - a))])
    (fun g => [(⟨0, 0⟩, blkV 2 (g.map encS))]) (fun g => g.toArray = d1) ?_ ?_
  · repeat first|refine zA ?_|refine zB ?_|refine zC ?_|refine zD ?_|refine zE ?_|refine zF ?_|refine zO ?_|refine zP ?_|refine zQ ?_|refine zT ?_|refine zU ?_|refine zW ?_|refine zX ?_|refine za ?_|refine zb ?_|refine zi ?_|refine zj ?_|refine zk ?_|refine zm ?_|refine zw ?_|refine zx ?_
    cases wb with
    | true =>
      refine cndf (xAB ?_)
      have : l1 = lim := e2.symm
      subst this
      exact ⟨ys, e1, goes⟩
    | false =>
      refine cndt ?_
      repeat first|refine zA ?_|refine zB ?_|refine zC ?_|refine zD ?_|refine zE ?_|refine zF ?_|refine cl (lent := [⟨0, 0⟩]) (xOn (n := n) ys a b hyl hab hbn hn (by omega)) ?_|refine zO ?_|refine zP ?_|refine zQ ?_|refine zT ?_|refine zU ?_|refine zW ?_|refine zX ?_|refine za ?_|refine zb ?_|refine zi ?_|refine zj ?_|refine zk ?_|refine zm ?_|refine zw ?_|refine zx ?_
      refine ⟨d1.toList, by simp, goes (h1 := by
        refine ⟨rfl, rfl, rfl, congrArg (fun z => some (PV.int .i64 z)) (?_ : (lim : Int) - 1 = (l1 : Nat)), rfl, rfl, rfl, rfl, trivial⟩
        have : lim - 1 = l1 := e2
        omega) (h2 := ?_)⟩
      refine ⟨?_, trivial⟩
      have : Sort.breakPatterns ys.toArray a b = d1 := e1
      rw [← this]; rfl
  rintro ys1 hy1
  (try dsimp only)
  have hy1l : ys1.length = N := by have := congrArg Array.size hy1; simp at this; omega
  have hcb := Sort.choosePivot_holds ltS d1 a b (by omega)
  obtain ⟨c, e3⟩ : ∃ c, Sort.choosePivot ltS d1 a b = c := ⟨_, rfl⟩
  rw [e3] at hcb
  have hcv := xNT (n := n) ys1 a b hy1l (by omega) hbn hn hm
  rw [hy1, e3] at hcv
  refine xAQ (rg ?_)
  repeat first|refine zA ?_|refine cl (lent := [⟨0, 0⟩]) hcv ?_|refine zO ?_|refine zP ?_|refine zQ ?_|refine zT ?_|refine zU ?_|refine zW ?_|refine zX ?_|refine za ?_|refine zb ?_|refine zi ?_|refine zj ?_|refine zk ?_|refine zm ?_|refine zw ?_|refine zx ?_
  refine nl ?_
  obtain ⟨d2, e4⟩ : ∃ d2, (if c.2 = .decreasing then Sort.reverseRange d1 a b else d1) = d2 := ⟨_, rfl⟩
  obtain ⟨pivot, e5⟩ : ∃ p, (if c.2 = .decreasing then (b - 1) - (c.1 - a) else c.1) = p := ⟨_, rfl⟩
  obtain ⟨hint, e6⟩ : ∃ h, (if c.2 = .decreasing then Sort.Hint.increasing else c.2) = h := ⟨_, rfl⟩
  have hp1 : a ≤ pivot := by rw [← e5]; split <;> omega
  have hp2 : pivot < b := by rw [← e5]; split <;> omega
  have hs2 : d2.size = N := by
    rw [← e4]
    split
    · rw [(Sort.reverseRange_holds d1 a b hab (by omega)).1]; exact hs1
    · exact hs1
  refine xCB (lvl := 1) (fun (g : List SpanL) => [(0, .own ⟨0, 0⟩ N 0 n), (1, .int .i64 a), (2, .int .i64 b), (3, .int .i64 l1), (4, .fn 53 []), (10, .bool wb), (11, .bool wp), (12, .int .i64 ((b : Int) - a)), (13, .int .i64 pivot), (14, .int .i64 (hintI hint))])
    (fun g => [(⟨0, 0⟩, blkV 2 (g.map encS))]) (fun g => g.toArray = d2) ?_ ?_
  · repeat first|refine zA ?_|refine zB ?_|refine zC ?_|refine zD ?_|refine zE ?_|refine zF ?_|refine zO ?_|refine zP ?_|refine zQ ?_|refine zT ?_|refine zU ?_|refine zW ?_|refine zX ?_|refine za ?_|refine zb ?_|refine zi ?_|refine zj ?_|refine zk ?_|refine zm ?_|refine zw ?_|refine zx ?_
    by_cases hdec : c.2 = .decreasing
    · rw [if_pos hdec] at e4 e5 e6
      refine cndt ?_ rfl (by rw [hdec]; rfl)
      have hrv := xLP (n := n) ys1 a b hy1l (by omega) hbn hn hm
      repeat first|refine zA ?_|refine zB ?_|refine zC ?_|refine zD ?_|refine zE ?_|refine zF ?_|refine cl (lent := [⟨0, 0⟩]) hrv ?_|refine zO ?_|refine zP ?_|refine zQ ?_|refine zT ?_|refine zU ?_|refine zW ?_|refine zX ?_|refine za ?_|refine zb ?_|refine zi ?_|refine zj ?_|refine zk ?_|refine zm ?_|refine zw ?_|refine zx ?_
      refine ⟨d2.toList, by simp, goes (h1 := by
        refine ⟨rfl, rfl, rfl, rfl, rfl, rfl, rfl, rfl, congrArg (fun z => some (PV.int .i64 z)) (?_ : (b : Int) - 1 - ((c.1 : Int) - a) = (pivot : Nat)), ?_, trivial⟩
        · omega
        · rw [← e6]; rfl) (h2 := ?_)⟩
      refine ⟨?_, trivial⟩
      rw [← e4, ← hy1]; rfl
    · rw [if_neg hdec] at e4 e5 e6
      refine cndf (xAB ?_) rfl (by revert hdec; cases c.2 <;> intro h <;> first | rfl | exact absurd rfl h)
      subst e5 e6
      exact ⟨ys1, hy1.trans e4, goes⟩
  rintro ys2 hy2
  (try dsimp only)
  have hy2l : ys2.length = N := by have := congrArg Array.size hy2; simp at this; omega
  obtain ⟨⟨d3, fin⟩, e7⟩ : ∃ r : Array SpanL × Bool, (if (wb && wp && decide (hint = .increasing)) = true then Sort.partialInsertionSort ltS d2 a b else (d2, false)) = r := ⟨_, rfl⟩
  rw [xKM h12 hl e1 e2 e3 e4 e5 e6 e7] at hv
  have hs3 : d3.size = N := by
    have : (if (wb && wp && decide (hint = .increasing)) = true then Sort.partialInsertionSort ltS d2 a b else (d2, false)).1.size = N := by
      split
      · exact (xCX ltS a b 5 (a + 1) d2).trans hs2
      · exact hs2
    rw [e7] at this; exact this
  clear e1 e2 e3 e4 e5 e6
  refine xCB (lvl := 1) (fun (g : List SpanL) => [(0, .own ⟨0, 0⟩ N 0 n), (1, .int .i64 a), (2, .int .i64 b), (3, .int .i64 l1), (4, .fn 53 []), (10, .bool wb), (11, .bool wp), (12, .int .i64 ((b : Int) - a)), (13, .int .i64 pivot)])
    (fun g => [(⟨0, 0⟩, blkV 2 (g.map encS))]) (fun g => g.toArray = d3 ∧ fin = false) ?_ ?_
  · by_cases hcnd : (wb && wp && decide (hint = .increasing)) = true
    · rw [if_pos hcnd] at e7
      simp only [Bool.and_eq_true, decide_eq_true_eq] at hcnd
      obtain ⟨⟨rfl, rfl⟩, rfl⟩ := hcnd
      have hpi := xPo (n := n) ys2 a b hy2l (by omega) hbn hn hm
      rw [hy2, e7] at hpi
      repeat first|refine zA ?_|refine zB ?_|refine zC ?_|refine zD ?_|refine zE ?_|refine zF ?_|refine zO ?_|refine zP ?_|refine zQ ?_|refine zT ?_|refine zU ?_|refine zW ?_|refine zX ?_|refine za ?_|refine zb ?_|refine zi ?_|refine zj ?_|refine zk ?_|refine zm ?_|refine zw ?_|refine zx ?_
      refine cndt ?_
      repeat first|refine zA ?_|refine zB ?_|refine zC ?_|refine zD ?_|refine zE ?_|refine zF ?_|refine cl (lent := [⟨0, 0⟩]) hpi ?_|refine zO ?_|refine zP ?_|refine zQ ?_|refine zT ?_|refine zU ?_|refine zW ?_|refine zX ?_|refine za ?_|refine zb ?_|refine zi ?_|refine zj ?_|refine zk ?_|refine zm ?_|refine zw ?_|refine zx ?_
      refine cnd (fun hf => ?_) (fun hf => xAB ?_)
      · dsimp only at hf
        subst hf
        rw [if_pos rfl] at hv
        subst hv
        exact xAC ⟨.inr rfl, oL1 rfl⟩
      · exact ⟨d3.toList, ⟨by simp, hf⟩, goes⟩
    · rw [if_neg hcnd] at e7
      cases e7
      cases wb with
      | false =>
        repeat first|refine zA ?_|refine zB ?_|refine zC ?_|refine zD ?_|refine zE ?_|refine zF ?_|refine zO ?_|refine zP ?_|refine zQ ?_|refine zT ?_|refine zU ?_|refine zW ?_|refine zX ?_|refine za ?_|refine zb ?_|refine zi ?_|refine zj ?_|refine zk ?_|refine zm ?_|refine zw ?_|refine zx ?_
        refine cndf (xAB ?_)
        exact ⟨ys2, ⟨hy2, rfl⟩, goes⟩
      | true =>
        cases wp with
        | false =>
          repeat first|refine zA ?_|refine zB ?_|refine zC ?_|refine zD ?_|refine zE ?_|refine zF ?_|refine zO ?_|refine zP ?_|refine zQ ?_|refine zT ?_|refine zU ?_|refine zW ?_|refine zX ?_|refine za ?_|refine zb ?_|refine zi ?_|refine zj ?_|refine zk ?_|refine zm ?_|refine zw ?_|refine zx ?_
          refine cndf (xAB ?_)
          exact ⟨ys2, ⟨hy2, rfl⟩, goes⟩
        | true =>
          repeat first|refine zA ?_|refine zB ?_|refine zC ?_|refine zD ?_|refine zE ?_|refine zF ?_|refine zO ?_|refine zP ?_|refine zQ ?_|refine zT ?_|refine zU ?_|refine zW ?_|refine zX ?_|refine za ?_|refine zb ?_|refine zi ?_|refine zj ?_|refine zk ?_|refine zm ?_|refine zw ?_|refine zx ?_
          refine cndf (xAB ?_) rfl (by revert hcnd; cases hint <;> intro h <;> first | rfl | exact absurd rfl h)
          exact ⟨ys2, ⟨hy2, rfl⟩, goes⟩
  rintro ys3 ⟨hy3, rfl⟩
  rw [if_neg (by decide)] at hv
  (try dsimp only)
  have hy3l : ys3.length = N := by have := congrArg Array.size hy3; simp at this; omega
  have hq := xHw (k := .i64) (n := b - a) (m := 8) (z := (b : Int) - a) (by omega) (by omega) (xCu (by omega) (by omega))
  clear e7 hs2 hs1 hy1l hy1 hy2l hy2 hcv hcb
  refine xCB (lvl := 1) (fun (_ : Unit) => [(0, .own ⟨0, 0⟩ N 0 n), (1, .int .i64 a), (2, .int .i64 b), (3, .int .i64 l1), (4, .fn 53 []), (10, .bool wb), (11, .bool wp), (12, .int .i64 ((b : Int) - a)), (13, .int .i64 pivot)])
    (fun _ => [(⟨0, 0⟩, blkV 2 (ys3.map encS))]) (fun _ => (decide (a > 0) && !ltS d3[a - 1]! d3[pivot]!) = false) ?_ ?_
  · have eqc : ∀ (h : (decide (a > 0) && !ltS d3[a - 1]! d3[pivot]!) = true), Sort.pdq ltS (Sort.partitionEqual ltS d3 a b pivot).2 (Sort.partitionEqual ltS d3 a b pivot).1 b l1 wb wp = tar := by
      intro h
      rw [if_pos h] at hv
      obtain ⟨g1, g2, g3⟩ := xIk ltS (d := d3) hp1 hp2 (by omega)
      rw [if_pos ⟨g1, g2⟩] at hv
      exact hv
    by_cases ha : a > 0
    · have dA : decide ((a : Int) > 0) = true := decide_eq_true (by omega)
      obtain ⟨x, hx⟩ : ∃ x, ys3[a - 1]? = some x := ⟨_, List.getElem?_eq_getElem (by omega)⟩
      obtain ⟨y, hy⟩ : ∃ y, ys3[pivot]? = some y := ⟨_, List.getElem?_eq_getElem (by omega)⟩
      have hx' := xAV (k := 0 + ((a : Int) - 1).toNat) hx (by omega)
      have hy' := xAV (k := 0 + (pivot : Int).toNat) hy (by omega)
      have hxy : (decide (a > 0) && !ltS d3[a - 1]! d3[pivot]!) = !ltS x y := by rw [← hy3, gb hx, gb hy]; simp [ha]
      repeat first|refine zA ?_|refine zB ?_|refine zC ?_|refine zD ?_|refine zE ?_|refine zF ?_|refine xAD ?_|refine cv0 (xBR x y) ?_|refine zO ?_|refine zP ?_|refine zQ ?_|refine zT ?_|refine zU ?_|refine zW ?_|refine zX ?_|refine za ?_|refine zb ?_|refine zi ?_|refine zj ?_|refine zk ?_|refine zm ?_|refine zw ?_|refine zx ?_
      refine cnd (fun hc => ?_) (fun hc => xAB ?_)
      · have hv2 := eqc (hxy.trans (by simpa [ltS] using hc))
        obtain ⟨g1, g2, g3⟩ := xIk ltS (d := d3) hp1 hp2 (by omega)
        have hpe := xMZ (n := n) ys3 a b pivot hy3l hp1 hp2 hbn hn hm
        rw [hy3] at hpe
        generalize Sort.partitionEqual ltS d3 a b pivot = pe at hv2 g1 g2 g3 hpe
        repeat first|refine zA ?_|refine zB ?_|refine zC ?_|refine zD ?_|refine zE ?_|refine zF ?_|refine cl (lent := [⟨0, 0⟩]) hpe ?_|refine zO ?_|refine zP ?_|refine zQ ?_|refine zT ?_|refine zU ?_|refine zW ?_|refine zX ?_|refine za ?_|refine zb ?_|refine zi ?_|refine zj ?_|refine zk ?_|refine zm ?_|refine zw ?_|refine zx ?_
        refine xAE ?_
        exact ⟨(pe.1, b, l1, wb, wp, pe.2.toList), by simp only; omega, ⟨g2, hbn, hl1, by simp only; omega, by simp; omega, by simpa using hv2⟩, goes⟩
      · exact ⟨(), hxy.trans (by simpa [ltS] using hc), goes⟩
    · have dA : decide ((a : Int) > 0) = false := decide_eq_false (by omega)
      repeat first|refine zA ?_|refine zB ?_|refine zC ?_|refine zD ?_|refine zE ?_|refine zF ?_|refine zO ?_|refine zP ?_|refine zQ ?_|refine zT ?_|refine zU ?_|refine zW ?_|refine zX ?_|refine za ?_|refine zb ?_|refine zi ?_|refine zj ?_|refine zk ?_|refine zm ?_|refine zw ?_|refine zx ?_
      refine cndf (xAB ?_)
      exact ⟨(), by simp [ha], goes⟩
  rintro _ hne
  (try dsimp only)
  rw [if_neg (by rw [hne]; decide)] at hv
  obtain ⟨g1, g2, g3, _⟩ := Sort.partition_holds ltS xMs d3 a b pivot hp1 hp2 (by omega)
  have hpt := xPq (n := n) ys3 a b pivot hy3l hp1 hp2 hbn hn hm
  rw [hy3] at hpt
  have gs := g3.1
  rw [if_pos ⟨g1, g2⟩] at hv
  generalize Sort.partition ltS d3 a b pivot = pt at hv g1 g2 gs hpt
  obtain ⟨mid, ap, d4⟩ := pt
  dsimp only at hv g1 g2 gs hpt
  repeat first|refine zA ?_|refine zB ?_|refine zC ?_|refine zD ?_|refine zE ?_|refine zF ?_|refine cl (lent := [⟨0, 0⟩]) hpt ?_|refine xBU hq ?_|refine zO ?_|refine zP ?_|refine zQ ?_|refine zT ?_|refine zU ?_|refine zW ?_|refine zX ?_|refine za ?_|refine zb ?_|refine zi ?_|refine zj ?_|refine zk ?_|refine zm ?_|refine zw ?_|refine zx ?_
  by_cases hlt : mid - a < b - mid
  · rw [if_pos hlt] at hv
    refine cndt ?_ rfl (decide_eq_true (by omega))
    have hrec := ih (mid - a) (by omega) d4.toList a mid l1 rfl (by simp; omega) g1 (by omega) hl1
    have hps : (Sort.pdq ltS d4 a mid l1 true true).size = N := by
      rw [xKN _ _ _ _ _ _ _ rfl]; omega
    rw [Array.toArray_toList] at hrec
    repeat first|refine zA ?_|refine zB ?_|refine zC ?_|refine zD ?_|refine zE ?_|refine zF ?_|refine cl (lent := [⟨0, 0⟩]) hrec ?_|refine zO ?_|refine zP ?_|refine zQ ?_|refine zT ?_|refine zU ?_|refine zW ?_|refine zX ?_|refine za ?_|refine zb ?_|refine zi ?_|refine zj ?_|refine zk ?_|refine zm ?_|refine zw ?_|refine zx ?_
    refine agn (mid + 1, b, l1, decide (mid - a ≥ (b - a) / 8), ap, (Sort.pdq ltS d4 a mid l1 true true).toList) ⟨by simp only; omega, hbn, hl1, by simp only; omega, by simpa using hps, by simpa using hv⟩ (goes (h1 := ?_))
    refine ⟨rfl, rfl, rfl, rfl, rfl, congrArg (fun z => some (PV.bool z)) (decide_eq_decide.2 ?_), rfl, trivial⟩
    omega
  · rw [if_neg hlt] at hv
    refine cndf ?_ rfl (decide_eq_false (by omega))
    have hrec := ih (b - (mid + 1)) (by omega) d4.toList (mid + 1) b l1 rfl (by simp; omega) (by omega) hbn hl1
    have hps : (Sort.pdq ltS d4 (mid + 1) b l1 true true).size = N := by
      rw [xKN _ _ _ _ _ _ _ rfl]; omega
    rw [Array.toArray_toList] at hrec
    repeat first|refine zA ?_|refine zB ?_|refine zC ?_|refine zD ?_|refine zE ?_|refine zF ?_|refine cl (lent := [⟨0, 0⟩]) hrec ?_|refine zO ?_|refine zP ?_|refine zQ ?_|refine zT ?_|refine zU ?_|refine zW ?_|refine zX ?_|refine za ?_|refine zb ?_|refine zi ?_|refine zj ?_|refine zk ?_|refine zm ?_|refine zw ?_|refine zx ?_
    refine agn (a, mid, l1, decide (b - mid ≥ (b - a) / 8), ap, (Sort.pdq ltS d4 (mid + 1) b l1 true true).toList) ⟨g1, by simp only; omega, hl1, by simp only; omega, by simpa using hps, by simpa using hv⟩ (goes (h1 := ?_))
    refine ⟨rfl, rfl, rfl, rfl, rfl, congrArg (fun z => some (PV.bool z)) (decide_eq_decide.2 ?_), rfl, trivial⟩
    omega
end Go.Proofs
open Go.V Go.Pu
open Go.V renaming xA4 → zA, nl → zB, xAQ → zC, rg → zD, xAK → zE, bq → zF, xB6 → zY, xDW → zZ
set_option linter.unusedVariables false
set_option linter.unusedSimpArgs false
set_option maxRecDepth 20000
namespace Go.Proofs
def vc52 : VCode :=
 (.seq
 (.region 0 false [
 .e 5 (.copy (.t 0)) 0,
 .e 6 (.len (.t 5)) 8,
 .e 4 (.copy (.t 6)) 16])
 (.region 1 false [
 .e 7 (.copy (.t 0)) 8192,
 .e 8 (.copy (.t 4)) 8200,
 .e 9 (.copy (.t 4)) 8208,
 .e 10 (.conv .u64 (.t 9)) 8216,
 .e 11 (.call (.c (.fn 71 [])) [(.t 10)]) 8224,
 .e 12 (.copy (.t 1)) 8232,
 .e 13 (.call (.c (.fn 70 [])) [(.t 7), (.c (.int .i64 0)), (.t 8), (.t 11), (.t 12)]) 8240]))
theorem vf52 : VF Tryz.prog 52 = some (14, vc52, []) := by kernel_rfl
theorem xPb {N n : Nat} (xs : List SpanL) (hN : xs.length = N) (hn : n ≤ N) (hm : N ≤ 60000) :
    VC Tryz.prog 52 [.own ⟨0, 0⟩ N 0 n, .fn 53 []] [blkV 2 (xs.map encS)] (.tup []) (srt (Sort.pdq ltS xs.toArray 0 n (Sort.bitsLen n) true true)) := by
  refine xAG vf52 ?_ (Nat.le_of_ble_eq_true rfl) (by intro vs h; cases h; simp)
  have hw := xFj (n := n) (by omega)
  have hb := xNX (n := n) (by omega)
  have hc := pdq_vc (n := n) hn hm n xs 0 n (Sort.bitsLen n) rfl hN (Nat.zero_le _) (Nat.le_refl _) (by omega)
  repeat first|refine zA ?_|refine zB ?_|refine zC ?_|refine zD ?_|refine zE ?_|refine zF ?_|refine xCE ?_|refine cv0 (xO9 (n := n) (by omega)) ?_|refine cl (lent := [⟨0, 0⟩]) hc ?_|refine zY ?_|refine zZ ?_
  exact ⟨.inl rfl, oL1 rfl⟩
end Go.Proofs
