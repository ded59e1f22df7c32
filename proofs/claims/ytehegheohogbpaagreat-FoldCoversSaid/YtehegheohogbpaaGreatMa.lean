/- Ma -/
import Derived.Test.YtehegheohogbpaaGreatSc
import Derived.Test.YtehegheohogbpaaGreatPu
open Go.V Go.Pu
open Go.V renaming xA4 → zA, nl → zB, xAQ → zC, rg → zD, xAK → zE, bq → zF, xBD → zL, xBE → zM, xA2 → zO, xAo → zP, xAn → zQ, xCp → zT, xCo → zW, xBt → zX, xBL → ze
set_option linter.unusedVariables false
set_option linter.unusedSimpArgs false
set_option maxRecDepth 20000
namespace Go.Proofs
def vc41 : VCode :=
 (.seq
 (.region 0 false [
 .e 2 (.copy (.c (.str []))) 0])
 (.seq
 (.region 1 false [
 .e 3 (.bslice 1 [(.str [])] 5 [(0, (.c (.str [97, 47]))), (1, (.c (.str [98, 47]))), (2, (.c (.str [97, 47, 98, 47]))), (3, (.c (.str [99, 47]))), (4, (.c (.str [100, 47])))]) 8192,
 .e 4 (.copy (.t 0)) 8200,
 .e 5 (.bin .rem (.t 4) (.c (.int .u8 5))) 8208,
 .e 6 (.iaddr 1 (.t 3) (.t 5)) 8216,
 .e 7 (.load false 1 (.t 6)) 8224,
 .e 2 (.copy (.t 7)) 8232])
 .ret))
theorem vf41 : VF Tryz.prog 41 = some (8, vc41, [.tmp 2]) := by kernel_rfl
def vc39 : VCode :=
 (.seq
 (.region 0 false [
 .e 2 (.copy (.c (.str []))) 0])
 (.seq
 (.region 1 true [
 .e 3 (.copy (.t 0)) 8192,
 .f 4 (.bin .rem (.t 3) (.c (.int .u8 4))) 8200 [0],
 .f 5 (.call (.c (.fn 41 [])) [(.t 4)]) 8208 [1, 0],
 .e 6 (.bslice 1 [(.str [])] 5 [(0, (.c (.str [1]))), (1, (.c (.str [2, 0, 0]))), (2, (.c (.str [2, 0, 1]))), (3, (.c (.str [2, 0, 2]))), (4, (.c (.str [3, 120])))]) 8216,
 .e 7 (.copy (.t 0)) 8224,
 .f 8 (.bin .quo (.t 7) (.c (.int .u8 4))) 8232 [4],
 .f 9 (.bin .rem (.t 8) (.c (.int .u8 5))) 8240 [5, 4],
 .f 10 (.iaddr 1 (.t 6) (.t 9)) 8248 [3, 6, 5, 4],
 .f 11 (.load false 1 (.t 10)) 8256 [7, 3, 6, 5, 4],
 .f 12 (.bin .add (.t 5) (.t 11)) 8264 [2, 1, 0, 8, 7, 3, 6, 5, 4],
 .f 2 (.copy (.t 12)) 8272 [9, 2, 1, 0, 8, 7, 3, 6, 5, 4]])
 .ret))
theorem vf39 : VF Tryz.prog 39 = some (13, vc39, [.tmp 2]) := by kernel_rfl
def vc44 : VCode :=
 (.seq
 (.region 0 false [
 .e 2 (.copy (.c (.str []))) 0])
 (.seq
 (.region 1 false [
 .e 3 (.bslice 1 [(.str [])] 5 [(0, (.c (.str []))), (1, (.c (.str [120]))), (2, (.c (.str [121, 121]))), (3, (.c (.str [49, 50, 51, 52, 53, 54, 55, 56, 57, 48]))), (4, (.c (.str [0, 255])))]) 8192,
 .e 4 (.copy (.t 0)) 8200,
 .e 5 (.bin .rem (.t 4) (.c (.int .u8 5))) 8208,
 .e 6 (.iaddr 1 (.t 3) (.t 5)) 8216,
 .e 7 (.load false 1 (.t 6)) 8224,
 .e 2 (.copy (.t 7)) 8232])
 .ret))
theorem vf44 : VF Tryz.prog 44 = some (8, vc44, [.tmp 2]) := by kernel_rfl
abbrev encM (m : MsgL) : List PV := [.int .i64 m.kind, .str m.key, .str m.val, .str m.sp.lo, .str m.sp.hi, .str m.fr, .str m.to, .int .i64 m.n]
abbrev encW (x : RawM) : List PV := [.int .u8 x.a, .int .u8 x.b, .int .u8 x.c, .int .u8 x.d, .int .u8 x.e, .int .u8 x.f]
theorem tm (n m : Nat) : Int.tmod (n : Int) (m : Int) = ((n % m : Nat) : Int) := by
  rw [Int.tmod_eq_emod_of_nonneg (by omega)]; rfl
theorem xJg (n : Nat) : VC Tryz.prog 41 [.int .u8 n] [] (.str (xAt n)) [] := by
  have h1 : Int.tmod (n : Int) 5 = ((n % 5 : Nat) : Int) := tm n 5
  have hlt : n % 5 < 5 := Nat.mod_lt _ (by omega)
  have hx : (paths5.map fun s => [PV.str s])[((n % 5 : Nat) : Int).toNat]? = some [.str (xAt n)] := by
    unfold xAt paths5
    rw [Int.toNat_natCast]
    generalize n % 5 = m at hlt
    match m, hlt with
    | 0, _ => rfl
    | 1, _ => rfl
    | 2, _ => rfl
    | 3, _ => rfl
    | 4, _ => rfl
  refine xAG vf41 ?_ (Nat.le_of_ble_eq_true rfl) (by intro vs h; cases h)
  repeat first|refine zA ?_|refine zB ?_|refine zC ?_|refine zD ?_|refine zE ?_|refine zF ?_|refine xCn ?_|refine zL ?_|refine zM ?_|refine zO ?_|refine zP ?_|refine zQ ?_|refine zX ?_|refine ze ?_
  exact xAC ⟨.inr rfl, oS rfl⟩
theorem val_vc (n : Nat) : VC Tryz.prog 44 [.int .u8 n] [] (.str (valM n)) [] := by
  have h1 : Int.tmod (n : Int) 5 = ((n % 5 : Nat) : Int) := tm n 5
  have hlt : n % 5 < 5 := Nat.mod_lt _ (by omega)
  have hx : (vals5.map fun s => [PV.str s])[((n % 5 : Nat) : Int).toNat]? = some [.str (valM n)] := by
    unfold valM vals5
    rw [Int.toNat_natCast]
    generalize n % 5 = m at hlt
    match m, hlt with
    | 0, _ => rfl
    | 1, _ => rfl
    | 2, _ => rfl
    | 3, _ => rfl
    | 4, _ => rfl
  refine xAG vf44 ?_ (Nat.le_of_ble_eq_true rfl) (by intro vs h; cases h)
  repeat first|refine zA ?_|refine zB ?_|refine zC ?_|refine zD ?_|refine zE ?_|refine zF ?_|refine xCn ?_|refine zL ?_|refine zM ?_|refine zO ?_|refine zP ?_|refine zQ ?_|refine zX ?_|refine ze ?_
  exact xAC ⟨.inr rfl, oS rfl⟩
theorem quoN {k : IntKind} {n m : Nat} {z : Int} (hz : z = n) (hm : 0 < m) (hw : k.wrap ((n / m : Nat) : Int) = ((n / m : Nat) : Int)) : bin .quo (.int k z) (.int k (m : Nat)) = some (.int k ((n / m : Nat) : Int)) := by
  subst hz
  have h1 : ((m : Nat) : Int) ≠ 0 := by omega
  have h2 : (n : Int).tdiv (m : Int) = ((n / m : Nat) : Int) := rfl
  simp only [bin, if_true, xDn, if_neg h1, h2, hw]
theorem wrap8 {n : Nat} (h : n < 256) : IntKind.u8.wrap (n : Int) = (n : Int) := by
  simp [IntKind.wrap, IntKind.bits, IntKind.signed]
  omega
theorem xMw {n : Nat} (hn : n < 256) : VC Tryz.prog 39 [.int .u8 n] [] (.str (keyM n)) [] := by
  have h1 : Int.tmod (n : Int) 4 = ((n % 4 : Nat) : Int) := tm n 4
  have hp := xJg (n % 4)
  have hq : bin .quo (.int .u8 (n : Int)) (.int .u8 4) = some (.int .u8 ((n / 4 : Nat) : Int)) := quoN (k := .u8) (n := n) (m := 4) rfl (by omega) (wrap8 (by omega))
  have h2 : Int.tmod ((n / 4 : Nat) : Int) 5 = ((n / 4 % 5 : Nat) : Int) := tm (n / 4) 5
  have hlt : n / 4 % 5 < 5 := Nat.mod_lt _ (by omega)
  have hx : (ends5.map fun s => [PV.str s])[((n / 4 % 5 : Nat) : Int).toNat]? = some [.str (endM (n / 4))] := by
    unfold endM ends5
    rw [Int.toNat_natCast]
    generalize n / 4 % 5 = m at hlt
    match m, hlt with
    | 0, _ => rfl
    | 1, _ => rfl
    | 2, _ => rfl
    | 3, _ => rfl
    | 4, _ => rfl
  have hl1 := (xCi (xCK (n % 4))).1
  have hl2 : ∀ p ∈ ends5, p.length ≤ 3 := by decide
  have hl3 := hl2 _ (xM9 (n / 4))
  refine xAG vf39 ?_ (Nat.le_of_ble_eq_true rfl) (by intro vs h; cases h)
  repeat first|refine zA ?_|refine zB ?_|refine zC ?_|refine zD ?_|refine zE ?_|refine zF ?_|refine xCn ?_|refine cv0 hp ?_|refine xBU hq ?_|refine zL ?_|refine zM ?_|refine zO ?_|refine zP ?_|refine zQ ?_|refine zT ?_|refine zW ?_|refine zX ?_|refine ze ?_
  exact xAC ⟨.inr rfl, oS rfl⟩
end Go.Proofs
open Go.V Go.Pu
open Go.V renaming xA4 → zA, nl → zB, xAQ → zC, rg → zD, xAK → zE, bq → zF, xBD → zL, xBE → zM, xBt → zX, xAl → za, xAm → zb, xFT → zc, xCF → zd, xA7 → zg, xBa → zj, xBb → zk, xDY → zl, xN9 → zn, xKV → zv, skF → zw, skU → zx
set_option linter.unusedVariables false
set_option linter.unusedSimpArgs false
set_option maxRecDepth 20000
namespace Go.Proofs
def vc20 : VCode :=
 (.seq
 (.region 0 false [
 .e 1 (.box (.t 0)) 0,
 .e 2 (.alloc [(.int .i64 0), (.str []), (.str []), (.str []), (.str []), (.str []), (.str []), (.int .i64 0)]) 8])
 (.seq
 (.region 1 true [
 .e 9 (.iaddrA 6 1 (.t 1) (.c (.int .i64 1))) 8192,
 .f 10 (.load false 1 (.t 9)) 8200 [0],
 .f 11 (.call (.c (.fn 39 [])) [(.t 10)]) 8208 [1, 0],
 .e 12 (.iaddrA 6 1 (.t 1) (.c (.int .i64 3))) 8216,
 .f 13 (.load false 1 (.t 12)) 8224 [3],
 .f 14 (.call (.c (.fn 39 [])) [(.t 13)]) 8232 [4, 3, 2, 1, 0],
 .f 3 (.copy (.t 11)) 8240 [2, 1, 0, 5, 4, 3],
 .f 4 (.copy (.t 14)) 8248 [5, 4, 3, 2, 1, 0, 6]])
 (.seq
 (.region 2 false [
 .e 15 (.copy (.t 3)) 16384,
 .e 16 (.copy (.t 4)) 16392,
 .e 17 (.minmax false (.t 15) (.t 16)) 16400,
 .e 18 (.copy (.t 3)) 16408,
 .e 19 (.copy (.t 4)) 16416,
 .e 20 (.minmax true (.t 18) (.t 19)) 16424,
 .e 21 (.build [(.str []), (.str [])] [(0, 1, (.t 17)), (1, 1, (.t 20))]) 16432,
 .e 5 (.alloc [(.str []), (.str [])]) 16440,
 .h (.store 2 (.t 5) (.t 21)) 16448 []])
 (.seq
 (.block 0
 (.seq
 (.region 3 false [
 .e 23 (.iaddrA 6 1 (.t 1) (.c (.int .i64 4))) 24576,
 .e 24 (.load false 1 (.t 23)) 24584,
 .e 25 (.bin .rem (.t 24) (.c (.int .u8 4))) 24592,
 .e 26 (.bin .eql (.t 25) (.c (.int .u8 0))) 24600,
 .e 22 (.copy (.t 26)) 24608])
 (.cond (.t 22)
 (.region 4 false [
 .e 27 (.iaddrA 6 1 (.t 1) (.c (.int .i64 1))) 32768,
 .e 28 (.load false 1 (.t 27)) 32776,
 .e 29 (.call (.c (.fn 41 [])) [(.t 28)]) 32784,
 .e 30 (.call (.c (.fn 40 [])) [(.t 29)]) 32792,
 .h (.store 2 (.t 5) (.t 30)) 32800 []])
 (.seq
 (.region 5 false [
 .e 32 (.iaddrA 6 1 (.t 1) (.c (.int .i64 4))) 40960,
 .e 33 (.load false 1 (.t 32)) 40968,
 .e 34 (.bin .rem (.t 33) (.c (.int .u8 16))) 40976,
 .e 35 (.bin .eql (.t 34) (.c (.int .u8 1))) 40984,
 .e 31 (.copy (.t 35)) 40992])
 (.cond (.t 31)
 (.region 6 false [
 .e 36 (.copy (.t 3)) 49152,
 .e 37 (.build [(.str []), (.str [])] [(0, 1, (.t 36))]) 49160,
 .h (.store 2 (.t 5) (.t 37)) 49168 []])
 (.seq
 (.region 7 false [
 .e 39 (.iaddrA 6 1 (.t 1) (.c (.int .i64 4))) 57344,
 .e 40 (.load false 1 (.t 39)) 57352,
 .e 41 (.bin .rem (.t 40) (.c (.int .u8 16))) 57360,
 .e 42 (.bin .eql (.t 41) (.c (.int .u8 5))) 57368,
 .e 38 (.copy (.t 42)) 57376])
 (.cond (.t 38)
 (.region 8 false [
 .e 43 (.build [(.str []), (.str [])] []) 65536,
 .h (.store 2 (.t 5) (.t 43)) 65544 []])
 (.seq
 (.region 9 false [
 .e 45 (.copy (.t 3)) 73728,
 .e 46 (.copy (.t 4)) 73736,
 .e 47 (.bin .eql (.t 45) (.t 46)) 73744,
 .e 44 (.copy (.t 47)) 73752])
 (.cond (.t 44)
 (.region 10 false [
 .e 48 (.copy (.t 3)) 81920,
 .e 49 (.call (.c (.fn 42 [])) [(.t 48)]) 81928,
 .h (.store 2 (.t 5) (.t 49)) 81936 []])
 .skip)))))))))
 (.seq
 (.region 11 true [
 .e 50 (.iaddrA 6 1 (.t 1) (.c (.int .i64 1))) 90112,
 .f 51 (.load false 1 (.t 50)) 90120 [0],
 .f 52 (.call (.c (.fn 41 [])) [(.t 51)]) 90128 [1, 0],
 .e 53 (.iaddrA 6 1 (.t 1) (.c (.int .i64 3))) 90136,
 .f 54 (.load false 1 (.t 53)) 90144 [3],
 .f 55 (.call (.c (.fn 41 [])) [(.t 54)]) 90152 [4, 3, 2, 1, 0],
 .f 6 (.copy (.t 52)) 90160 [2, 1, 0, 5, 4, 3],
 .f 7 (.copy (.t 55)) 90168 [5, 4, 3, 2, 1, 0, 6]])
 (.seq
 (.seq
 (.region 12 false [
 .e 56 (.copy (.t 6)) 98304,
 .e 57 (.copy (.t 7)) 98312,
 .e 58 (.call (.c (.fn 43 [])) [(.t 56), (.t 57)]) 98320,
 .e 59 (.copy (.t 58)) 98328,
 .g 60 (.copy (.t 7)) 3 59 false 98336 [],
 .g 61 (.copy (.t 6)) 3 59 false 98344 [],
 .g 62 (.call (.c (.fn 43 [])) [(.t 60), (.t 61)]) 3 59 false 98352 [],
 .e 63 (.pick (.t 59) (.c (.bool true)) (.t 62)) 98360])
 (.cond (.t 63)
 (.seq
 (.region 13 false [
 .e 7 (.copy (.c (.str [100, 47]))) 106496])
 (.seq
 (.region 14 false [
 .e 64 (.copy (.t 6)) 114688,
 .e 65 (.bin .eql (.t 64) (.c (.str [100, 47]))) 114696])
 (.cond (.t 65)
 (.region 15 false [
 .e 7 (.copy (.c (.str [99, 47]))) 122880])
 .skip)))
 .skip))
 (.seq
 (.region 16 false [
 .e 66 (.iaddrA 6 1 (.t 1) (.c (.int .i64 5))) 131072,
 .e 67 (.load false 1 (.t 66)) 131080,
 .e 68 (.bin .rem (.t 67) (.c (.int .u8 8))) 131088,
 .e 69 (.conv .i64 (.t 68)) 131096,
 .e 8 (.copy (.t 69)) 131104])
 (.seq
 (.seq
 (.region 17 false [
 .e 70 (.iaddrA 6 1 (.t 1) (.c (.int .i64 0))) 139264,
 .e 71 (.load false 1 (.t 70)) 139272,
 .e 72 (.bin .rem (.t 71) (.c (.int .u8 6))) 139280])
 (.block 1
 (.seq
 (.region 18 false [
 .e 74 (.bin .eql (.t 72) (.c (.int .u8 0))) 147456,
 .e 73 (.copy (.t 74)) 147464])
 (.cond (.t 73)
 (.seq
 (.region 19 false [
 .e 75 (.copy (.t 3)) 155648,
 .e 76 (.iaddrA 6 1 (.t 1) (.c (.int .i64 2))) 155656,
 .e 77 (.load false 1 (.t 76)) 155664,
 .e 78 (.call (.c (.fn 44 [])) [(.t 77)]) 155672,
 .e 79 (.copy (.t 8)) 155680,
 .e 80 (.build [(.int .i64 0), (.str []), (.str []), (.str []), (.str []), (.str []), (.str []), (.int .i64 0)] [(0, 1, (.c (.int .i64 1))), (1, 1, (.t 75)), (2, 1, (.t 78)), (7, 1, (.t 79))]) 155688,
 .h (.store 8 (.t 2) (.t 80)) 155696 []])
 .ret)
 (.seq
 (.region 20 false [
 .e 82 (.bin .eql (.t 72) (.c (.int .u8 1))) 163840,
 .e 81 (.copy (.t 82)) 163848])
 (.cond (.t 81)
 (.seq
 (.region 21 false [
 .e 83 (.copy (.t 3)) 172032,
 .e 84 (.build [(.int .i64 0), (.str []), (.str []), (.str []), (.str []), (.str []), (.str []), (.int .i64 0)] [(0, 1, (.c (.int .i64 2))), (1, 1, (.t 83))]) 172040,
 .h (.store 8 (.t 2) (.t 84)) 172048 []])
 .ret)
 (.seq
 (.region 22 false [
 .e 86 (.bin .eql (.t 72) (.c (.int .u8 2))) 180224,
 .e 85 (.copy (.t 86)) 180232])
 (.cond (.t 85)
 (.seq
 (.region 23 false [
 .e 87 (.load true 2 (.t 5)) 188416,
 .e 88 (.build [(.int .i64 0), (.str []), (.str []), (.str []), (.str []), (.str []), (.str []), (.int .i64 0)] [(0, 1, (.c (.int .i64 3))), (3, 2, (.t 87))]) 188424,
 .h (.store 8 (.t 2) (.t 88)) 188432 []])
 .ret)
 (.seq
 (.region 24 false [
 .e 90 (.bin .eql (.t 72) (.c (.int .u8 3))) 196608,
 .e 89 (.copy (.t 90)) 196616])
 (.cond (.t 89)
 (.seq
 (.region 25 false [
 .e 91 (.copy (.t 6)) 204800,
 .e 92 (.copy (.t 7)) 204808,
 .e 93 (.build [(.int .i64 0), (.str []), (.str []), (.str []), (.str []), (.str []), (.str []), (.int .i64 0)] [(0, 1, (.c (.int .i64 4))), (5, 1, (.t 91)), (6, 1, (.t 92))]) 204816,
 .h (.store 8 (.t 2) (.t 93)) 204824 []])
 .ret)
 (.seq
 (.region 26 false [
 .e 95 (.bin .eql (.t 72) (.c (.int .u8 4))) 212992,
 .e 94 (.copy (.t 95)) 213000])
 (.cond (.t 94)
 (.seq
 (.region 27 false [
 .e 96 (.copy (.t 6)) 221184,
 .e 97 (.copy (.t 7)) 221192,
 .e 98 (.build [(.int .i64 0), (.str []), (.str []), (.str []), (.str []), (.str []), (.str []), (.int .i64 0)] [(0, 1, (.c (.int .i64 5))), (5, 1, (.t 96)), (6, 1, (.t 97))]) 221200,
 .h (.store 8 (.t 2) (.t 98)) 221208 []])
 .ret)
 .skip))))))))))))
 (.seq
 (.region 28 false [
 .e 99 (.load true 2 (.t 5)) 229376,
 .e 100 (.copy (.t 8)) 229384,
 .e 101 (.build [(.int .i64 0), (.str []), (.str []), (.str []), (.str []), (.str []), (.str []), (.int .i64 0)] [(0, 1, (.c (.int .i64 6))), (3, 2, (.t 99)), (7, 1, (.t 100))]) 229392,
 .h (.store 8 (.t 2) (.t 101)) 229400 []])
 .ret)))))))))
theorem vf20 : VF Tryz.prog 20 = some (102, vc20, [.cell true 8 2]) := by kernel_rfl
def vc11 : VCode :=
 (.seq
 (.region 0 false [
 .e 4 (.copy (.c .nils)) 0])
 (.seq
 (.region 1 false [
 .e 7 (.bslice 8 [(.int .i64 0), (.str []), (.str []), (.str []), (.str []), (.str []), (.str []), (.int .i64 0)] 0 []) 8192,
 .e 5 (.copy (.t 7)) 8200])
 (.seq
 (.seq
 (.region 2 false [
 .e 6 (.copy (.c (.int .i64 0))) 16384])
 (.block 0
 (.loop
 (.seq
 (.seq
 (.region 3 false [
 .e 8 (.copy (.t 6)) 24576,
 .e 9 (.copy (.t 0)) 24584,
 .e 10 (.len (.t 9)) 24592,
 .e 11 (.bin .lss (.t 8) (.t 10)) 24600,
 .e 12 (.copy (.t 11)) 24608,
 .g 13 (.copy (.t 6)) 4 12 true 24616 [],
 .g 14 (.copy (.t 1)) 4 12 true 24624 [],
 .g 15 (.bin .lss (.t 13) (.t 14)) 4 12 true 24632 [],
 .e 16 (.pick (.t 12) (.t 15) (.c (.bool false))) 24640])
 (.cond (.t 16)
 .skip
 (.exit 0)))
 (.seq
 (.block 1
 (.region 5 false [
 .e 19 (.copy (.t 5)) 40960,
 .e 20 (.copy (.t 0)) 40968,
 .e 21 (.copy (.t 6)) 40976,
 .e 22 (.iaddr 6 (.t 20) (.t 21)) 40984,
 .e 23 (.load true 6 (.t 22)) 40992,
 .e 24 (.call (.c (.fn 20 [])) [(.t 23)]) 41000,
 .e 25 (.bslice 8 [(.int .i64 0), (.str []), (.str []), (.str []), (.str []), (.str []), (.str []), (.int .i64 0)] 1 [(0, (.t 24))]) 41008,
 .e 26 (.append 8 112 [(.int .i64 0), (.str []), (.str []), (.str []), (.str []), (.str []), (.str []), (.int .i64 0)] (.t 19) (.t 25)) 41016,
 .e 5 (.copy (.t 26)) 41024]))
 (.region 4 false [
 .e 17 (.copy (.t 6)) 32768,
 .e 18 (.bin .add (.t 17) (.c (.int .i64 1))) 32776,
 .e 6 (.copy (.t 18)) 32784]))))))
 (.seq
 (.region 6 false [
 .e 27 (.copy (.t 5)) 49152,
 .e 4 (.copy (.t 27)) 49160])
 .ret))))
theorem vf11 : VF Tryz.prog 11 = some (28, vc11, [.tmp 4]) := by kernel_rfl
theorem min_eq (a b : Str) : (if (Op.bytesLess a b || a == b) = true then a else b) = minS a b := by
  unfold minS
  rcases xBw a b with h | h | h
  · have := xBX h; simp [h, this]
  · subst h; simp [xAk]
  · have h1 := xBX h
    have h2 := xJL h
    simp [h, h1, h2.symm]
set_option maxHeartbeats 4000000 in
theorem xMq {x : RawM} (hx : x.ok) : VC Tryz.prog 20 [.agg (encW x)] [] (.agg (encM (xAW x))) [] := by
  obtain ⟨x1, x2, x3, x4, x5, x6⟩ := hx
  have k1 := xMw x2
  have k2 := xMw x4
  have p1 := xJg x.b
  have p2 := xJg x.d
  have hl1 := (xCi (xCK x.b)).1
  have hl2 := (xCi (xCK x.d)).1
  have hk1 := xJt x.b
  have v1 := val_vc x.c
  have e1 : Int.tmod (x.e : Int) 4 = ((x.e % 4 : Nat) : Int) := tm x.e 4
  have e2 : Int.tmod (x.e : Int) 16 = ((x.e % 16 : Nat) : Int) := tm x.e 16
  have e3 : Int.tmod (x.f : Int) 8 = ((x.f % 8 : Nat) : Int) := tm x.f 8
  have e4 : Int.tmod (x.a : Int) 6 = ((x.a % 6 : Nat) : Int) := tm x.a 6
  have w3 : IntKind.i64.wrap ((x.f % 8 : Nat) : Int) = ((x.f % 8 : Nat) : Int) := xCu (by omega) (by omega)
  have pr := xDq (xAt x.b) (by omega)
  have on := xMN (keyM x.b) (by omega)
  have b1 := xJM (xAt x.b) (xAt x.d) (by omega) (by omega)
  have b2 := xJM (xAt x.d) (xAt x.b) (by omega) (by omega)
  refine xAG vf20 ?_ (Nat.le_of_ble_eq_true rfl) (by intro vs h; cases h)
  refine xAQ (rg ?_)
  repeat first|refine zA ?_|refine zL ?_|refine zM ?_|refine zX ?_|refine za ?_|refine zb ?_|refine zc ?_|refine zd ?_|refine zg ?_|refine zj ?_|refine zk ?_|refine zl ?_|refine zn ?_|refine zv ?_|refine zw ?_|refine zx ?_
  refine nl ?_
  refine xAQ (rg ?_)
  repeat first|refine zA ?_|refine cv0 k1 ?_|refine cv0 k2 ?_|refine zL ?_|refine zM ?_|refine zX ?_|refine za ?_|refine zb ?_|refine zc ?_|refine zd ?_|refine zg ?_|refine zj ?_|refine zk ?_|refine zl ?_|refine zn ?_|refine zv ?_|refine zw ?_|refine zx ?_
  refine nl ?_
  refine xAQ (rg ?_)
  repeat first|refine zA ?_|refine zL ?_|refine zM ?_|refine zX ?_|refine za ?_|refine zb ?_|refine zc ?_|refine zd ?_|refine zg ?_|refine zj ?_|refine zk ?_|refine zl ?_|refine zn ?_|refine zv ?_|refine zw ?_|refine zx ?_
  refine nl ?_
  refine xCB (lvl := 1) (fun (_ : Unit) => [(1, .ptr ⟨1, 0⟩ 1 0 0), (2, .ptr ⟨1, 8⟩ 1 0 0), (3, .str (keyM x.b)), (4, .str (keyM x.d)), (5, .ptr ⟨1, 16440⟩ 1 0 0)])
    (fun _ => [(⟨1, 0⟩, ⟨true, false, 6, [encW x]⟩), (⟨1, 8⟩, ⟨true, false, 8, [[.int .i64 0, .str [], .str [], .str [], .str [], .str [], .str [], .int .i64 0]]⟩), (⟨1, 16440⟩, ⟨true, false, 2, [encS (spM x)]⟩)]) (fun _ => True) ?_ ?_
  · by_cases h1 : x.e % 4 = 0
    · have g1 : (((x.e % 4 : Nat) : Int) == 0) = true := by rw [h1]; rfl
      have e : spM x = xAU (xAt x.b) := by unfold spM; rw [if_pos h1]
      rw [e]
      repeat first|refine zA ?_|refine zB ?_|refine zC ?_|refine zD ?_|refine zE ?_|refine zF ?_|refine xCn ?_|refine zL ?_|refine zM ?_|refine zX ?_|refine za ?_|refine zb ?_|refine zc ?_|refine zd ?_|refine zg ?_|refine zj ?_|refine zk ?_|refine zl ?_|refine zn ?_|refine zv ?_|refine zw ?_|refine zx ?_
      refine cndt ?_
      repeat first|refine zA ?_|refine zB ?_|refine zC ?_|refine zD ?_|refine zE ?_|refine zF ?_|refine cv0 p1 ?_|refine cv0 pr ?_|refine zL ?_|refine zM ?_|refine zX ?_|refine za ?_|refine zb ?_|refine zc ?_|refine zd ?_|refine zg ?_|refine zj ?_|refine zk ?_|refine zl ?_|refine zn ?_|refine zv ?_|refine zw ?_|refine zx ?_
      exact ⟨(), trivial, xBd⟩
    have g1 : (((x.e % 4 : Nat) : Int) == 0) = false := by simp; omega
    by_cases h2 : x.e % 16 = 1
    · have g2 : (((x.e % 16 : Nat) : Int) == 1) = true := by rw [h2]; rfl
      have e : spM x = ⟨keyM x.b, []⟩ := by unfold spM; rw [if_neg h1, if_pos h2]
      rw [e]
      repeat first|refine zA ?_|refine zB ?_|refine zC ?_|refine zD ?_|refine zE ?_|refine zF ?_|refine xCn ?_|refine zL ?_|refine zM ?_|refine zX ?_|refine za ?_|refine zb ?_|refine zc ?_|refine zd ?_|refine zg ?_|refine zj ?_|refine zk ?_|refine zl ?_|refine zn ?_|refine zv ?_|refine zw ?_|refine zx ?_
      refine cndf ?_
      repeat first|refine zA ?_|refine zB ?_|refine zC ?_|refine zD ?_|refine zE ?_|refine zF ?_|refine xCn ?_|refine zL ?_|refine zM ?_|refine zX ?_|refine za ?_|refine zb ?_|refine zc ?_|refine zd ?_|refine zg ?_|refine zj ?_|refine zk ?_|refine zl ?_|refine zn ?_|refine zv ?_|refine zw ?_|refine zx ?_
      refine cndt ?_
      repeat first|refine zA ?_|refine zB ?_|refine zC ?_|refine zD ?_|refine zE ?_|refine zF ?_|refine zL ?_|refine zM ?_|refine zX ?_|refine za ?_|refine zb ?_|refine zc ?_|refine zd ?_|refine zg ?_|refine zj ?_|refine zk ?_|refine zl ?_|refine zn ?_|refine zv ?_|refine zw ?_|refine zx ?_
      exact ⟨(), trivial, xBd⟩
    have g2 : (((x.e % 16 : Nat) : Int) == 1) = false := by simp; omega
    by_cases h3 : x.e % 16 = 5
    · have g3 : (((x.e % 16 : Nat) : Int) == 5) = true := by rw [h3]; rfl
      have e : spM x = ⟨[], []⟩ := by unfold spM; rw [if_neg h1, if_neg h2, if_pos h3]
      rw [e]
      repeat first|refine zA ?_|refine zB ?_|refine zC ?_|refine zD ?_|refine zE ?_|refine zF ?_|refine xCn ?_|refine zL ?_|refine zM ?_|refine zX ?_|refine za ?_|refine zb ?_|refine zc ?_|refine zd ?_|refine zg ?_|refine zj ?_|refine zk ?_|refine zl ?_|refine zn ?_|refine zv ?_|refine zw ?_|refine zx ?_
      refine cndf ?_
      repeat first|refine zA ?_|refine zB ?_|refine zC ?_|refine zD ?_|refine zE ?_|refine zF ?_|refine xCn ?_|refine zL ?_|refine zM ?_|refine zX ?_|refine za ?_|refine zb ?_|refine zc ?_|refine zd ?_|refine zg ?_|refine zj ?_|refine zk ?_|refine zl ?_|refine zn ?_|refine zv ?_|refine zw ?_|refine zx ?_
      refine cndf ?_
      repeat first|refine zA ?_|refine zB ?_|refine zC ?_|refine zD ?_|refine zE ?_|refine zF ?_|refine xCn ?_|refine zL ?_|refine zM ?_|refine zX ?_|refine za ?_|refine zb ?_|refine zc ?_|refine zd ?_|refine zg ?_|refine zj ?_|refine zk ?_|refine zl ?_|refine zn ?_|refine zv ?_|refine zw ?_|refine zx ?_
      refine cndt ?_
      repeat first|refine zA ?_|refine zB ?_|refine zC ?_|refine zD ?_|refine zE ?_|refine zF ?_|refine zL ?_|refine zM ?_|refine zX ?_|refine za ?_|refine zb ?_|refine zc ?_|refine zd ?_|refine zg ?_|refine zj ?_|refine zk ?_|refine zl ?_|refine zn ?_|refine zv ?_|refine zw ?_|refine zx ?_
      exact ⟨(), trivial, xBd⟩
    have g3 : (((x.e % 16 : Nat) : Int) == 5) = false := by simp; omega
    by_cases h4 : keyM x.b = keyM x.d
    · have g4 : (keyM x.b == keyM x.d) = true := by rw [h4]; simp
      have e : spM x = oneL (keyM x.b) := by unfold spM; rw [if_neg h1, if_neg h2, if_neg h3, if_pos h4]
      rw [e]
      repeat first|refine zA ?_|refine zB ?_|refine zC ?_|refine zD ?_|refine zE ?_|refine zF ?_|refine xCn ?_|refine zL ?_|refine zM ?_|refine zX ?_|refine za ?_|refine zb ?_|refine zc ?_|refine zd ?_|refine zg ?_|refine zj ?_|refine zk ?_|refine zl ?_|refine zn ?_|refine zv ?_|refine zw ?_|refine zx ?_
      refine cndf ?_
      repeat first|refine zA ?_|refine zB ?_|refine zC ?_|refine zD ?_|refine zE ?_|refine zF ?_|refine xCn ?_|refine zL ?_|refine zM ?_|refine zX ?_|refine za ?_|refine zb ?_|refine zc ?_|refine zd ?_|refine zg ?_|refine zj ?_|refine zk ?_|refine zl ?_|refine zn ?_|refine zv ?_|refine zw ?_|refine zx ?_
      refine cndf ?_
      repeat first|refine zA ?_|refine zB ?_|refine zC ?_|refine zD ?_|refine zE ?_|refine zF ?_|refine xCn ?_|refine zL ?_|refine zM ?_|refine zX ?_|refine za ?_|refine zb ?_|refine zc ?_|refine zd ?_|refine zg ?_|refine zj ?_|refine zk ?_|refine zl ?_|refine zn ?_|refine zv ?_|refine zw ?_|refine zx ?_
      refine cndf ?_
      repeat first|refine zA ?_|refine zB ?_|refine zC ?_|refine zD ?_|refine zE ?_|refine zF ?_|refine zL ?_|refine zM ?_|refine zX ?_|refine za ?_|refine zb ?_|refine zc ?_|refine zd ?_|refine zg ?_|refine zj ?_|refine zk ?_|refine zl ?_|refine zn ?_|refine zv ?_|refine zw ?_|refine zx ?_
      refine cndt ?_
      repeat first|refine zA ?_|refine zB ?_|refine zC ?_|refine zD ?_|refine zE ?_|refine zF ?_|refine cv0 on ?_|refine zL ?_|refine zM ?_|refine zX ?_|refine za ?_|refine zb ?_|refine zc ?_|refine zd ?_|refine zg ?_|refine zj ?_|refine zk ?_|refine zl ?_|refine zn ?_|refine zv ?_|refine zw ?_|refine zx ?_
      exact ⟨(), trivial, xBd⟩
    · have g4 : (keyM x.b == keyM x.d) = false := by simpa using h4
      have e : spM x = ⟨minS (keyM x.b) (keyM x.d), maxL (keyM x.b) (keyM x.d)⟩ := by unfold spM; rw [if_neg h1, if_neg h2, if_neg h3, if_neg h4]
      rw [e, ← min_eq]
      repeat first|refine zA ?_|refine zB ?_|refine zC ?_|refine zD ?_|refine zE ?_|refine zF ?_|refine xCn ?_|refine zL ?_|refine zM ?_|refine zX ?_|refine za ?_|refine zb ?_|refine zc ?_|refine zd ?_|refine zg ?_|refine zj ?_|refine zk ?_|refine zl ?_|refine zn ?_|refine zv ?_|refine zw ?_|refine zx ?_
      refine cndf ?_
      repeat first|refine zA ?_|refine zB ?_|refine zC ?_|refine zD ?_|refine zE ?_|refine zF ?_|refine xCn ?_|refine zL ?_|refine zM ?_|refine zX ?_|refine za ?_|refine zb ?_|refine zc ?_|refine zd ?_|refine zg ?_|refine zj ?_|refine zk ?_|refine zl ?_|refine zn ?_|refine zv ?_|refine zw ?_|refine zx ?_
      refine cndf ?_
      repeat first|refine zA ?_|refine zB ?_|refine zC ?_|refine zD ?_|refine zE ?_|refine zF ?_|refine xCn ?_|refine zL ?_|refine zM ?_|refine zX ?_|refine za ?_|refine zb ?_|refine zc ?_|refine zd ?_|refine zg ?_|refine zj ?_|refine zk ?_|refine zl ?_|refine zn ?_|refine zv ?_|refine zw ?_|refine zx ?_
      refine cndf ?_
      repeat first|refine zA ?_|refine zB ?_|refine zC ?_|refine zD ?_|refine zE ?_|refine zF ?_|refine zL ?_|refine zM ?_|refine zX ?_|refine za ?_|refine zb ?_|refine zc ?_|refine zd ?_|refine zg ?_|refine zj ?_|refine zk ?_|refine zl ?_|refine zn ?_|refine zv ?_|refine zw ?_|refine zx ?_
      refine cndf (xAB ?_)
      exact ⟨(), trivial, xBd⟩
  intro _ _
  generalize hsp : spM x = sp
  refine xAQ (rg ?_)
  repeat first|refine zA ?_|refine cv0 p1 ?_|refine cv0 p2 ?_|refine zL ?_|refine zM ?_|refine zX ?_|refine za ?_|refine zb ?_|refine zc ?_|refine zd ?_|refine zg ?_|refine zj ?_|refine zk ?_|refine zl ?_|refine zn ?_|refine zv ?_|refine zw ?_|refine zx ?_
  refine nl ?_
  refine xCB (lvl := 1) (fun (_ : Unit) => [(1, .ptr ⟨1, 0⟩ 1 0 0), (2, .ptr ⟨1, 8⟩ 1 0 0), (3, .str (keyM x.b)), (5, .ptr ⟨1, 16440⟩ 1 0 0), (6, .str (xAt x.b)), (7, .str (toM x))])
    (fun _ => [(⟨1, 0⟩, ⟨true, false, 6, [encW x]⟩), (⟨1, 8⟩, ⟨true, false, 8, [[.int .i64 0, .str [], .str [], .str [], .str [], .str [], .str [], .int .i64 0]]⟩), (⟨1, 16440⟩, ⟨true, false, 2, [encS sp]⟩)]) (fun _ => True) ?_ ?_
  · by_cases hA : xAF (xAt x.b) (xAt x.d) = true ∨ xAF (xAt x.d) (xAt x.b) = true
    · by_cases hB : xAt x.b = [100, 47]
      · have g4 : (xAt x.b == [100, 47]) = true := by rw [hB]; rfl
        have e : toM x = [99, 47] := by unfold toM; rw [if_pos hA, if_pos hB]
        rw [e]
        cases hb1 : xAF (xAt x.b) (xAt x.d) with
        | true =>
          rw [hb1] at b1
          repeat first|refine zA ?_|refine zB ?_|refine zC ?_|refine zD ?_|refine zE ?_|refine zF ?_|refine cv0 b1 ?_|refine zL ?_|refine zM ?_|refine zX ?_|refine za ?_|refine zb ?_|refine zc ?_|refine zd ?_|refine zg ?_|refine zj ?_|refine zk ?_|refine zl ?_|refine zn ?_|refine zv ?_|refine zw ?_|refine zx ?_
          refine cndt ?_
          repeat first|refine zA ?_|refine zB ?_|refine zC ?_|refine zD ?_|refine zE ?_|refine zF ?_|refine zL ?_|refine zM ?_|refine zX ?_|refine za ?_|refine zb ?_|refine zc ?_|refine zd ?_|refine zg ?_|refine zj ?_|refine zk ?_|refine zl ?_|refine zn ?_|refine zv ?_|refine zw ?_|refine zx ?_
          refine cndt ?_
          repeat first|refine zA ?_|refine zB ?_|refine zC ?_|refine zD ?_|refine zE ?_|refine zF ?_|refine zL ?_|refine zM ?_|refine zX ?_|refine za ?_|refine zb ?_|refine zc ?_|refine zd ?_|refine zg ?_|refine zj ?_|refine zk ?_|refine zl ?_|refine zn ?_|refine zv ?_|refine zw ?_|refine zx ?_
          exact ⟨(), trivial, xBd⟩
        | false =>
          rw [hb1] at b1
          rw [hA.resolve_left (by rw [hb1]; simp)] at b2
          repeat first|refine zA ?_|refine zB ?_|refine zC ?_|refine zD ?_|refine zE ?_|refine zF ?_|refine cv0 b1 ?_|refine cv0 b2 ?_|refine zL ?_|refine zM ?_|refine zX ?_|refine za ?_|refine zb ?_|refine zc ?_|refine zd ?_|refine zg ?_|refine zj ?_|refine zk ?_|refine zl ?_|refine zn ?_|refine zv ?_|refine zw ?_|refine zx ?_
          refine cndt ?_
          repeat first|refine zA ?_|refine zB ?_|refine zC ?_|refine zD ?_|refine zE ?_|refine zF ?_|refine zL ?_|refine zM ?_|refine zX ?_|refine za ?_|refine zb ?_|refine zc ?_|refine zd ?_|refine zg ?_|refine zj ?_|refine zk ?_|refine zl ?_|refine zn ?_|refine zv ?_|refine zw ?_|refine zx ?_
          refine cndt ?_
          repeat first|refine zA ?_|refine zB ?_|refine zC ?_|refine zD ?_|refine zE ?_|refine zF ?_|refine zL ?_|refine zM ?_|refine zX ?_|refine za ?_|refine zb ?_|refine zc ?_|refine zd ?_|refine zg ?_|refine zj ?_|refine zk ?_|refine zl ?_|refine zn ?_|refine zv ?_|refine zw ?_|refine zx ?_
          exact ⟨(), trivial, xBd⟩
      · have g4 : (xAt x.b == [100, 47]) = false := by simpa using hB
        have e : toM x = [100, 47] := by unfold toM; rw [if_pos hA, if_neg hB]
        rw [e]
        cases hb1 : xAF (xAt x.b) (xAt x.d) with
        | true =>
          rw [hb1] at b1
          repeat first|refine zA ?_|refine zB ?_|refine zC ?_|refine zD ?_|refine zE ?_|refine zF ?_|refine cv0 b1 ?_|refine zL ?_|refine zM ?_|refine zX ?_|refine za ?_|refine zb ?_|refine zc ?_|refine zd ?_|refine zg ?_|refine zj ?_|refine zk ?_|refine zl ?_|refine zn ?_|refine zv ?_|refine zw ?_|refine zx ?_
          refine cndt ?_
          repeat first|refine zA ?_|refine zB ?_|refine zC ?_|refine zD ?_|refine zE ?_|refine zF ?_|refine zL ?_|refine zM ?_|refine zX ?_|refine za ?_|refine zb ?_|refine zc ?_|refine zd ?_|refine zg ?_|refine zj ?_|refine zk ?_|refine zl ?_|refine zn ?_|refine zv ?_|refine zw ?_|refine zx ?_
          refine cndf (xAB ?_)
          exact ⟨(), trivial, xBd⟩
        | false =>
          rw [hb1] at b1
          rw [hA.resolve_left (by rw [hb1]; simp)] at b2
          repeat first|refine zA ?_|refine zB ?_|refine zC ?_|refine zD ?_|refine zE ?_|refine zF ?_|refine cv0 b1 ?_|refine cv0 b2 ?_|refine zL ?_|refine zM ?_|refine zX ?_|refine za ?_|refine zb ?_|refine zc ?_|refine zd ?_|refine zg ?_|refine zj ?_|refine zk ?_|refine zl ?_|refine zn ?_|refine zv ?_|refine zw ?_|refine zx ?_
          refine cndt ?_
          repeat first|refine zA ?_|refine zB ?_|refine zC ?_|refine zD ?_|refine zE ?_|refine zF ?_|refine zL ?_|refine zM ?_|refine zX ?_|refine za ?_|refine zb ?_|refine zc ?_|refine zd ?_|refine zg ?_|refine zj ?_|refine zk ?_|refine zl ?_|refine zn ?_|refine zv ?_|refine zw ?_|refine zx ?_
          refine cndf (xAB ?_)
          exact ⟨(), trivial, xBd⟩
    · have e : toM x = xAt x.d := by unfold toM; rw [if_neg hA]
      rw [e]
      have hb1 : xAF (xAt x.b) (xAt x.d) = false := by cases h : xAF (xAt x.b) (xAt x.d) with | false => rfl | true => exact (hA (.inl h)).elim
      have hb2 : xAF (xAt x.d) (xAt x.b) = false := by cases h : xAF (xAt x.d) (xAt x.b) with | false => rfl | true => exact (hA (.inr h)).elim
      rw [hb1] at b1
      rw [hb2] at b2
      repeat first|refine zA ?_|refine zB ?_|refine zC ?_|refine zD ?_|refine zE ?_|refine zF ?_|refine cv0 b1 ?_|refine cv0 b2 ?_|refine zL ?_|refine zM ?_|refine zX ?_|refine za ?_|refine zb ?_|refine zc ?_|refine zd ?_|refine zg ?_|refine zj ?_|refine zk ?_|refine zl ?_|refine zn ?_|refine zv ?_|refine zw ?_|refine zx ?_
      refine cndf (xAB ?_)
      exact ⟨(), trivial, xBd⟩
  intro _ _
  have h6 : x.a % 6 < 6 := Nat.mod_lt _ (by omega)
  by_cases c0 : x.a % 6 = 0
  · have g0 : (((x.a % 6 : Nat) : Int) == 0) = true := by rw [c0]; rfl
    have e : xAW x = ⟨1, keyM x.b, valM x.c, ⟨[], []⟩, [], [], (x.f % 8 : Nat)⟩ := by unfold xAW; rw [if_pos c0]
    rw [e]
    repeat first|refine zA ?_|refine zB ?_|refine zC ?_|refine zD ?_|refine zE ?_|refine zF ?_|refine xCn ?_|refine xCE ?_|refine zL ?_|refine zM ?_|refine zX ?_|refine za ?_|refine zb ?_|refine zc ?_|refine zd ?_|refine zg ?_|refine zj ?_|refine zk ?_|refine zl ?_|refine zn ?_|refine zv ?_|refine zw ?_|refine zx ?_
    refine cndt ?_
    repeat first|refine zA ?_|refine zB ?_|refine zC ?_|refine zD ?_|refine zE ?_|refine zF ?_|refine cv0 v1 ?_|refine zL ?_|refine zM ?_|refine zX ?_|refine za ?_|refine zb ?_|refine zc ?_|refine zd ?_|refine zg ?_|refine zj ?_|refine zk ?_|refine zl ?_|refine zn ?_|refine zv ?_|refine zw ?_|refine zx ?_
    exact xAC ⟨.inr rfl, oAny rfl⟩
  have g0 : (((x.a % 6 : Nat) : Int) == 0) = false := by simp; omega
  by_cases c1 : x.a % 6 = 1
  · have g1 : (((x.a % 6 : Nat) : Int) == 1) = true := by rw [c1]; rfl
    have e : xAW x = ⟨2, keyM x.b, [], ⟨[], []⟩, [], [], 0⟩ := by unfold xAW; rw [if_neg c0, if_pos c1]
    rw [e]
    repeat first|refine zA ?_|refine zB ?_|refine zC ?_|refine zD ?_|refine zE ?_|refine zF ?_|refine xCn ?_|refine xCE ?_|refine zL ?_|refine zM ?_|refine zX ?_|refine za ?_|refine zb ?_|refine zc ?_|refine zd ?_|refine zg ?_|refine zj ?_|refine zk ?_|refine zl ?_|refine zn ?_|refine zv ?_|refine zw ?_|refine zx ?_
    refine cndf ?_
    repeat first|refine zA ?_|refine zB ?_|refine zC ?_|refine zD ?_|refine zE ?_|refine zF ?_|refine zL ?_|refine zM ?_|refine zX ?_|refine za ?_|refine zb ?_|refine zc ?_|refine zd ?_|refine zg ?_|refine zj ?_|refine zk ?_|refine zl ?_|refine zn ?_|refine zv ?_|refine zw ?_|refine zx ?_
    refine cndt ?_
    repeat first|refine zA ?_|refine zB ?_|refine zC ?_|refine zD ?_|refine zE ?_|refine zF ?_|refine zL ?_|refine zM ?_|refine zX ?_|refine za ?_|refine zb ?_|refine zc ?_|refine zd ?_|refine zg ?_|refine zj ?_|refine zk ?_|refine zl ?_|refine zn ?_|refine zv ?_|refine zw ?_|refine zx ?_
    exact xAC ⟨.inr rfl, oAny rfl⟩
  have g1 : (((x.a % 6 : Nat) : Int) == 1) = false := by simp; omega
  by_cases c2 : x.a % 6 = 2
  · have g2 : (((x.a % 6 : Nat) : Int) == 2) = true := by rw [c2]; rfl
    have e : xAW x = ⟨3, [], [], sp, [], [], 0⟩ := by unfold xAW; rw [if_neg c0, if_neg c1, if_pos c2, hsp]
    rw [e]
    repeat first|refine zA ?_|refine zB ?_|refine zC ?_|refine zD ?_|refine zE ?_|refine zF ?_|refine xCn ?_|refine xCE ?_|refine zL ?_|refine zM ?_|refine zX ?_|refine za ?_|refine zb ?_|refine zc ?_|refine zd ?_|refine zg ?_|refine zj ?_|refine zk ?_|refine zl ?_|refine zn ?_|refine zv ?_|refine zw ?_|refine zx ?_
    refine cndf ?_
    repeat first|refine zA ?_|refine zB ?_|refine zC ?_|refine zD ?_|refine zE ?_|refine zF ?_|refine zL ?_|refine zM ?_|refine zX ?_|refine za ?_|refine zb ?_|refine zc ?_|refine zd ?_|refine zg ?_|refine zj ?_|refine zk ?_|refine zl ?_|refine zn ?_|refine zv ?_|refine zw ?_|refine zx ?_
    refine cndf ?_
    repeat first|refine zA ?_|refine zB ?_|refine zC ?_|refine zD ?_|refine zE ?_|refine zF ?_|refine zL ?_|refine zM ?_|refine zX ?_|refine za ?_|refine zb ?_|refine zc ?_|refine zd ?_|refine zg ?_|refine zj ?_|refine zk ?_|refine zl ?_|refine zn ?_|refine zv ?_|refine zw ?_|refine zx ?_
    refine cndt ?_
    repeat first|refine zA ?_|refine zB ?_|refine zC ?_|refine zD ?_|refine zE ?_|refine zF ?_|refine zL ?_|refine zM ?_|refine zX ?_|refine za ?_|refine zb ?_|refine zc ?_|refine zd ?_|refine zg ?_|refine zj ?_|refine zk ?_|refine zl ?_|refine zn ?_|refine zv ?_|refine zw ?_|refine zx ?_
    exact xAC ⟨.inr rfl, oAny rfl⟩
  have g2 : (((x.a % 6 : Nat) : Int) == 2) = false := by simp; omega
  by_cases c3 : x.a % 6 = 3
  · have g3 : (((x.a % 6 : Nat) : Int) == 3) = true := by rw [c3]; rfl
    have e : xAW x = ⟨4, [], [], ⟨[], []⟩, xAt x.b, toM x, 0⟩ := by unfold xAW; rw [if_neg c0, if_neg c1, if_neg c2, if_pos c3]
    rw [e]
    repeat first|refine zA ?_|refine zB ?_|refine zC ?_|refine zD ?_|refine zE ?_|refine zF ?_|refine xCn ?_|refine xCE ?_|refine zL ?_|refine zM ?_|refine zX ?_|refine za ?_|refine zb ?_|refine zc ?_|refine zd ?_|refine zg ?_|refine zj ?_|refine zk ?_|refine zl ?_|refine zn ?_|refine zv ?_|refine zw ?_|refine zx ?_
    refine cndf ?_
    repeat first|refine zA ?_|refine zB ?_|refine zC ?_|refine zD ?_|refine zE ?_|refine zF ?_|refine zL ?_|refine zM ?_|refine zX ?_|refine za ?_|refine zb ?_|refine zc ?_|refine zd ?_|refine zg ?_|refine zj ?_|refine zk ?_|refine zl ?_|refine zn ?_|refine zv ?_|refine zw ?_|refine zx ?_
    refine cndf ?_
    repeat first|refine zA ?_|refine zB ?_|refine zC ?_|refine zD ?_|refine zE ?_|refine zF ?_|refine zL ?_|refine zM ?_|refine zX ?_|refine za ?_|refine zb ?_|refine zc ?_|refine zd ?_|refine zg ?_|refine zj ?_|refine zk ?_|refine zl ?_|refine zn ?_|refine zv ?_|refine zw ?_|refine zx ?_
    refine cndf ?_
    repeat first|refine zA ?_|refine zB ?_|refine zC ?_|refine zD ?_|refine zE ?_|refine zF ?_|refine zL ?_|refine zM ?_|refine zX ?_|refine za ?_|refine zb ?_|refine zc ?_|refine zd ?_|refine zg ?_|refine zj ?_|refine zk ?_|refine zl ?_|refine zn ?_|refine zv ?_|refine zw ?_|refine zx ?_
    refine cndt ?_
    repeat first|refine zA ?_|refine zB ?_|refine zC ?_|refine zD ?_|refine zE ?_|refine zF ?_|refine zL ?_|refine zM ?_|refine zX ?_|refine za ?_|refine zb ?_|refine zc ?_|refine zd ?_|refine zg ?_|refine zj ?_|refine zk ?_|refine zl ?_|refine zn ?_|refine zv ?_|refine zw ?_|refine zx ?_
    exact xAC ⟨.inr rfl, oAny rfl⟩
  have g3 : (((x.a % 6 : Nat) : Int) == 3) = false := by simp; omega
  by_cases c4 : x.a % 6 = 4
  · have g4 : (((x.a % 6 : Nat) : Int) == 4) = true := by rw [c4]; rfl
    have e : xAW x = ⟨5, [], [], ⟨[], []⟩, xAt x.b, toM x, 0⟩ := by unfold xAW; rw [if_neg c0, if_neg c1, if_neg c2, if_neg c3, if_pos c4]
    rw [e]
    repeat first|refine zA ?_|refine zB ?_|refine zC ?_|refine zD ?_|refine zE ?_|refine zF ?_|refine xCn ?_|refine xCE ?_|refine zL ?_|refine zM ?_|refine zX ?_|refine za ?_|refine zb ?_|refine zc ?_|refine zd ?_|refine zg ?_|refine zj ?_|refine zk ?_|refine zl ?_|refine zn ?_|refine zv ?_|refine zw ?_|refine zx ?_
    refine cndf ?_
    repeat first|refine zA ?_|refine zB ?_|refine zC ?_|refine zD ?_|refine zE ?_|refine zF ?_|refine zL ?_|refine zM ?_|refine zX ?_|refine za ?_|refine zb ?_|refine zc ?_|refine zd ?_|refine zg ?_|refine zj ?_|refine zk ?_|refine zl ?_|refine zn ?_|refine zv ?_|refine zw ?_|refine zx ?_
    refine cndf ?_
    repeat first|refine zA ?_|refine zB ?_|refine zC ?_|refine zD ?_|refine zE ?_|refine zF ?_|refine zL ?_|refine zM ?_|refine zX ?_|refine za ?_|refine zb ?_|refine zc ?_|refine zd ?_|refine zg ?_|refine zj ?_|refine zk ?_|refine zl ?_|refine zn ?_|refine zv ?_|refine zw ?_|refine zx ?_
    refine cndf ?_
    repeat first|refine zA ?_|refine zB ?_|refine zC ?_|refine zD ?_|refine zE ?_|refine zF ?_|refine zL ?_|refine zM ?_|refine zX ?_|refine za ?_|refine zb ?_|refine zc ?_|refine zd ?_|refine zg ?_|refine zj ?_|refine zk ?_|refine zl ?_|refine zn ?_|refine zv ?_|refine zw ?_|refine zx ?_
    refine cndf ?_
    repeat first|refine zA ?_|refine zB ?_|refine zC ?_|refine zD ?_|refine zE ?_|refine zF ?_|refine zL ?_|refine zM ?_|refine zX ?_|refine za ?_|refine zb ?_|refine zc ?_|refine zd ?_|refine zg ?_|refine zj ?_|refine zk ?_|refine zl ?_|refine zn ?_|refine zv ?_|refine zw ?_|refine zx ?_
    refine cndt ?_
    repeat first|refine zA ?_|refine zB ?_|refine zC ?_|refine zD ?_|refine zE ?_|refine zF ?_|refine zL ?_|refine zM ?_|refine zX ?_|refine za ?_|refine zb ?_|refine zc ?_|refine zd ?_|refine zg ?_|refine zj ?_|refine zk ?_|refine zl ?_|refine zn ?_|refine zv ?_|refine zw ?_|refine zx ?_
    exact xAC ⟨.inr rfl, oAny rfl⟩
  have g4 : (((x.a % 6 : Nat) : Int) == 4) = false := by simp; omega
  have e : xAW x = ⟨6, [], [], sp, [], [], (x.f % 8 : Nat)⟩ := by unfold xAW; rw [if_neg c0, if_neg c1, if_neg c2, if_neg c3, if_neg c4, hsp]
  rw [e]
  repeat first|refine zA ?_|refine zB ?_|refine zC ?_|refine zD ?_|refine zE ?_|refine zF ?_|refine xCn ?_|refine xCE ?_|refine zL ?_|refine zM ?_|refine zX ?_|refine za ?_|refine zb ?_|refine zc ?_|refine zd ?_|refine zg ?_|refine zj ?_|refine zk ?_|refine zl ?_|refine zn ?_|refine zv ?_|refine zw ?_|refine zx ?_
  refine cndf ?_
  repeat first|refine zA ?_|refine zB ?_|refine zC ?_|refine zD ?_|refine zE ?_|refine zF ?_|refine zL ?_|refine zM ?_|refine zX ?_|refine za ?_|refine zb ?_|refine zc ?_|refine zd ?_|refine zg ?_|refine zj ?_|refine zk ?_|refine zl ?_|refine zn ?_|refine zv ?_|refine zw ?_|refine zx ?_
  refine cndf ?_
  repeat first|refine zA ?_|refine zB ?_|refine zC ?_|refine zD ?_|refine zE ?_|refine zF ?_|refine zL ?_|refine zM ?_|refine zX ?_|refine za ?_|refine zb ?_|refine zc ?_|refine zd ?_|refine zg ?_|refine zj ?_|refine zk ?_|refine zl ?_|refine zn ?_|refine zv ?_|refine zw ?_|refine zx ?_
  refine cndf ?_
  repeat first|refine zA ?_|refine zB ?_|refine zC ?_|refine zD ?_|refine zE ?_|refine zF ?_|refine zL ?_|refine zM ?_|refine zX ?_|refine za ?_|refine zb ?_|refine zc ?_|refine zd ?_|refine zg ?_|refine zj ?_|refine zk ?_|refine zl ?_|refine zn ?_|refine zv ?_|refine zw ?_|refine zx ?_
  refine cndf ?_
  repeat first|refine zA ?_|refine zB ?_|refine zC ?_|refine zD ?_|refine zE ?_|refine zF ?_|refine zL ?_|refine zM ?_|refine zX ?_|refine za ?_|refine zb ?_|refine zc ?_|refine zd ?_|refine zg ?_|refine zj ?_|refine zk ?_|refine zl ?_|refine zn ?_|refine zv ?_|refine zw ?_|refine zx ?_
  refine cndf (xAB ?_)
  repeat first|refine zA ?_|refine zB ?_|refine zC ?_|refine zD ?_|refine zE ?_|refine zF ?_|refine zL ?_|refine zM ?_|refine zX ?_|refine za ?_|refine zb ?_|refine zc ?_|refine zd ?_|refine zg ?_|refine zj ?_|refine zk ?_|refine zl ?_|refine zn ?_|refine zv ?_|refine zw ?_|refine zx ?_
  exact xAC ⟨.inr rfl, oAny rfl⟩
end Go.Proofs
open Go.V Go.Pu
open Go.V renaming xA4 → zA, nl → zB, xAQ → zC, rg → zD, xAK → zE, bq → zF, xBD → zL, xBE → zM, xBs → zN, xA2 → zO, xAo → zP, xAn → zQ, xCp → zT, xCo → zW, xBt → zX, xB6 → zY, xDW → zZ, xAl → za, xAm → zb, xFT → zc, xBL → ze, xBa → zj, xBb → zk, skF → zw, skU → zx
set_option linter.unusedVariables false
set_option linter.unusedSimpArgs false
set_option maxRecDepth 20000
namespace Go.Proofs
def vc68 : VCode :=
 (.seq
 (.region 0 false [
 .e 1 (.box (.t 0)) 0,
 .e 2 (.copy (.c .nili)) 8])
 (.seq
 (.seq
 (.region 1 false [
 .e 3 (.faddr 0 (.t 1)) 8192,
 .e 4 (.load false 1 (.t 3)) 8200])
 (.block 0
 (.seq
 (.region 2 false [
 .e 6 (.bin .eql (.t 4) (.c (.int .i64 1))) 16384,
 .e 5 (.copy (.t 6)) 16392])
 (.cond (.t 5)
 (.seq
 (.region 3 false [
 .e 7 (.load true 8 (.t 1)) 24576,
 .e 8 (.mkifc 110 (.t 7)) 24584,
 .e 2 (.copy (.t 8)) 24592])
 .ret)
 (.seq
 (.region 4 false [
 .e 10 (.bin .eql (.t 4) (.c (.int .i64 2))) 32768,
 .e 9 (.copy (.t 10)) 32776])
 (.cond (.t 9)
 (.seq
 (.region 5 false [
 .e 11 (.load true 8 (.t 1)) 40960,
 .e 12 (.mkifc 111 (.t 11)) 40968,
 .e 2 (.copy (.t 12)) 40976])
 .ret)
 (.seq
 (.region 6 false [
 .e 14 (.bin .eql (.t 4) (.c (.int .i64 3))) 49152,
 .e 13 (.copy (.t 14)) 49160])
 (.cond (.t 13)
 (.seq
 (.region 7 false [
 .e 15 (.load true 8 (.t 1)) 57344,
 .e 16 (.mkifc 112 (.t 15)) 57352,
 .e 2 (.copy (.t 16)) 57360])
 .ret)
 (.seq
 (.region 8 false [
 .e 18 (.bin .eql (.t 4) (.c (.int .i64 4))) 65536,
 .e 17 (.copy (.t 18)) 65544])
 (.cond (.t 17)
 (.seq
 (.region 9 false [
 .e 19 (.load true 8 (.t 1)) 73728,
 .e 20 (.mkifc 113 (.t 19)) 73736,
 .e 2 (.copy (.t 20)) 73744])
 .ret)
 (.seq
 (.region 10 false [
 .e 22 (.bin .eql (.t 4) (.c (.int .i64 5))) 81920,
 .e 21 (.copy (.t 22)) 81928])
 (.cond (.t 21)
 (.seq
 (.region 11 false [
 .e 23 (.load true 8 (.t 1)) 90112,
 .e 24 (.mkifc 114 (.t 23)) 90120,
 .e 2 (.copy (.t 24)) 90128])
 .ret)
 (.seq
 (.region 12 false [
 .e 26 (.bin .eql (.t 4) (.c (.int .i64 6))) 98304,
 .e 25 (.copy (.t 26)) 98312])
 (.cond (.t 25)
 (.seq
 (.region 13 false [
 .e 27 (.load true 8 (.t 1)) 106496,
 .e 28 (.mkifc 115 (.t 27)) 106504,
 .e 2 (.copy (.t 28)) 106512])
 .ret)
 .skip))))))))))))))
 (.seq
 (.region 14 false [
 .e 2 (.copy (.c .nili)) 114688])
 .ret)))
theorem vf68 : VF Tryz.prog 68 = some (29, vc68, [.tmp 2]) := by kernel_rfl
def vc114 : VCode :=
 (.seq
 (.region 0 false [
 .e 1 (.box (.t 0)) 0,
 .e 2 (.copy (.c .nils)) 8])
 (.seq
 (.region 1 false [
 .e 2 (.copy (.c .nils)) 8192])
 .ret))
theorem vf114 : VF Tryz.prog 114 = some (3, vc114, [.tmp 2]) := by kernel_rfl
def vc117 : VCode :=
 (.seq
 (.region 0 false [
 .e 1 (.box (.t 0)) 0,
 .e 2 (.copy (.c .nils)) 8])
 (.seq
 (.region 1 false [
 .e 3 (.faddr 1 (.t 1)) 8192,
 .e 4 (.load false 1 (.t 3)) 8200,
 .e 5 (.call (.c (.fn 119 [])) [(.t 4)]) 8208,
 .e 6 (.bslice 2 [(.str []), (.str [])] 1 [(0, (.t 5))]) 8216,
 .e 2 (.copy (.t 6)) 8224])
 .ret))
theorem vf117 : VF Tryz.prog 117 = some (7, vc117, [.tmp 2]) := by kernel_rfl
def vc134 : VCode :=
 (.seq
 (.region 0 false [
 .e 1 (.box (.t 0)) 0,
 .e 2 (.copy (.c .nils)) 8])
 (.seq
 (.region 1 false [
 .e 2 (.copy (.c .nils)) 8192])
 .ret))
theorem vf134 : VF Tryz.prog 134 = some (3, vc134, [.tmp 2]) := by kernel_rfl
def vc137 : VCode :=
 (.seq
 (.region 0 false [
 .e 1 (.box (.t 0)) 0,
 .e 2 (.copy (.c .nils)) 8])
 (.seq
 (.region 1 false [
 .e 3 (.faddr 1 (.t 1)) 8192,
 .e 4 (.load false 1 (.t 3)) 8200,
 .e 5 (.call (.c (.fn 119 [])) [(.t 4)]) 8208,
 .e 6 (.bslice 2 [(.str []), (.str [])] 1 [(0, (.t 5))]) 8216,
 .e 2 (.copy (.t 6)) 8224])
 .ret))
theorem vf137 : VF Tryz.prog 137 = some (7, vc137, [.tmp 2]) := by kernel_rfl
def vc145 : VCode :=
 (.seq
 (.region 0 false [
 .e 1 (.box (.t 0)) 0,
 .e 2 (.copy (.c .nils)) 8])
 (.seq
 (.region 1 false [
 .e 2 (.copy (.c .nils)) 8192])
 .ret))
theorem vf145 : VF Tryz.prog 145 = some (3, vc145, [.tmp 2]) := by kernel_rfl
def vc148 : VCode :=
 (.seq
 (.region 0 false [
 .e 1 (.box (.t 0)) 0,
 .e 2 (.copy (.c .nils)) 8])
 (.seq
 (.region 1 false [
 .e 3 (.faddr 3 (.t 1)) 8192,
 .e 4 (.load true 2 (.t 3)) 8200,
 .e 5 (.bslice 2 [(.str []), (.str [])] 1 [(0, (.t 4))]) 8208,
 .e 2 (.copy (.t 5)) 8216])
 .ret))
theorem vf148 : VF Tryz.prog 148 = some (6, vc148, [.tmp 2]) := by kernel_rfl
def vc151 : VCode :=
 (.seq
 (.region 0 false [
 .e 1 (.box (.t 0)) 0,
 .e 2 (.copy (.c .nils)) 8])
 (.seq
 (.region 1 false [
 .e 3 (.faddr 5 (.t 1)) 8192,
 .e 4 (.load false 1 (.t 3)) 8200,
 .e 5 (.call (.c (.fn 156 [])) [(.t 4)]) 8208,
 .e 6 (.bslice 2 [(.str []), (.str [])] 1 [(0, (.t 5))]) 8216,
 .e 2 (.copy (.t 6)) 8224])
 .ret))
theorem vf151 : VF Tryz.prog 151 = some (7, vc151, [.tmp 2]) := by kernel_rfl
def vc154 : VCode :=
 (.seq
 (.region 0 false [
 .e 1 (.box (.t 0)) 0,
 .e 2 (.copy (.c .nils)) 8])
 (.seq
 (.region 1 true [
 .e 3 (.faddr 5 (.t 1)) 8192,
 .f 4 (.load false 1 (.t 3)) 8200 [0],
 .f 5 (.call (.c (.fn 156 [])) [(.t 4)]) 8208 [1, 0],
 .e 6 (.faddr 6 (.t 1)) 8216,
 .f 7 (.load false 1 (.t 6)) 8224 [3],
 .f 8 (.call (.c (.fn 156 [])) [(.t 7)]) 8232 [4, 3, 2, 1, 0],
 .f 9 (.bslice 2 [(.str []), (.str [])] 2 [(0, (.t 5)), (1, (.t 8))]) 8240 [2, 1, 0, 5, 4, 3],
 .f 2 (.copy (.t 9)) 8248 [6, 2, 1, 0, 5, 4, 3]])
 .ret))
theorem vf154 : VF Tryz.prog 154 = some (10, vc154, [.tmp 2]) := by kernel_rfl
def vc164 : VCode :=
 (.seq
 (.region 0 false [
 .e 1 (.box (.t 0)) 0,
 .e 2 (.copy (.c .nils)) 8])
 (.seq
 (.region 1 false [
 .e 3 (.faddr 5 (.t 1)) 8192,
 .e 4 (.load false 1 (.t 3)) 8200,
 .e 5 (.call (.c (.fn 156 [])) [(.t 4)]) 8208,
 .e 6 (.bslice 2 [(.str []), (.str [])] 1 [(0, (.t 5))]) 8216,
 .e 2 (.copy (.t 6)) 8224])
 .ret))
theorem vf164 : VF Tryz.prog 164 = some (7, vc164, [.tmp 2]) := by kernel_rfl
def vc167 : VCode :=
 (.seq
 (.region 0 false [
 .e 1 (.box (.t 0)) 0,
 .e 2 (.copy (.c .nils)) 8])
 (.seq
 (.region 1 false [
 .e 3 (.faddr 6 (.t 1)) 8192,
 .e 4 (.load false 1 (.t 3)) 8200,
 .e 5 (.call (.c (.fn 156 [])) [(.t 4)]) 8208,
 .e 6 (.bslice 2 [(.str []), (.str [])] 1 [(0, (.t 5))]) 8216,
 .e 2 (.copy (.t 6)) 8224])
 .ret))
theorem vf167 : VF Tryz.prog 167 = some (7, vc167, [.tmp 2]) := by kernel_rfl
def vc170 : VCode :=
 (.seq
 (.region 0 false [
 .e 1 (.box (.t 0)) 0,
 .e 2 (.copy (.c .nils)) 8])
 (.seq
 (.region 1 false [
 .e 3 (.faddr 3 (.t 1)) 8192,
 .e 4 (.load true 2 (.t 3)) 8200,
 .e 5 (.bslice 2 [(.str []), (.str [])] 1 [(0, (.t 4))]) 8208,
 .e 2 (.copy (.t 5)) 8216])
 .ret))
theorem vf170 : VF Tryz.prog 170 = some (6, vc170, [.tmp 2]) := by kernel_rfl
def vc173 : VCode :=
 (.seq
 (.region 0 false [
 .e 1 (.box (.t 0)) 0,
 .e 2 (.copy (.c .nils)) 8])
 (.seq
 (.region 1 false [
 .e 3 (.faddr 3 (.t 1)) 8192,
 .e 4 (.load true 2 (.t 3)) 8200,
 .e 5 (.bslice 2 [(.str []), (.str [])] 1 [(0, (.t 4))]) 8208,
 .e 2 (.copy (.t 5)) 8216])
 .ret))
theorem vf173 : VF Tryz.prog 173 = some (6, vc173, [.tmp 2]) := by kernel_rfl
def vc57 : VCode :=
 (.seq
 (.region 0 false [
 .e 1 (.box (.t 0)) 0,
 .e 2 (.copy (.c .nils)) 8])
 (.seq
 (.seq
 (.region 1 false [
 .e 4 (.load true 8 (.t 1)) 8192,
 .e 5 (.call (.c (.fn 68 [])) [(.t 4)]) 8200,
 .e 3 (.copy (.t 5)) 8208])
 (.seq
 (.region 2 false [
 .e 6 (.copy (.t 3)) 16384,
 .e 7 (.isnili true (.t 6)) 16392])
 (.cond (.t 7)
 (.seq
 (.region 3 false [
 .e 8 (.copy (.t 3)) 24576,
 .e 9 (.call (.c (.mth [(110, 117), (111, 137), (112, 148), (113, 154), (114, 167), (115, 173)])) [(.t 8)]) 24584,
 .e 2 (.copy (.t 9)) 24592])
 .ret)
 .skip)))
 (.seq
 (.region 4 false [
 .e 2 (.copy (.c .nils)) 32768])
 .ret)))
theorem vf57 : VF Tryz.prog 57 = some (10, vc57, [.tmp 2]) := by kernel_rfl
def vc59 : VCode :=
 (.seq
 (.region 0 false [
 .e 1 (.box (.t 0)) 0,
 .e 2 (.copy (.c .nils)) 8])
 (.seq
 (.seq
 (.region 1 false [
 .e 3 (.faddr 0 (.t 1)) 8192,
 .e 4 (.load false 1 (.t 3)) 8200,
 .e 5 (.bin .eql (.t 4) (.c (.int .i64 6))) 8208])
 (.cond (.t 5)
 (.seq
 (.region 2 false [
 .e 2 (.copy (.c .nils)) 16384])
 .ret)
 .skip))
 (.seq
 (.region 3 false [
 .e 6 (.load true 8 (.t 1)) 24576,
 .e 7 (.call (.c (.fn 57 [])) [(.t 6)]) 24584,
 .e 2 (.copy (.t 7)) 24592])
 .ret)))
theorem vf59 : VF Tryz.prog 59 = some (8, vc59, [.tmp 2]) := by kernel_rfl
def vc60 : VCode :=
 (.seq
 (.region 0 false [
 .e 1 (.box (.t 0)) 0,
 .e 2 (.copy (.c .nils)) 8])
 (.seq
 (.seq
 (.region 1 false [
 .e 4 (.load true 8 (.t 1)) 8192,
 .e 5 (.call (.c (.fn 68 [])) [(.t 4)]) 8200,
 .e 3 (.copy (.t 5)) 8208])
 (.seq
 (.region 2 false [
 .e 6 (.copy (.t 3)) 16384,
 .e 7 (.isnili true (.t 6)) 16392])
 (.cond (.t 7)
 (.seq
 (.region 3 false [
 .e 8 (.copy (.t 3)) 24576,
 .e 9 (.call (.c (.mth [(110, 114), (111, 134), (112, 145), (113, 151), (114, 164), (115, 170)])) [(.t 8)]) 24584,
 .e 2 (.copy (.t 9)) 24592])
 .ret)
 .skip)))
 (.seq
 (.region 4 false [
 .e 2 (.copy (.c .nils)) 32768])
 .ret)))
theorem vf60 : VF Tryz.prog 60 = some (10, vc60, [.tmp 2]) := by kernel_rfl
theorem xJO : ∀ {l : List PV}, All2 PLe l l
  | [] => .nil
  | _ :: _ => .cons (PLe.refl _) xJO
theorem okW (l : List RawM) : okEls 6 (l.map encW) := okEls.map fun a => by simp [closed]
theorem okM (l : List MsgL) : okEls 8 (l.map encM) := okEls.map fun a => by simp [closed]
theorem xP5 {l : List RawM} (hl : l.length ≤ 9223372036854775807) (hr : ∀ r ∈ l, r.ok) (n : Nat) (hn : n ≤ 1000) : VC Tryz.prog 11 [.sh false (l.map encW), .int .i64 n] [] (ownV ⟨0, 0⟩ ((xCZ l n).map encM)) [blkV 8 ((xCZ l n).map encM)] := by
  have hrl : (l.map encW).length = l.length := List.length_map _
  refine xAG vf11 ?_ (Nat.le_of_ble_eq_true rfl) (by intro vs h; cases h)
  repeat first|refine zA ?_|refine zB ?_|refine zC ?_|refine zD ?_|refine zE ?_|refine zF ?_|refine zO ?_|refine zP ?_|refine zQ ?_|refine zT ?_|refine zW ?_|refine zX ?_|refine zY ?_|refine zZ ?_|refine za ?_|refine zb ?_|refine ze ?_|refine zj ?_|refine zk ?_|refine zw ?_|refine zx ?_
  refine xAJ (fun (i : Nat) => [(0, .sh false (l.map encW)), (1, .int .i64 n), (5, ownV ⟨1, 8192⟩ (((l.take i).map xAW).map encM)), (6, .int .i64 i)]) (fun i => [(⟨1, 8192⟩, blkV 8 (((l.take i).map xAW).map encM))]) (fun i => l.length - i)
    (fun i => i ≤ l.length ∧ i ≤ n) 0 xBd ⟨Nat.zero_le _, Nat.zero_le _⟩ ?_
  rintro i ⟨hi, hin⟩
  by_cases hA : i < l.length
  · have g1 : decide ((i : Int) < (l.map encW).length) = true := by rw [hrl]; simp; omega
    obtain ⟨r, hx⟩ : ∃ y, l[i]? = some y := ⟨_, List.getElem?_eq_getElem hA⟩
    have hxe := gm (enc := encW) (n := (i : Int)) hx (by omega)
    have hlt2 : (i : Int) < ((l.map encW).length : Nat) := by rw [hrl]; omega
    have hm := xMq (hr r (List.mem_of_getElem? hx))
    have htk : (l.take (i + 1)).map xAW = (l.take i).map xAW ++ [xAW r] := by rw [List.take_add_one, hx]; simp
    by_cases hB : i < n
    · have g2 : decide ((i : Int) < (n : Int)) = true := by simp; omega
      have hlen : ((l.take i).map xAW).length ≤ 1000 := by rw [List.length_map, List.length_take]; omega
      repeat first|refine zA ?_|refine zB ?_|refine zC ?_|refine zD ?_|refine zE ?_|refine zF ?_|refine zO ?_|refine zP ?_|refine zQ ?_|refine zT ?_|refine zW ?_|refine zX ?_|refine zY ?_|refine zZ ?_|refine za ?_|refine zb ?_|refine ze ?_|refine zj ?_|refine zk ?_|refine zw ?_|refine zx ?_
      refine cndt (xAB ?_)
      repeat first|refine zA ?_|refine zB ?_|refine zC ?_|refine zD ?_|refine zE ?_|refine zF ?_|refine cv0 hm ?_|refine o_v (vap encM (xAW r)) ?_|refine zO ?_|refine zP ?_|refine zQ ?_|refine zT ?_|refine zW ?_|refine zX ?_|refine zY ?_|refine zZ ?_|refine za ?_|refine zb ?_|refine ze ?_|refine zj ?_|refine zk ?_|refine zw ?_|refine zx ?_
      refine agn (Q := fun _ _ => True) (i + 1) ⟨by omega, by omega⟩ ?_
      rw [htk]
      exact xBd
    · have g2 : decide ((i : Int) < (n : Int)) = false := by simp; omega
      have he : xCZ l n = (l.take i).map xAW := by rw [xCZ, show i = n by omega]
      rw [he]
      repeat first|refine zA ?_|refine zB ?_|refine zC ?_|refine zD ?_|refine zE ?_|refine zF ?_|refine zO ?_|refine zP ?_|refine zQ ?_|refine zT ?_|refine zW ?_|refine zX ?_|refine zY ?_|refine zZ ?_|refine za ?_|refine zb ?_|refine ze ?_|refine zj ?_|refine zk ?_|refine zw ?_|refine zx ?_
      refine cndf (xAE ?_)
      repeat first|refine zA ?_|refine zB ?_|refine zC ?_|refine zD ?_|refine zE ?_|refine zF ?_|refine zO ?_|refine zP ?_|refine zQ ?_|refine zT ?_|refine zW ?_|refine zX ?_|refine zY ?_|refine zZ ?_|refine za ?_|refine zb ?_|refine ze ?_|refine zj ?_|refine zk ?_|refine zw ?_|refine zx ?_
      exact xAC ⟨.inr rfl, oOwn rfl⟩
  · have g1 : decide ((i : Int) < (l.map encW).length) = false := by rw [hrl]; simp; omega
    have he : xCZ l n = (l.take i).map xAW := by rw [xCZ, List.take_of_length_le (by omega), List.take_of_length_le (by omega)]
    rw [he]
    repeat first|refine zA ?_|refine zB ?_|refine zC ?_|refine zD ?_|refine zE ?_|refine zF ?_|refine zO ?_|refine zP ?_|refine zQ ?_|refine zT ?_|refine zW ?_|refine zX ?_|refine zY ?_|refine zZ ?_|refine za ?_|refine zb ?_|refine ze ?_|refine zj ?_|refine zk ?_|refine zw ?_|refine zx ?_
    refine cndf (xAE ?_)
    repeat first|refine zA ?_|refine zB ?_|refine zC ?_|refine zD ?_|refine zE ?_|refine zF ?_|refine zO ?_|refine zP ?_|refine zQ ?_|refine zT ?_|refine zW ?_|refine zX ?_|refine zY ?_|refine zZ ?_|refine za ?_|refine zb ?_|refine ze ?_|refine zj ?_|refine zk ?_|refine zw ?_|refine zx ?_
    exact xAC ⟨.inr rfl, oOwn rfl⟩
structure MsgSz (m : MsgL) : Prop where
  k : 1 ≤ m.kind ∧ m.kind ≤ 6
  key : m.key.length ≤ 1000000
  fr : m.fr.length ≤ 1000000
  to : m.to.length ≤ 1000000
theorem MsgSz.of {m : MsgL} (h1 : MsgOk m) (h2 : MsgLen 8 m) : MsgSz m := ⟨h1.k, by have := h2.key; omega, by have := h2.fr; omega, by have := h2.to; omega⟩
theorem l_sp {hf : HF} {b : Bid} {l : List SpanL} (hb : hf b = some (blkV 2 (l.map encS))) : xB8 hf [] (ownV b (l.map encS)) = some ([b], .sh false (l.map encS)) := xAX hb rfl
theorem xB3 {f : Nat} {args : List PV} {l : List SpanL} (h : VC Tryz.prog f args [] (ownV ⟨0, 0⟩ (l.map encS)) [blkV 2 (l.map encS)]) : VC Tryz.prog f args [] (.sh false (l.map encS)) [] := xKA h (xAX rfl rfl)
theorem xJ9 {f : Nat} {args : List PV} (h : VC Tryz.prog f args [] .nils []) : VC Tryz.prog f args [] (.sh false (([] : List SpanL).map encS)) [] := xHl h xJO (PLe.sl (.inl ⟨rfl, rfl⟩))
theorem vifc {t lvl site : Nat} {tf : TF} {hf : HF} {x : VX} {cs : List PV} (hx : ev tf x = some (.agg cs) := by rfl) (hc : cs.all closed = true := by rfl) : vop lvl site tf hf (.mkifc t x) = some ⟨.ifc t cs, [], []⟩ := by
  simp only [vop, hx, Option.bind_some, if_pos hc]; rfl
theorem visn {t lvl site : Nat} {tf : TF} {hf : HF} {x : VX} {cs : List PV} (hx : ev tf x = some (.ifc t cs) := by rfl) : vop lvl site tf hf (.isnili true x) = some ⟨.bool true, [], []⟩ := by
  simp only [vop, hx, Option.bind_some]; rfl
theorem xPN {m : MsgL} (hm : MsgSz m) : VC Tryz.prog 117 [.agg (encM m)] [] (.sh false ([oneL m.key].map encS)) [] := by
  have h := xOz m.key (by have := hm.key; omega)
  refine xB3 ?_
  refine xAG vf117 ?_ (Nat.le_of_ble_eq_true rfl) (by intro vs h; cases h)
  repeat first|refine zA ?_|refine zB ?_|refine zC ?_|refine zD ?_|refine zE ?_|refine zF ?_|refine cv0 h ?_|refine zL ?_|refine zM ?_|refine zN ?_|refine zc ?_|refine ze ?_
  exact xAC ⟨.inr rfl, oOwn rfl⟩
theorem xPO {m : MsgL} (hm : MsgSz m) : VC Tryz.prog 137 [.agg (encM m)] [] (.sh false ([oneL m.key].map encS)) [] := by
  have h := xOz m.key (by have := hm.key; omega)
  refine xB3 ?_
  refine xAG vf137 ?_ (Nat.le_of_ble_eq_true rfl) (by intro vs h; cases h)
  repeat first|refine zA ?_|refine zB ?_|refine zC ?_|refine zD ?_|refine zE ?_|refine zF ?_|refine cv0 h ?_|refine zL ?_|refine zM ?_|refine zN ?_|refine zc ?_|refine ze ?_
  exact xAC ⟨.inr rfl, oOwn rfl⟩
theorem xNc (m : MsgL) : VC Tryz.prog 148 [.agg (encM m)] [] (.sh false ([m.sp].map encS)) [] := by
  refine xB3 ?_
  refine xAG vf148 ?_ (Nat.le_of_ble_eq_true rfl) (by intro vs h; cases h)
  repeat first|refine zA ?_|refine zB ?_|refine zC ?_|refine zD ?_|refine zE ?_|refine zF ?_|refine zN ?_|refine za ?_|refine zb ?_|refine zc ?_|refine ze ?_
  exact xAC ⟨.inr rfl, oOwn rfl⟩
theorem xLp (m : MsgL) : VC Tryz.prog 173 [.agg (encM m)] [] (.sh false ([m.sp].map encS)) [] := by
  refine xB3 ?_
  refine xAG vf173 ?_ (Nat.le_of_ble_eq_true rfl) (by intro vs h; cases h)
  repeat first|refine zA ?_|refine zB ?_|refine zC ?_|refine zD ?_|refine zE ?_|refine zF ?_|refine zN ?_|refine za ?_|refine zb ?_|refine zc ?_|refine ze ?_
  exact xAC ⟨.inr rfl, oOwn rfl⟩
theorem xML (m : MsgL) : VC Tryz.prog 170 [.agg (encM m)] [] (.sh false ([m.sp].map encS)) [] := by
  refine xB3 ?_
  refine xAG vf170 ?_ (Nat.le_of_ble_eq_true rfl) (by intro vs h; cases h)
  repeat first|refine zA ?_|refine zB ?_|refine zC ?_|refine zD ?_|refine zE ?_|refine zF ?_|refine zN ?_|refine za ?_|refine zb ?_|refine zc ?_|refine ze ?_
  exact xAC ⟨.inr rfl, oOwn rfl⟩
theorem xNx {m : MsgL} (hm : MsgSz m) : VC Tryz.prog 151 [.agg (encM m)] [] (.sh false ([xAU m.fr].map encS)) [] := by
  have h := xDS m.fr (by have := hm.fr; omega)
  refine xB3 ?_
  refine xAG vf151 ?_ (Nat.le_of_ble_eq_true rfl) (by intro vs h; cases h)
  repeat first|refine zA ?_|refine zB ?_|refine zC ?_|refine zD ?_|refine zE ?_|refine zF ?_|refine cv0 h ?_|refine zL ?_|refine zM ?_|refine zN ?_|refine zc ?_|refine ze ?_
  exact xAC ⟨.inr rfl, oOwn rfl⟩
theorem xMT {m : MsgL} (hm : MsgSz m) : VC Tryz.prog 164 [.agg (encM m)] [] (.sh false ([xAU m.fr].map encS)) [] := by
  have h := xDS m.fr (by have := hm.fr; omega)
  refine xB3 ?_
  refine xAG vf164 ?_ (Nat.le_of_ble_eq_true rfl) (by intro vs h; cases h)
  repeat first|refine zA ?_|refine zB ?_|refine zC ?_|refine zD ?_|refine zE ?_|refine zF ?_|refine cv0 h ?_|refine zL ?_|refine zM ?_|refine zN ?_|refine zc ?_|refine ze ?_
  exact xAC ⟨.inr rfl, oOwn rfl⟩
theorem xLq {m : MsgL} (hm : MsgSz m) : VC Tryz.prog 167 [.agg (encM m)] [] (.sh false ([xAU m.to].map encS)) [] := by
  have h := xDS m.to (by have := hm.to; omega)
  refine xB3 ?_
  refine xAG vf167 ?_ (Nat.le_of_ble_eq_true rfl) (by intro vs h; cases h)
  repeat first|refine zA ?_|refine zB ?_|refine zC ?_|refine zD ?_|refine zE ?_|refine zF ?_|refine cv0 h ?_|refine zL ?_|refine zM ?_|refine zN ?_|refine zc ?_|refine ze ?_
  exact xAC ⟨.inr rfl, oOwn rfl⟩
theorem xNb {m : MsgL} (hm : MsgSz m) : VC Tryz.prog 154 [.agg (encM m)] [] (.sh false ([xAU m.fr, xAU m.to].map encS)) [] := by
  have h := xDS m.fr (by have := hm.fr; omega)
  have h' := xDS m.to (by have := hm.to; omega)
  refine xB3 ?_
  refine xAG vf154 ?_ (Nat.le_of_ble_eq_true rfl) (by intro vs h; cases h)
  repeat first|refine zA ?_|refine zB ?_|refine zC ?_|refine zD ?_|refine zE ?_|refine zF ?_|refine cv0 h ?_|refine cv0 h' ?_|refine zL ?_|refine zM ?_|refine zN ?_|refine zc ?_|refine ze ?_
  exact xAC ⟨.inr rfl, oOwn rfl⟩
theorem xPm (m : MsgL) : VC Tryz.prog 114 [.agg (encM m)] [] (.sh false (([] : List SpanL).map encS)) [] := by
  refine xJ9 ?_
  refine xAG vf114 ?_ (Nat.le_of_ble_eq_true rfl) (by intro vs h; cases h)
  repeat first|refine zA ?_|refine zB ?_|refine zC ?_|refine zD ?_|refine zE ?_|refine zF ?_|refine zc ?_
  exact xAC ⟨.inr rfl, oAny rfl⟩
theorem xPn (m : MsgL) : VC Tryz.prog 134 [.agg (encM m)] [] (.sh false (([] : List SpanL).map encS)) [] := by
  refine xJ9 ?_
  refine xAG vf134 ?_ (Nat.le_of_ble_eq_true rfl) (by intro vs h; cases h)
  repeat first|refine zA ?_|refine zB ?_|refine zC ?_|refine zD ?_|refine zE ?_|refine zF ?_|refine zc ?_
  exact xAC ⟨.inr rfl, oAny rfl⟩
theorem xN3 (m : MsgL) : VC Tryz.prog 145 [.agg (encM m)] [] (.sh false (([] : List SpanL).map encS)) [] := by
  refine xJ9 ?_
  refine xAG vf145 ?_ (Nat.le_of_ble_eq_true rfl) (by intro vs h; cases h)
  repeat first|refine zA ?_|refine zB ?_|refine zC ?_|refine zD ?_|refine zE ?_|refine zF ?_|refine zc ?_
  exact xAC ⟨.inr rfl, oAny rfl⟩
theorem six {k : Int} (h : 1 ≤ k ∧ k ≤ 6) : k = 1 ∨ k = 2 ∨ k = 3 ∨ k = 4 ∨ k = 5 ∨ k = 6 := by omega
theorem of_vc {m : MsgL} (hm : 1 ≤ m.kind ∧ m.kind ≤ 6) : VC Tryz.prog 68 [.agg (encM m)] [] (.ifc (109 + m.kind.toNat) (encM m)) [] := by
  obtain ⟨k, m2, m3, m4, m5, m6, m7⟩ := m
  simp only at hm
  rcases six hm with rfl | rfl | rfl | rfl | rfl | rfl
  · refine xAG vf68 ?_ (Nat.le_of_ble_eq_true rfl) (by intro vs h; cases h)
    repeat first|refine zA ?_|refine zB ?_|refine zC ?_|refine zD ?_|refine zE ?_|refine zF ?_|refine zL ?_|refine zM ?_|refine zN ?_|refine zX ?_|refine za ?_|refine zb ?_|refine zc ?_
    refine cndt ?_
    repeat first|refine zA ?_|refine zB ?_|refine zC ?_|refine zD ?_|refine zE ?_|refine zF ?_|refine o_v0 vifc ?_|refine zL ?_|refine zM ?_|refine zN ?_|refine zX ?_|refine za ?_|refine zb ?_|refine zc ?_
    exact xAC ⟨.inr rfl, oAny rfl⟩
  · refine xAG vf68 ?_ (Nat.le_of_ble_eq_true rfl) (by intro vs h; cases h)
    repeat first|refine zA ?_|refine zB ?_|refine zC ?_|refine zD ?_|refine zE ?_|refine zF ?_|refine zL ?_|refine zM ?_|refine zN ?_|refine zX ?_|refine za ?_|refine zb ?_|refine zc ?_
    refine cndf ?_
    repeat first|refine zA ?_|refine zB ?_|refine zC ?_|refine zD ?_|refine zE ?_|refine zF ?_|refine zL ?_|refine zM ?_|refine zN ?_|refine zX ?_|refine za ?_|refine zb ?_|refine zc ?_
    refine cndt ?_
    repeat first|refine zA ?_|refine zB ?_|refine zC ?_|refine zD ?_|refine zE ?_|refine zF ?_|refine o_v0 vifc ?_|refine zL ?_|refine zM ?_|refine zN ?_|refine zX ?_|refine za ?_|refine zb ?_|refine zc ?_
    exact xAC ⟨.inr rfl, oAny rfl⟩
  · refine xAG vf68 ?_ (Nat.le_of_ble_eq_true rfl) (by intro vs h; cases h)
    repeat first|refine zA ?_|refine zB ?_|refine zC ?_|refine zD ?_|refine zE ?_|refine zF ?_|refine zL ?_|refine zM ?_|refine zN ?_|refine zX ?_|refine za ?_|refine zb ?_|refine zc ?_
    refine cndf ?_
    repeat first|refine zA ?_|refine zB ?_|refine zC ?_|refine zD ?_|refine zE ?_|refine zF ?_|refine zL ?_|refine zM ?_|refine zN ?_|refine zX ?_|refine za ?_|refine zb ?_|refine zc ?_
    refine cndf ?_
    repeat first|refine zA ?_|refine zB ?_|refine zC ?_|refine zD ?_|refine zE ?_|refine zF ?_|refine zL ?_|refine zM ?_|refine zN ?_|refine zX ?_|refine za ?_|refine zb ?_|refine zc ?_
    refine cndt ?_
    repeat first|refine zA ?_|refine zB ?_|refine zC ?_|refine zD ?_|refine zE ?_|refine zF ?_|refine o_v0 vifc ?_|refine zL ?_|refine zM ?_|refine zN ?_|refine zX ?_|refine za ?_|refine zb ?_|refine zc ?_
    exact xAC ⟨.inr rfl, oAny rfl⟩
  · refine xAG vf68 ?_ (Nat.le_of_ble_eq_true rfl) (by intro vs h; cases h)
    repeat first|refine zA ?_|refine zB ?_|refine zC ?_|refine zD ?_|refine zE ?_|refine zF ?_|refine zL ?_|refine zM ?_|refine zN ?_|refine zX ?_|refine za ?_|refine zb ?_|refine zc ?_
    refine cndf ?_
    repeat first|refine zA ?_|refine zB ?_|refine zC ?_|refine zD ?_|refine zE ?_|refine zF ?_|refine zL ?_|refine zM ?_|refine zN ?_|refine zX ?_|refine za ?_|refine zb ?_|refine zc ?_
    refine cndf ?_
    repeat first|refine zA ?_|refine zB ?_|refine zC ?_|refine zD ?_|refine zE ?_|refine zF ?_|refine zL ?_|refine zM ?_|refine zN ?_|refine zX ?_|refine za ?_|refine zb ?_|refine zc ?_
    refine cndf ?_
    repeat first|refine zA ?_|refine zB ?_|refine zC ?_|refine zD ?_|refine zE ?_|refine zF ?_|refine zL ?_|refine zM ?_|refine zN ?_|refine zX ?_|refine za ?_|refine zb ?_|refine zc ?_
    refine cndt ?_
    repeat first|refine zA ?_|refine zB ?_|refine zC ?_|refine zD ?_|refine zE ?_|refine zF ?_|refine o_v0 vifc ?_|refine zL ?_|refine zM ?_|refine zN ?_|refine zX ?_|refine za ?_|refine zb ?_|refine zc ?_
    exact xAC ⟨.inr rfl, oAny rfl⟩
  · refine xAG vf68 ?_ (Nat.le_of_ble_eq_true rfl) (by intro vs h; cases h)
    repeat first|refine zA ?_|refine zB ?_|refine zC ?_|refine zD ?_|refine zE ?_|refine zF ?_|refine zL ?_|refine zM ?_|refine zN ?_|refine zX ?_|refine za ?_|refine zb ?_|refine zc ?_
    refine cndf ?_
    repeat first|refine zA ?_|refine zB ?_|refine zC ?_|refine zD ?_|refine zE ?_|refine zF ?_|refine zL ?_|refine zM ?_|refine zN ?_|refine zX ?_|refine za ?_|refine zb ?_|refine zc ?_
    refine cndf ?_
    repeat first|refine zA ?_|refine zB ?_|refine zC ?_|refine zD ?_|refine zE ?_|refine zF ?_|refine zL ?_|refine zM ?_|refine zN ?_|refine zX ?_|refine za ?_|refine zb ?_|refine zc ?_
    refine cndf ?_
    repeat first|refine zA ?_|refine zB ?_|refine zC ?_|refine zD ?_|refine zE ?_|refine zF ?_|refine zL ?_|refine zM ?_|refine zN ?_|refine zX ?_|refine za ?_|refine zb ?_|refine zc ?_
    refine cndf ?_
    repeat first|refine zA ?_|refine zB ?_|refine zC ?_|refine zD ?_|refine zE ?_|refine zF ?_|refine zL ?_|refine zM ?_|refine zN ?_|refine zX ?_|refine za ?_|refine zb ?_|refine zc ?_
    refine cndt ?_
    repeat first|refine zA ?_|refine zB ?_|refine zC ?_|refine zD ?_|refine zE ?_|refine zF ?_|refine o_v0 vifc ?_|refine zL ?_|refine zM ?_|refine zN ?_|refine zX ?_|refine za ?_|refine zb ?_|refine zc ?_
    exact xAC ⟨.inr rfl, oAny rfl⟩
  · refine xAG vf68 ?_ (Nat.le_of_ble_eq_true rfl) (by intro vs h; cases h)
    repeat first|refine zA ?_|refine zB ?_|refine zC ?_|refine zD ?_|refine zE ?_|refine zF ?_|refine zL ?_|refine zM ?_|refine zN ?_|refine zX ?_|refine za ?_|refine zb ?_|refine zc ?_
    refine cndf ?_
    repeat first|refine zA ?_|refine zB ?_|refine zC ?_|refine zD ?_|refine zE ?_|refine zF ?_|refine zL ?_|refine zM ?_|refine zN ?_|refine zX ?_|refine za ?_|refine zb ?_|refine zc ?_
    refine cndf ?_
    repeat first|refine zA ?_|refine zB ?_|refine zC ?_|refine zD ?_|refine zE ?_|refine zF ?_|refine zL ?_|refine zM ?_|refine zN ?_|refine zX ?_|refine za ?_|refine zb ?_|refine zc ?_
    refine cndf ?_
    repeat first|refine zA ?_|refine zB ?_|refine zC ?_|refine zD ?_|refine zE ?_|refine zF ?_|refine zL ?_|refine zM ?_|refine zN ?_|refine zX ?_|refine za ?_|refine zb ?_|refine zc ?_
    refine cndf ?_
    repeat first|refine zA ?_|refine zB ?_|refine zC ?_|refine zD ?_|refine zE ?_|refine zF ?_|refine zL ?_|refine zM ?_|refine zN ?_|refine zX ?_|refine za ?_|refine zb ?_|refine zc ?_
    refine cndf ?_
    repeat first|refine zA ?_|refine zB ?_|refine zC ?_|refine zD ?_|refine zE ?_|refine zF ?_|refine zL ?_|refine zM ?_|refine zN ?_|refine zX ?_|refine za ?_|refine zb ?_|refine zc ?_
    refine cndt ?_
    repeat first|refine zA ?_|refine zB ?_|refine zC ?_|refine zD ?_|refine zE ?_|refine zF ?_|refine o_v0 vifc ?_|refine zL ?_|refine zM ?_|refine zN ?_|refine zX ?_|refine za ?_|refine zb ?_|refine zc ?_
    exact xAC ⟨.inr rfl, oAny rfl⟩
theorem disp_vc {f : Nat} {m : MsgL} {l : List SpanL} {g : Nat} (hm : 1 ≤ m.kind ∧ m.kind ≤ 6) : True := trivial
theorem xIM {m : MsgL} (hm : MsgSz m) : VC Tryz.prog 57 [.agg (encM m)] [] (.sh false ((xAh m).map encS)) [] := by
  have ho := of_vc hm.k
  have a1 := ((xPN hm) : VC Tryz.prog _ [.agg (encM m)] [] _ [])
  have a2 := ((xPO hm) : VC Tryz.prog _ [.agg (encM m)] [] _ [])
  have a3 := ((xNc _) : VC Tryz.prog _ [.agg (encM m)] [] _ [])
  have a4 := ((xNb hm) : VC Tryz.prog _ [.agg (encM m)] [] _ [])
  have a5 := ((xLq hm) : VC Tryz.prog _ [.agg (encM m)] [] _ [])
  have a6 := ((xLp _) : VC Tryz.prog _ [.agg (encM m)] [] _ [])
  have hk := hm.k
  obtain ⟨k, m2, m3, m4, m5, m6, m7⟩ := m
  simp only at hk
  rcases six hk with rfl | rfl | rfl | rfl | rfl | rfl
  · refine xAG vf57 ?_ (Nat.le_of_ble_eq_true rfl) (by intro vs h; cases h)
    repeat first|refine zA ?_|refine zB ?_|refine zC ?_|refine zD ?_|refine zE ?_|refine zF ?_|refine cf ho ?_|refine o_v0 visn ?_|refine za ?_|refine zb ?_|refine zc ?_
    refine cndt ?_
    repeat first|refine zA ?_|refine zB ?_|refine zC ?_|refine zD ?_|refine zE ?_|refine zF ?_|refine cf a1 ?_|refine za ?_|refine zb ?_|refine zc ?_
    exact xAC ⟨.inr rfl, oAny rfl⟩
  · refine xAG vf57 ?_ (Nat.le_of_ble_eq_true rfl) (by intro vs h; cases h)
    repeat first|refine zA ?_|refine zB ?_|refine zC ?_|refine zD ?_|refine zE ?_|refine zF ?_|refine cf ho ?_|refine o_v0 visn ?_|refine za ?_|refine zb ?_|refine zc ?_
    refine cndt ?_
    repeat first|refine zA ?_|refine zB ?_|refine zC ?_|refine zD ?_|refine zE ?_|refine zF ?_|refine cf a2 ?_|refine za ?_|refine zb ?_|refine zc ?_
    exact xAC ⟨.inr rfl, oAny rfl⟩
  · refine xAG vf57 ?_ (Nat.le_of_ble_eq_true rfl) (by intro vs h; cases h)
    repeat first|refine zA ?_|refine zB ?_|refine zC ?_|refine zD ?_|refine zE ?_|refine zF ?_|refine cf ho ?_|refine o_v0 visn ?_|refine za ?_|refine zb ?_|refine zc ?_
    refine cndt ?_
    repeat first|refine zA ?_|refine zB ?_|refine zC ?_|refine zD ?_|refine zE ?_|refine zF ?_|refine cf a3 ?_|refine za ?_|refine zb ?_|refine zc ?_
    exact xAC ⟨.inr rfl, oAny rfl⟩
  · refine xAG vf57 ?_ (Nat.le_of_ble_eq_true rfl) (by intro vs h; cases h)
    repeat first|refine zA ?_|refine zB ?_|refine zC ?_|refine zD ?_|refine zE ?_|refine zF ?_|refine cf ho ?_|refine o_v0 visn ?_|refine za ?_|refine zb ?_|refine zc ?_
    refine cndt ?_
    repeat first|refine zA ?_|refine zB ?_|refine zC ?_|refine zD ?_|refine zE ?_|refine zF ?_|refine cf a4 ?_|refine za ?_|refine zb ?_|refine zc ?_
    exact xAC ⟨.inr rfl, oAny rfl⟩
  · refine xAG vf57 ?_ (Nat.le_of_ble_eq_true rfl) (by intro vs h; cases h)
    repeat first|refine zA ?_|refine zB ?_|refine zC ?_|refine zD ?_|refine zE ?_|refine zF ?_|refine cf ho ?_|refine o_v0 visn ?_|refine za ?_|refine zb ?_|refine zc ?_
    refine cndt ?_
    repeat first|refine zA ?_|refine zB ?_|refine zC ?_|refine zD ?_|refine zE ?_|refine zF ?_|refine cf a5 ?_|refine za ?_|refine zb ?_|refine zc ?_
    exact xAC ⟨.inr rfl, oAny rfl⟩
  · refine xAG vf57 ?_ (Nat.le_of_ble_eq_true rfl) (by intro vs h; cases h)
    repeat first|refine zA ?_|refine zB ?_|refine zC ?_|refine zD ?_|refine zE ?_|refine zF ?_|refine cf ho ?_|refine o_v0 visn ?_|refine za ?_|refine zb ?_|refine zc ?_
    refine cndt ?_
    repeat first|refine zA ?_|refine zB ?_|refine zC ?_|refine zD ?_|refine zE ?_|refine zF ?_|refine cf a6 ?_|refine za ?_|refine zb ?_|refine zc ?_
    exact xAC ⟨.inr rfl, oAny rfl⟩
theorem xN2 {m : MsgL} (hm : MsgSz m) : VC Tryz.prog 60 [.agg (encM m)] [] (.sh false ((xCU m).map encS)) [] := by
  have ho := of_vc hm.k
  have a1 := ((xPm _) : VC Tryz.prog _ [.agg (encM m)] [] _ [])
  have a2 := ((xPn _) : VC Tryz.prog _ [.agg (encM m)] [] _ [])
  have a3 := ((xN3 _) : VC Tryz.prog _ [.agg (encM m)] [] _ [])
  have a4 := ((xNx hm) : VC Tryz.prog _ [.agg (encM m)] [] _ [])
  have a5 := ((xMT hm) : VC Tryz.prog _ [.agg (encM m)] [] _ [])
  have a6 := ((xML _) : VC Tryz.prog _ [.agg (encM m)] [] _ [])
  have hk := hm.k
  obtain ⟨k, m2, m3, m4, m5, m6, m7⟩ := m
  simp only at hk
  rcases six hk with rfl | rfl | rfl | rfl | rfl | rfl
  · refine xAG vf60 ?_ (Nat.le_of_ble_eq_true rfl) (by intro vs h; cases h)
    repeat first|refine zA ?_|refine zB ?_|refine zC ?_|refine zD ?_|refine zE ?_|refine zF ?_|refine cf ho ?_|refine o_v0 visn ?_|refine za ?_|refine zb ?_|refine zc ?_
    refine cndt ?_
    repeat first|refine zA ?_|refine zB ?_|refine zC ?_|refine zD ?_|refine zE ?_|refine zF ?_|refine cf a1 ?_|refine za ?_|refine zb ?_|refine zc ?_
    exact xAC ⟨.inr rfl, oAny rfl⟩
  · refine xAG vf60 ?_ (Nat.le_of_ble_eq_true rfl) (by intro vs h; cases h)
    repeat first|refine zA ?_|refine zB ?_|refine zC ?_|refine zD ?_|refine zE ?_|refine zF ?_|refine cf ho ?_|refine o_v0 visn ?_|refine za ?_|refine zb ?_|refine zc ?_
    refine cndt ?_
    repeat first|refine zA ?_|refine zB ?_|refine zC ?_|refine zD ?_|refine zE ?_|refine zF ?_|refine cf a2 ?_|refine za ?_|refine zb ?_|refine zc ?_
    exact xAC ⟨.inr rfl, oAny rfl⟩
  · refine xAG vf60 ?_ (Nat.le_of_ble_eq_true rfl) (by intro vs h; cases h)
    repeat first|refine zA ?_|refine zB ?_|refine zC ?_|refine zD ?_|refine zE ?_|refine zF ?_|refine cf ho ?_|refine o_v0 visn ?_|refine za ?_|refine zb ?_|refine zc ?_
    refine cndt ?_
    repeat first|refine zA ?_|refine zB ?_|refine zC ?_|refine zD ?_|refine zE ?_|refine zF ?_|refine cf a3 ?_|refine za ?_|refine zb ?_|refine zc ?_
    exact xAC ⟨.inr rfl, oAny rfl⟩
  · refine xAG vf60 ?_ (Nat.le_of_ble_eq_true rfl) (by intro vs h; cases h)
    repeat first|refine zA ?_|refine zB ?_|refine zC ?_|refine zD ?_|refine zE ?_|refine zF ?_|refine cf ho ?_|refine o_v0 visn ?_|refine za ?_|refine zb ?_|refine zc ?_
    refine cndt ?_
    repeat first|refine zA ?_|refine zB ?_|refine zC ?_|refine zD ?_|refine zE ?_|refine zF ?_|refine cf a4 ?_|refine za ?_|refine zb ?_|refine zc ?_
    exact xAC ⟨.inr rfl, oAny rfl⟩
  · refine xAG vf60 ?_ (Nat.le_of_ble_eq_true rfl) (by intro vs h; cases h)
    repeat first|refine zA ?_|refine zB ?_|refine zC ?_|refine zD ?_|refine zE ?_|refine zF ?_|refine cf ho ?_|refine o_v0 visn ?_|refine za ?_|refine zb ?_|refine zc ?_
    refine cndt ?_
    repeat first|refine zA ?_|refine zB ?_|refine zC ?_|refine zD ?_|refine zE ?_|refine zF ?_|refine cf a5 ?_|refine za ?_|refine zb ?_|refine zc ?_
    exact xAC ⟨.inr rfl, oAny rfl⟩
  · refine xAG vf60 ?_ (Nat.le_of_ble_eq_true rfl) (by intro vs h; cases h)
    repeat first|refine zA ?_|refine zB ?_|refine zC ?_|refine zD ?_|refine zE ?_|refine zF ?_|refine cf ho ?_|refine o_v0 visn ?_|refine za ?_|refine zb ?_|refine zc ?_
    refine cndt ?_
    repeat first|refine zA ?_|refine zB ?_|refine zC ?_|refine zD ?_|refine zE ?_|refine zF ?_|refine cf a6 ?_|refine za ?_|refine zb ?_|refine zc ?_
    exact xAC ⟨.inr rfl, oAny rfl⟩
theorem xOU {m : MsgL} (hm : MsgSz m) : VC Tryz.prog 59 [.agg (encM m)] [] (.sh false ((xA5 m).map encS)) [] := by
  by_cases h6 : m.kind = 6
  · have g : (m.kind == 6) = true := by rw [h6]; rfl
    have e : xA5 m = [] := by unfold xA5; rw [if_pos h6]
    rw [e]
    refine xJ9 ?_
    refine xAG vf59 ?_ (Nat.le_of_ble_eq_true rfl) (by intro vs h; cases h)
    repeat first|refine zA ?_|refine zB ?_|refine zC ?_|refine zD ?_|refine zE ?_|refine zF ?_|refine zL ?_|refine zM ?_|refine zN ?_|refine zX ?_|refine za ?_|refine zb ?_|refine zc ?_
    refine cndt ?_
    repeat first|refine zA ?_|refine zB ?_|refine zC ?_|refine zD ?_|refine zE ?_|refine zF ?_|refine zL ?_|refine zM ?_|refine zN ?_|refine zX ?_|refine za ?_|refine zb ?_|refine zc ?_
    exact xAC ⟨.inr rfl, oAny rfl⟩
  · have g : (m.kind == 6) = false := by simpa using h6
    have e : xA5 m = xAh m := by unfold xA5; rw [if_neg h6]
    rw [e]
    have hw := xIM hm
    refine xAG vf59 ?_ (Nat.le_of_ble_eq_true rfl) (by intro vs h; cases h)
    repeat first|refine zA ?_|refine zB ?_|refine zC ?_|refine zD ?_|refine zE ?_|refine zF ?_|refine zL ?_|refine zM ?_|refine zN ?_|refine zX ?_|refine za ?_|refine zb ?_|refine zc ?_
    refine cndf (xAB ?_)
    repeat first|refine zA ?_|refine zB ?_|refine zC ?_|refine zD ?_|refine zE ?_|refine zF ?_|refine cf hw ?_|refine zL ?_|refine zM ?_|refine zN ?_|refine zX ?_|refine za ?_|refine zb ?_|refine zc ?_
    exact xAC ⟨.inr rfl, oAny rfl⟩
end Go.Proofs
open Go.V Go.Pu
open Go.V renaming xA4 → zA, nl → zB, xAQ → zC, rg → zD, xAK → zE, bq → zF, xBD → zL, xBE → zM, xBs → zN, xBt → zX, xAl → za, xAm → zb, xFT → zc, xBL → ze
set_option linter.unusedVariables false
set_option linter.unusedSimpArgs false
set_option maxRecDepth 20000
namespace Go.Proofs
def vc25 : VCode :=
 (.seq
 (.region 0 false [
 .e 1 (.box (.t 0)) 0,
 .e 2 (.copy (.c .nils)) 8])
 (.seq
 (.seq
 (.region 1 false [
 .e 3 (.faddr 0 (.t 1)) 8192,
 .e 4 (.load false 1 (.t 3)) 8200])
 (.block 0
 (.seq
 (.seq
 (.region 2 false [
 .e 6 (.bin .eql (.t 4) (.c (.int .i64 1))) 16384,
 .e 5 (.copy (.t 6)) 16392])
 (.cond (.t 5)
 .skip
 (.region 3 false [
 .e 7 (.bin .eql (.t 4) (.c (.int .i64 2))) 24576,
 .e 5 (.copy (.t 7)) 24584])))
 (.cond (.t 5)
 (.seq
 (.region 4 false [
 .e 8 (.faddr 1 (.t 1)) 32768,
 .e 9 (.load false 1 (.t 8)) 32776,
 .e 10 (.call (.c (.fn 42 [])) [(.t 9)]) 32784,
 .e 11 (.bslice 2 [(.str []), (.str [])] 1 [(0, (.t 10))]) 32792,
 .e 2 (.copy (.t 11)) 32800])
 .ret)
 (.seq
 (.region 5 false [
 .e 13 (.bin .eql (.t 4) (.c (.int .i64 4))) 40960,
 .e 12 (.copy (.t 13)) 40968])
 (.cond (.t 12)
 (.seq
 (.region 6 true [
 .e 14 (.faddr 5 (.t 1)) 49152,
 .f 15 (.load false 1 (.t 14)) 49160 [0],
 .f 16 (.call (.c (.fn 40 [])) [(.t 15)]) 49168 [1, 0],
 .e 17 (.faddr 6 (.t 1)) 49176,
 .f 18 (.load false 1 (.t 17)) 49184 [3],
 .f 19 (.call (.c (.fn 40 [])) [(.t 18)]) 49192 [4, 3, 2, 1, 0],
 .f 20 (.bslice 2 [(.str []), (.str [])] 2 [(0, (.t 16)), (1, (.t 19))]) 49200 [2, 1, 0, 5, 4, 3],
 .f 2 (.copy (.t 20)) 49208 [6, 2, 1, 0, 5, 4, 3]])
 .ret)
 (.seq
 (.region 7 false [
 .e 22 (.bin .eql (.t 4) (.c (.int .i64 5))) 57344,
 .e 21 (.copy (.t 22)) 57352])
 (.cond (.t 21)
 (.seq
 (.region 8 false [
 .e 23 (.faddr 6 (.t 1)) 65536,
 .e 24 (.load false 1 (.t 23)) 65544,
 .e 25 (.call (.c (.fn 40 [])) [(.t 24)]) 65552,
 .e 26 (.bslice 2 [(.str []), (.str [])] 1 [(0, (.t 25))]) 65560,
 .e 2 (.copy (.t 26)) 65568])
 .ret)
 .skip))))))))
 (.seq
 (.region 9 false [
 .e 27 (.faddr 3 (.t 1)) 73728,
 .e 28 (.load true 2 (.t 27)) 73736,
 .e 29 (.bslice 2 [(.str []), (.str [])] 1 [(0, (.t 28))]) 73744,
 .e 2 (.copy (.t 29)) 73752])
 .ret)))
theorem vf25 : VF Tryz.prog 25 = some (30, vc25, [.tmp 2]) := by kernel_rfl
def vc36 : VCode :=
 (.seq
 (.region 0 false [
 .e 1 (.box (.t 0)) 0,
 .e 2 (.copy (.c .nils)) 8])
 (.seq
 (.seq
 (.region 1 false [
 .e 3 (.faddr 0 (.t 1)) 8192,
 .e 4 (.load false 1 (.t 3)) 8200,
 .e 5 (.bin .eql (.t 4) (.c (.int .i64 6))) 8208])
 (.cond (.t 5)
 (.seq
 (.region 2 false [
 .e 6 (.bslice 2 [(.str []), (.str [])] 0 []) 16384,
 .e 2 (.copy (.t 6)) 16392])
 .ret)
 .skip))
 (.seq
 (.region 3 false [
 .e 7 (.load true 8 (.t 1)) 24576,
 .e 8 (.call (.c (.fn 25 [])) [(.t 7)]) 24584,
 .e 2 (.copy (.t 8)) 24592])
 .ret)))
theorem vf36 : VF Tryz.prog 36 = some (9, vc36, [.tmp 2]) := by kernel_rfl
def vc37 : VCode :=
 (.seq
 (.region 0 false [
 .e 1 (.box (.t 0)) 0,
 .e 2 (.copy (.c .nils)) 8])
 (.seq
 (.seq
 (.region 1 false [
 .e 3 (.faddr 0 (.t 1)) 8192,
 .e 4 (.load false 1 (.t 3)) 8200])
 (.block 0
 (.seq
 (.seq
 (.region 2 false [
 .e 6 (.bin .eql (.t 4) (.c (.int .i64 4))) 16384,
 .e 5 (.copy (.t 6)) 16392])
 (.cond (.t 5)
 .skip
 (.region 3 false [
 .e 7 (.bin .eql (.t 4) (.c (.int .i64 5))) 24576,
 .e 5 (.copy (.t 7)) 24584])))
 (.cond (.t 5)
 (.seq
 (.region 4 false [
 .e 8 (.faddr 5 (.t 1)) 32768,
 .e 9 (.load false 1 (.t 8)) 32776,
 .e 10 (.call (.c (.fn 40 [])) [(.t 9)]) 32784,
 .e 11 (.bslice 2 [(.str []), (.str [])] 1 [(0, (.t 10))]) 32792,
 .e 2 (.copy (.t 11)) 32800])
 .ret)
 (.seq
 (.region 5 false [
 .e 13 (.bin .eql (.t 4) (.c (.int .i64 6))) 40960,
 .e 12 (.copy (.t 13)) 40968])
 (.cond (.t 12)
 (.seq
 (.region 6 false [
 .e 14 (.faddr 3 (.t 1)) 49152,
 .e 15 (.load true 2 (.t 14)) 49160,
 .e 16 (.bslice 2 [(.str []), (.str [])] 1 [(0, (.t 15))]) 49168,
 .e 2 (.copy (.t 16)) 49176])
 .ret)
 .skip))))))
 (.seq
 (.region 7 false [
 .e 17 (.bslice 2 [(.str []), (.str [])] 0 []) 57344,
 .e 2 (.copy (.t 17)) 57352])
 .ret)))
theorem vf37 : VF Tryz.prog 37 = some (18, vc37, [.tmp 2]) := by kernel_rfl
theorem xEm {m : MsgL} (hm : MsgSz m) : VC Tryz.prog 25 [.agg (encM m)] [] (.sh false ((xAh m).map encS)) [] := by
  have a1 := xMN m.key (by have := hm.key; omega)
  have a2 := xDq m.fr (by have := hm.fr; omega)
  have a3 := xDq m.to (by have := hm.to; omega)
  refine xB3 ?_
  have hk := hm.k
  obtain ⟨k, m2, m3, m4, m5, m6, m7⟩ := m
  simp only at hk
  rcases six hk with rfl | rfl | rfl | rfl | rfl | rfl
  · refine xAG vf25 ?_ (Nat.le_of_ble_eq_true rfl) (by intro vs h; cases h)
    repeat first|refine zA ?_|refine zB ?_|refine zC ?_|refine zD ?_|refine zE ?_|refine zF ?_|refine zL ?_|refine zM ?_|refine zN ?_|refine zX ?_|refine za ?_|refine zb ?_|refine zc ?_|refine ze ?_
    refine cndt (xAB ?_)
    refine cndt ?_
    repeat first|refine zA ?_|refine zB ?_|refine zC ?_|refine zD ?_|refine zE ?_|refine zF ?_|refine cv0 a1 ?_|refine zL ?_|refine zM ?_|refine zN ?_|refine zX ?_|refine za ?_|refine zb ?_|refine zc ?_|refine ze ?_
    exact xAC ⟨.inr rfl, oOwn rfl⟩
  · refine xAG vf25 ?_ (Nat.le_of_ble_eq_true rfl) (by intro vs h; cases h)
    repeat first|refine zA ?_|refine zB ?_|refine zC ?_|refine zD ?_|refine zE ?_|refine zF ?_|refine zL ?_|refine zM ?_|refine zN ?_|refine zX ?_|refine za ?_|refine zb ?_|refine zc ?_|refine ze ?_
    refine cndf ?_
    repeat first|refine zA ?_|refine zB ?_|refine zC ?_|refine zD ?_|refine zE ?_|refine zF ?_|refine zL ?_|refine zM ?_|refine zN ?_|refine zX ?_|refine za ?_|refine zb ?_|refine zc ?_|refine ze ?_
    refine cndt ?_
    repeat first|refine zA ?_|refine zB ?_|refine zC ?_|refine zD ?_|refine zE ?_|refine zF ?_|refine cv0 a1 ?_|refine zL ?_|refine zM ?_|refine zN ?_|refine zX ?_|refine za ?_|refine zb ?_|refine zc ?_|refine ze ?_
    exact xAC ⟨.inr rfl, oOwn rfl⟩
  · refine xAG vf25 ?_ (Nat.le_of_ble_eq_true rfl) (by intro vs h; cases h)
    repeat first|refine zA ?_|refine zB ?_|refine zC ?_|refine zD ?_|refine zE ?_|refine zF ?_|refine zL ?_|refine zM ?_|refine zN ?_|refine zX ?_|refine za ?_|refine zb ?_|refine zc ?_|refine ze ?_
    refine cndf ?_
    repeat first|refine zA ?_|refine zB ?_|refine zC ?_|refine zD ?_|refine zE ?_|refine zF ?_|refine zL ?_|refine zM ?_|refine zN ?_|refine zX ?_|refine za ?_|refine zb ?_|refine zc ?_|refine ze ?_
    refine cndf ?_
    repeat first|refine zA ?_|refine zB ?_|refine zC ?_|refine zD ?_|refine zE ?_|refine zF ?_|refine zL ?_|refine zM ?_|refine zN ?_|refine zX ?_|refine za ?_|refine zb ?_|refine zc ?_|refine ze ?_
    refine cndf ?_
    repeat first|refine zA ?_|refine zB ?_|refine zC ?_|refine zD ?_|refine zE ?_|refine zF ?_|refine zL ?_|refine zM ?_|refine zN ?_|refine zX ?_|refine za ?_|refine zb ?_|refine zc ?_|refine ze ?_
    refine cndf (xAB ?_)
    repeat first|refine zA ?_|refine zB ?_|refine zC ?_|refine zD ?_|refine zE ?_|refine zF ?_|refine zL ?_|refine zM ?_|refine zN ?_|refine zX ?_|refine za ?_|refine zb ?_|refine zc ?_|refine ze ?_
    exact xAC ⟨.inr rfl, oOwn rfl⟩
  · refine xAG vf25 ?_ (Nat.le_of_ble_eq_true rfl) (by intro vs h; cases h)
    repeat first|refine zA ?_|refine zB ?_|refine zC ?_|refine zD ?_|refine zE ?_|refine zF ?_|refine zL ?_|refine zM ?_|refine zN ?_|refine zX ?_|refine za ?_|refine zb ?_|refine zc ?_|refine ze ?_
    refine cndf ?_
    repeat first|refine zA ?_|refine zB ?_|refine zC ?_|refine zD ?_|refine zE ?_|refine zF ?_|refine zL ?_|refine zM ?_|refine zN ?_|refine zX ?_|refine za ?_|refine zb ?_|refine zc ?_|refine ze ?_
    refine cndf ?_
    repeat first|refine zA ?_|refine zB ?_|refine zC ?_|refine zD ?_|refine zE ?_|refine zF ?_|refine zL ?_|refine zM ?_|refine zN ?_|refine zX ?_|refine za ?_|refine zb ?_|refine zc ?_|refine ze ?_
    refine cndt ?_
    repeat first|refine zA ?_|refine zB ?_|refine zC ?_|refine zD ?_|refine zE ?_|refine zF ?_|refine cv0 a2 ?_|refine cv0 a3 ?_|refine zL ?_|refine zM ?_|refine zN ?_|refine zX ?_|refine za ?_|refine zb ?_|refine zc ?_|refine ze ?_
    exact xAC ⟨.inr rfl, oOwn rfl⟩
  · refine xAG vf25 ?_ (Nat.le_of_ble_eq_true rfl) (by intro vs h; cases h)
    repeat first|refine zA ?_|refine zB ?_|refine zC ?_|refine zD ?_|refine zE ?_|refine zF ?_|refine zL ?_|refine zM ?_|refine zN ?_|refine zX ?_|refine za ?_|refine zb ?_|refine zc ?_|refine ze ?_
    refine cndf ?_
    repeat first|refine zA ?_|refine zB ?_|refine zC ?_|refine zD ?_|refine zE ?_|refine zF ?_|refine zL ?_|refine zM ?_|refine zN ?_|refine zX ?_|refine za ?_|refine zb ?_|refine zc ?_|refine ze ?_
    refine cndf ?_
    repeat first|refine zA ?_|refine zB ?_|refine zC ?_|refine zD ?_|refine zE ?_|refine zF ?_|refine zL ?_|refine zM ?_|refine zN ?_|refine zX ?_|refine za ?_|refine zb ?_|refine zc ?_|refine ze ?_
    refine cndf ?_
    repeat first|refine zA ?_|refine zB ?_|refine zC ?_|refine zD ?_|refine zE ?_|refine zF ?_|refine zL ?_|refine zM ?_|refine zN ?_|refine zX ?_|refine za ?_|refine zb ?_|refine zc ?_|refine ze ?_
    refine cndt ?_
    repeat first|refine zA ?_|refine zB ?_|refine zC ?_|refine zD ?_|refine zE ?_|refine zF ?_|refine cv0 a3 ?_|refine zL ?_|refine zM ?_|refine zN ?_|refine zX ?_|refine za ?_|refine zb ?_|refine zc ?_|refine ze ?_
    exact xAC ⟨.inr rfl, oOwn rfl⟩
  · refine xAG vf25 ?_ (Nat.le_of_ble_eq_true rfl) (by intro vs h; cases h)
    repeat first|refine zA ?_|refine zB ?_|refine zC ?_|refine zD ?_|refine zE ?_|refine zF ?_|refine zL ?_|refine zM ?_|refine zN ?_|refine zX ?_|refine za ?_|refine zb ?_|refine zc ?_|refine ze ?_
    refine cndf ?_
    repeat first|refine zA ?_|refine zB ?_|refine zC ?_|refine zD ?_|refine zE ?_|refine zF ?_|refine zL ?_|refine zM ?_|refine zN ?_|refine zX ?_|refine za ?_|refine zb ?_|refine zc ?_|refine ze ?_
    refine cndf ?_
    repeat first|refine zA ?_|refine zB ?_|refine zC ?_|refine zD ?_|refine zE ?_|refine zF ?_|refine zL ?_|refine zM ?_|refine zN ?_|refine zX ?_|refine za ?_|refine zb ?_|refine zc ?_|refine ze ?_
    refine cndf ?_
    repeat first|refine zA ?_|refine zB ?_|refine zC ?_|refine zD ?_|refine zE ?_|refine zF ?_|refine zL ?_|refine zM ?_|refine zN ?_|refine zX ?_|refine za ?_|refine zb ?_|refine zc ?_|refine ze ?_
    refine cndf (xAB ?_)
    repeat first|refine zA ?_|refine zB ?_|refine zC ?_|refine zD ?_|refine zE ?_|refine zF ?_|refine zL ?_|refine zM ?_|refine zN ?_|refine zX ?_|refine za ?_|refine zb ?_|refine zc ?_|refine ze ?_
    exact xAC ⟨.inr rfl, oOwn rfl⟩
theorem xMM {m : MsgL} (hm : MsgSz m) : VC Tryz.prog 37 [.agg (encM m)] [] (.sh false ((xCU m).map encS)) [] := by
  have a2 := xDq m.fr (by have := hm.fr; omega)
  refine xB3 ?_
  have hk := hm.k
  obtain ⟨k, m2, m3, m4, m5, m6, m7⟩ := m
  simp only at hk
  rcases six hk with rfl | rfl | rfl | rfl | rfl | rfl
  · refine xAG vf37 ?_ (Nat.le_of_ble_eq_true rfl) (by intro vs h; cases h)
    repeat first|refine zA ?_|refine zB ?_|refine zC ?_|refine zD ?_|refine zE ?_|refine zF ?_|refine zL ?_|refine zM ?_|refine zN ?_|refine zX ?_|refine za ?_|refine zb ?_|refine zc ?_|refine ze ?_
    refine cndf ?_
    repeat first|refine zA ?_|refine zB ?_|refine zC ?_|refine zD ?_|refine zE ?_|refine zF ?_|refine zL ?_|refine zM ?_|refine zN ?_|refine zX ?_|refine za ?_|refine zb ?_|refine zc ?_|refine ze ?_
    refine cndf ?_
    repeat first|refine zA ?_|refine zB ?_|refine zC ?_|refine zD ?_|refine zE ?_|refine zF ?_|refine zL ?_|refine zM ?_|refine zN ?_|refine zX ?_|refine za ?_|refine zb ?_|refine zc ?_|refine ze ?_
    refine cndf (xAB ?_)
    repeat first|refine zA ?_|refine zB ?_|refine zC ?_|refine zD ?_|refine zE ?_|refine zF ?_|refine zL ?_|refine zM ?_|refine zN ?_|refine zX ?_|refine za ?_|refine zb ?_|refine zc ?_|refine ze ?_
    exact xAC ⟨.inr rfl, oOwn rfl⟩
  · refine xAG vf37 ?_ (Nat.le_of_ble_eq_true rfl) (by intro vs h; cases h)
    repeat first|refine zA ?_|refine zB ?_|refine zC ?_|refine zD ?_|refine zE ?_|refine zF ?_|refine zL ?_|refine zM ?_|refine zN ?_|refine zX ?_|refine za ?_|refine zb ?_|refine zc ?_|refine ze ?_
    refine cndf ?_
    repeat first|refine zA ?_|refine zB ?_|refine zC ?_|refine zD ?_|refine zE ?_|refine zF ?_|refine zL ?_|refine zM ?_|refine zN ?_|refine zX ?_|refine za ?_|refine zb ?_|refine zc ?_|refine ze ?_
    refine cndf ?_
    repeat first|refine zA ?_|refine zB ?_|refine zC ?_|refine zD ?_|refine zE ?_|refine zF ?_|refine zL ?_|refine zM ?_|refine zN ?_|refine zX ?_|refine za ?_|refine zb ?_|refine zc ?_|refine ze ?_
    refine cndf (xAB ?_)
    repeat first|refine zA ?_|refine zB ?_|refine zC ?_|refine zD ?_|refine zE ?_|refine zF ?_|refine zL ?_|refine zM ?_|refine zN ?_|refine zX ?_|refine za ?_|refine zb ?_|refine zc ?_|refine ze ?_
    exact xAC ⟨.inr rfl, oOwn rfl⟩
  · refine xAG vf37 ?_ (Nat.le_of_ble_eq_true rfl) (by intro vs h; cases h)
    repeat first|refine zA ?_|refine zB ?_|refine zC ?_|refine zD ?_|refine zE ?_|refine zF ?_|refine zL ?_|refine zM ?_|refine zN ?_|refine zX ?_|refine za ?_|refine zb ?_|refine zc ?_|refine ze ?_
    refine cndf ?_
    repeat first|refine zA ?_|refine zB ?_|refine zC ?_|refine zD ?_|refine zE ?_|refine zF ?_|refine zL ?_|refine zM ?_|refine zN ?_|refine zX ?_|refine za ?_|refine zb ?_|refine zc ?_|refine ze ?_
    refine cndf ?_
    repeat first|refine zA ?_|refine zB ?_|refine zC ?_|refine zD ?_|refine zE ?_|refine zF ?_|refine zL ?_|refine zM ?_|refine zN ?_|refine zX ?_|refine za ?_|refine zb ?_|refine zc ?_|refine ze ?_
    refine cndf (xAB ?_)
    repeat first|refine zA ?_|refine zB ?_|refine zC ?_|refine zD ?_|refine zE ?_|refine zF ?_|refine zL ?_|refine zM ?_|refine zN ?_|refine zX ?_|refine za ?_|refine zb ?_|refine zc ?_|refine ze ?_
    exact xAC ⟨.inr rfl, oOwn rfl⟩
  · refine xAG vf37 ?_ (Nat.le_of_ble_eq_true rfl) (by intro vs h; cases h)
    repeat first|refine zA ?_|refine zB ?_|refine zC ?_|refine zD ?_|refine zE ?_|refine zF ?_|refine zL ?_|refine zM ?_|refine zN ?_|refine zX ?_|refine za ?_|refine zb ?_|refine zc ?_|refine ze ?_
    refine cndt (xAB ?_)
    refine cndt ?_
    repeat first|refine zA ?_|refine zB ?_|refine zC ?_|refine zD ?_|refine zE ?_|refine zF ?_|refine cv0 a2 ?_|refine zL ?_|refine zM ?_|refine zN ?_|refine zX ?_|refine za ?_|refine zb ?_|refine zc ?_|refine ze ?_
    exact xAC ⟨.inr rfl, oOwn rfl⟩
  · refine xAG vf37 ?_ (Nat.le_of_ble_eq_true rfl) (by intro vs h; cases h)
    repeat first|refine zA ?_|refine zB ?_|refine zC ?_|refine zD ?_|refine zE ?_|refine zF ?_|refine zL ?_|refine zM ?_|refine zN ?_|refine zX ?_|refine za ?_|refine zb ?_|refine zc ?_|refine ze ?_
    refine cndf ?_
    repeat first|refine zA ?_|refine zB ?_|refine zC ?_|refine zD ?_|refine zE ?_|refine zF ?_|refine zL ?_|refine zM ?_|refine zN ?_|refine zX ?_|refine za ?_|refine zb ?_|refine zc ?_|refine ze ?_
    refine cndt ?_
    repeat first|refine zA ?_|refine zB ?_|refine zC ?_|refine zD ?_|refine zE ?_|refine zF ?_|refine cv0 a2 ?_|refine zL ?_|refine zM ?_|refine zN ?_|refine zX ?_|refine za ?_|refine zb ?_|refine zc ?_|refine ze ?_
    exact xAC ⟨.inr rfl, oOwn rfl⟩
  · refine xAG vf37 ?_ (Nat.le_of_ble_eq_true rfl) (by intro vs h; cases h)
    repeat first|refine zA ?_|refine zB ?_|refine zC ?_|refine zD ?_|refine zE ?_|refine zF ?_|refine zL ?_|refine zM ?_|refine zN ?_|refine zX ?_|refine za ?_|refine zb ?_|refine zc ?_|refine ze ?_
    refine cndf ?_
    repeat first|refine zA ?_|refine zB ?_|refine zC ?_|refine zD ?_|refine zE ?_|refine zF ?_|refine zL ?_|refine zM ?_|refine zN ?_|refine zX ?_|refine za ?_|refine zb ?_|refine zc ?_|refine ze ?_
    refine cndf ?_
    repeat first|refine zA ?_|refine zB ?_|refine zC ?_|refine zD ?_|refine zE ?_|refine zF ?_|refine zL ?_|refine zM ?_|refine zN ?_|refine zX ?_|refine za ?_|refine zb ?_|refine zc ?_|refine ze ?_
    refine cndt ?_
    repeat first|refine zA ?_|refine zB ?_|refine zC ?_|refine zD ?_|refine zE ?_|refine zF ?_|refine zL ?_|refine zM ?_|refine zN ?_|refine zX ?_|refine za ?_|refine zb ?_|refine zc ?_|refine ze ?_
    exact xAC ⟨.inr rfl, oOwn rfl⟩
theorem xMR {m : MsgL} (hm : MsgSz m) : VC Tryz.prog 36 [.agg (encM m)] [] (.sh false ((xA5 m).map encS)) [] := by
  by_cases h6 : m.kind = 6
  · have g : (m.kind == 6) = true := by rw [h6]; rfl
    have e : xA5 m = [] := by unfold xA5; rw [if_pos h6]
    rw [e]
    refine xB3 ?_
    refine xAG vf36 ?_ (Nat.le_of_ble_eq_true rfl) (by intro vs h; cases h)
    repeat first|refine zA ?_|refine zB ?_|refine zC ?_|refine zD ?_|refine zE ?_|refine zF ?_|refine zL ?_|refine zM ?_|refine zN ?_|refine zX ?_|refine za ?_|refine zb ?_|refine zc ?_|refine ze ?_
    refine cndt ?_
    repeat first|refine zA ?_|refine zB ?_|refine zC ?_|refine zD ?_|refine zE ?_|refine zF ?_|refine zL ?_|refine zM ?_|refine zN ?_|refine zX ?_|refine za ?_|refine zb ?_|refine zc ?_|refine ze ?_
    exact xAC ⟨.inr rfl, oOwn rfl⟩
  · have g : (m.kind == 6) = false := by simpa using h6
    have e : xA5 m = xAh m := by unfold xA5; rw [if_neg h6]
    rw [e]
    have hw := xEm hm
    refine xAG vf36 ?_ (Nat.le_of_ble_eq_true rfl) (by intro vs h; cases h)
    repeat first|refine zA ?_|refine zB ?_|refine zC ?_|refine zD ?_|refine zE ?_|refine zF ?_|refine zL ?_|refine zM ?_|refine zN ?_|refine zX ?_|refine za ?_|refine zb ?_|refine zc ?_|refine ze ?_
    refine cndf (xAB ?_)
    repeat first|refine zA ?_|refine zB ?_|refine zC ?_|refine zD ?_|refine zE ?_|refine zF ?_|refine cf hw ?_|refine zL ?_|refine zM ?_|refine zN ?_|refine zX ?_|refine za ?_|refine zb ?_|refine zc ?_|refine ze ?_
    exact xAC ⟨.inr rfl, oAny rfl⟩
end Go.Proofs
