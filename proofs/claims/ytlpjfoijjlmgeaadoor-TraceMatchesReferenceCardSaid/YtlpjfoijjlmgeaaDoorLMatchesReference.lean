/- LMatchesReference -/
import Derived.Test.YtlpjfoijjlmgeaaDoorHc
open Go.V Go.Pu
set_option linter.unusedVariables false
set_option linter.unusedSimpArgs false
set_option maxRecDepth 20000
namespace Go.Proofs
def vc3 : VCode :=
 (.seq
 (.region 0 false [
 .e 4 (.box (.t 1)) 0,
 .e 6 (.copy (.c (.bool false))) 8])
 (.seq
 (.region 1 false [
 .e 17 (.call (.c (.fn 8 [])) []) 8192,
 .e 7 (.copy (.t 17)) 8200])
 (.seq
 (.seq
 (.region 2 false [
 .e 18 (.copy (.t 2)) 16384,
 .e 19 (.lenS (.t 18)) 16392,
 .e 20 (.bin .gtr (.t 19) (.c (.int .i64 60))) 16400])
 (.cond (.t 20)
 (.seq
 (.region 3 false [
 .e 21 (.copy (.t 7)) 24576,
 .e 6 (.copy (.t 21)) 24584])
 .ret)
 .skip))
 (.seq
 (.region 4 true [
 .e 22 (.copy (.t 0)) 32768,
 .f 23 (.call (.c (.fn 9 [])) [(.t 22), (.c (.int .i64 10))]) 32776 [0],
 .e 24 (.iaddrA 4 1 (.t 4) (.c (.int .i64 0))) 32784,
 .f 25 (.load false 1 (.t 24)) 32792 [2],
 .e 26 (.copy (.t 2)) 32800,
 .f 27 (.call (.c (.fn 10 [])) [(.t 25), (.t 26)]) 32808 [3, 2, 4, 1, 0],
 .f 8 (.copy (.t 23)) 32816 [1, 0, 5, 3, 2, 4],
 .f 9 (.copy (.t 27)) 32824 [5, 3, 2, 4, 1, 0, 6]])
 (.seq
 (.region 5 false [
 .e 28 (.iaddrA 4 1 (.t 4) (.c (.int .i64 1))) 40960,
 .e 29 (.load false 1 (.t 28)) 40968,
 .e 30 (.iaddrA 4 1 (.t 4) (.c (.int .i64 2))) 40976,
 .e 31 (.load false 1 (.t 30)) 40984,
 .e 32 (.build [(.int .u8 0), (.int .u8 0)] [(0, 1, (.t 29)), (1, 1, (.t 31))]) 40992,
 .e 33 (.call (.c (.fn 11 [])) [(.t 32)]) 41000,
 .e 10 (.alloc [(.str []), (.str [])]) 41008,
 .h (.store 2 (.t 10) (.t 33)) 41016 []])
 (.seq
 (.region 6 false [
 .e 34 (.copy (.t 9)) 49152,
 .e 35 (.copy (.t 8)) 49160,
 .e 36 (.call (.c (.fn 12 [])) [(.t 34), (.t 35)]) 49168,
 .e 11 (.alloc [(.bool false), (.bool false), (.str []), (.str []), (.int .i64 0), (.str []), (.bool false), (.int .i64 0)]) 49176,
 .h (.store 8 (.t 11) (.t 36)) 49184 []])
 (.seq
 (.region 7 false [
 .e 37 (.iaddrA 4 1 (.t 4) (.c (.int .i64 1))) 57344,
 .e 38 (.load false 1 (.t 37)) 57352,
 .e 39 (.iaddrA 4 1 (.t 4) (.c (.int .i64 2))) 57360,
 .e 40 (.load false 1 (.t 39)) 57368,
 .e 41 (.iaddrA 4 1 (.t 4) (.c (.int .i64 3))) 57376,
 .e 42 (.load false 1 (.t 41)) 57384,
 .e 43 (.build [(.int .u8 0), (.int .u8 0), (.int .u8 0)] [(0, 1, (.t 38)), (1, 1, (.t 40)), (2, 1, (.t 42))]) 57392,
 .e 44 (.call (.c (.fn 13 [])) [(.t 43)]) 57400,
 .e 12 (.alloc [(.str []), (.str []), (.int .i64 0)]) 57408,
 .h (.store 3 (.t 12) (.t 44)) 57416 []])
 (.seq
 (.region 8 false [
 .e 46 (.load true 8 (.t 11)) 65536,
 .e 47 (.load true 3 (.t 12)) 65544,
 .e 48 (.iaddrA 4 1 (.t 4) (.c (.int .i64 3))) 65552,
 .e 49 (.load false 1 (.t 48)) 65560,
 .e 50 (.bin .rem (.t 49) (.c (.int .u8 2))) 65568,
 .e 51 (.bin .eql (.t 50) (.c (.int .u8 0))) 65576,
 .e 52 (.call (.c (.fn 14 [])) [(.t 46), (.t 47), (.t 51)]) 65584,
 .e 45 (.copy (.t 52)) 65592,
 .e 53 (.extract (.t 45) 0) 65600,
 .e 54 (.extract (.t 45) 1) 65608,
 .e 13 (.alloc [(.str []), (.str []), (.int .i64 0)]) 65616,
 .h (.store 3 (.t 13) (.t 53)) 65624 [],
 .e 14 (.copy (.t 54)) 65632])
 (.seq
 (.region 9 false [
 .e 56 (.load true 8 (.t 11)) 73728,
 .e 57 (.load true 3 (.t 12)) 73736,
 .e 58 (.iaddrA 4 1 (.t 4) (.c (.int .i64 3))) 73744,
 .e 59 (.load false 1 (.t 58)) 73752,
 .e 60 (.bin .rem (.t 59) (.c (.int .u8 2))) 73760,
 .e 61 (.bin .eql (.t 60) (.c (.int .u8 0))) 73768,
 .e 62 (.call (.c (.fn 15 [])) [(.t 56), (.t 57), (.t 61)]) 73776,
 .e 55 (.copy (.t 62)) 73784,
 .e 63 (.extract (.t 55) 0) 73792,
 .e 64 (.extract (.t 55) 1) 73800,
 .e 15 (.alloc [(.str []), (.str []), (.int .i64 0)]) 73808,
 .h (.store 3 (.t 15) (.t 63)) 73816 [],
 .e 16 (.copy (.t 64)) 73824])
 (.seq
 (.region 10 true [
 .e 65 (.copy (.t 9)) 81920,
 .e 66 (.copy (.t 8)) 81928,
 .f 67 (.call (.c (.fn 16 [])) [(.t 65), (.t 66)]) 81936 [0, 1],
 .e 68 (.load true 8 (.t 11)) 81944,
 .f 69 (.eqc false [0, 0, 2, 2, 1, 2, 0, 1] (.t 67) (.t 68)) 81952 [2, 0, 1, 3],
 .f 70 (.copy (.t 69)) 81960 [4, 2, 0, 1, 3],
 .g 71 (.load true 3 (.t 13)) 5 70 true 81968 [5, 4, 2, 0, 1, 3],
 .g 72 (.load true 3 (.t 15)) 5 70 true 81976 [5, 4, 2, 0, 1, 3],
 .g 73 (.eqc false [2, 2, 1] (.t 71) (.t 72)) 5 70 true 81984 [6, 5, 4, 2, 0, 1, 3, 7],
 .f 74 (.pick (.t 70) (.t 73) (.c (.bool false))) 81992 [5, 4, 2, 0, 1, 3, 8, 6, 7],
 .f 75 (.copy (.t 74)) 82000 [9, 5, 4, 2, 0, 1, 3, 8, 6, 7],
 .g 76 (.copy (.t 14)) 10 75 true 82008 [10, 9, 5, 4, 2, 0, 1, 3, 8, 6, 7],
 .g 77 (.copy (.t 16)) 10 75 true 82016 [10, 9, 5, 4, 2, 0, 1, 3, 8, 6, 7],
 .g 78 (.eqb false (.t 76) (.t 77)) 10 75 true 82024 [11, 10, 9, 5, 4, 2, 0, 1, 3, 8, 6, 7, 12],
 .f 79 (.pick (.t 75) (.t 78) (.c (.bool false))) 82032 [10, 9, 5, 4, 2, 0, 1, 3, 8, 6, 7, 13, 11, 12],
 .f 80 (.copy (.t 79)) 82040 [14, 10, 9, 5, 4, 2, 0, 1, 3, 8, 6, 7, 13, 11, 12],
 .g 81 (.load true 2 (.t 10)) 15 80 true 82048 [15, 14, 10, 9, 5, 4, 2, 0, 1, 3, 8, 6, 7, 13, 11, 12],
 .g 82 (.copy (.t 8)) 15 80 true 82056 [15, 14, 10, 9, 5, 4, 2, 0, 1, 3, 8, 6, 7, 13, 11, 12],
 .g 83 (.call (.c (.fn 18 [])) [(.t 81), (.t 82)]) 15 80 true 82064 [16, 15, 14, 10, 9, 5, 4, 2, 0, 1, 3, 8, 6, 7, 13, 11, 12, 17],
 .g 84 (.load true 2 (.t 10)) 15 80 true 82072 [15, 14, 10, 9, 5, 4, 2, 0, 1, 3, 8, 6, 7, 13, 11, 12],
 .g 85 (.copy (.t 8)) 15 80 true 82080 [15, 14, 10, 9, 5, 4, 2, 0, 1, 3, 8, 6, 7, 13, 11, 12],
 .g 86 (.call (.c (.fn 19 [])) [(.t 84), (.t 85)]) 15 80 true 82088 [19, 15, 14, 10, 9, 5, 4, 2, 0, 1, 3, 8, 6, 7, 13, 11, 12, 20, 18, 16, 17],
 .g 87 (.call (.c (.fn 17 [])) [(.t 83), (.t 86)]) 15 80 true 82096 [18, 16, 15, 14, 10, 9, 5, 4, 2, 0, 1, 3, 8, 6, 7, 13, 11, 12, 17, 21, 19, 20],
 .f 88 (.pick (.t 80) (.t 87) (.c (.bool false))) 82104 [15, 14, 10, 9, 5, 4, 2, 0, 1, 3, 8, 6, 7, 13, 11, 12, 22, 18, 16, 17, 21, 19, 20],
 .f 89 (.copy (.t 88)) 82112 [23, 15, 14, 10, 9, 5, 4, 2, 0, 1, 3, 8, 6, 7, 13, 11, 12, 22, 18, 16, 17, 21, 19, 20],
 .g 90 (.copy (.t 2)) 24 89 true 82120 [24, 23, 15, 14, 10, 9, 5, 4, 2, 0, 1, 3, 8, 6, 7, 13, 11, 12, 22, 18, 16, 17, 21, 19, 20],
 .g 91 (.build [(.str []), (.str [])] [(0, 1, (.t 90))]) 24 89 true 82128 [25, 24, 23, 15, 14, 10, 9, 5, 4, 2, 0, 1, 3, 8, 6, 7, 13, 11, 12, 22, 18, 16, 17, 21, 19, 20],
 .g 92 (.copy (.t 8)) 24 89 true 82136 [24, 23, 15, 14, 10, 9, 5, 4, 2, 0, 1, 3, 8, 6, 7, 13, 11, 12, 22, 18, 16, 17, 21, 19, 20],
 .g 93 (.call (.c (.fn 18 [])) [(.t 91), (.t 92)]) 24 89 true 82144 [26, 25, 24, 23, 15, 14, 10, 9, 5, 4, 2, 0, 1, 3, 8, 6, 7, 13, 11, 12, 22, 18, 16, 17, 21, 19, 20, 27],
 .g 94 (.copy (.t 2)) 24 89 true 82152 [24, 23, 15, 14, 10, 9, 5, 4, 2, 0, 1, 3, 8, 6, 7, 13, 11, 12, 22, 18, 16, 17, 21, 19, 20],
 .g 95 (.build [(.str []), (.str [])] [(0, 1, (.t 94))]) 24 89 true 82160 [29, 24, 23, 15, 14, 10, 9, 5, 4, 2, 0, 1, 3, 8, 6, 7, 13, 11, 12, 22, 18, 16, 17, 21, 19, 20],
 .g 96 (.copy (.t 8)) 24 89 true 82168 [24, 23, 15, 14, 10, 9, 5, 4, 2, 0, 1, 3, 8, 6, 7, 13, 11, 12, 22, 18, 16, 17, 21, 19, 20],
 .g 97 (.call (.c (.fn 19 [])) [(.t 95), (.t 96)]) 24 89 true 82176 [30, 29, 24, 23, 15, 14, 10, 9, 5, 4, 2, 0, 1, 3, 8, 6, 7, 13, 11, 12, 22, 18, 16, 17, 21, 19, 20, 31, 28, 26, 25, 27],
 .g 98 (.call (.c (.fn 17 [])) [(.t 93), (.t 97)]) 24 89 true 82184 [28, 26, 25, 24, 23, 15, 14, 10, 9, 5, 4, 2, 0, 1, 3, 8, 6, 7, 13, 11, 12, 22, 18, 16, 17, 21, 19, 20, 27, 32, 30, 29, 31],
 .f 99 (.pick (.t 89) (.t 98) (.c (.bool false))) 82192 [24, 23, 15, 14, 10, 9, 5, 4, 2, 0, 1, 3, 8, 6, 7, 13, 11, 12, 22, 18, 16, 17, 21, 19, 20, 33, 28, 26, 25, 27, 32, 30, 29, 31],
 .f 100 (.copy (.t 99)) 82200 [34, 24, 23, 15, 14, 10, 9, 5, 4, 2, 0, 1, 3, 8, 6, 7, 13, 11, 12, 22, 18, 16, 17, 21, 19, 20, 33, 28, 26, 25, 27, 32, 30, 29, 31],
 .g 101 (.copy (.t 7)) 35 100 true 82208 [35, 34, 24, 23, 15, 14, 10, 9, 5, 4, 2, 0, 1, 3, 8, 6, 7, 13, 11, 12, 22, 18, 16, 17, 21, 19, 20, 33, 28, 26, 25, 27, 32, 30, 29, 31],
 .f 102 (.pick (.t 100) (.t 101) (.c (.bool false))) 82216 [35, 34, 24, 23, 15, 14, 10, 9, 5, 4, 2, 0, 1, 3, 8, 6, 7, 13, 11, 12, 22, 18, 16, 17, 21, 19, 20, 33, 28, 26, 25, 27, 32, 30, 29, 31, 36],
 .f 6 (.copy (.t 102)) 82224 [37, 35, 34, 24, 23, 15, 14, 10, 9, 5, 4, 2, 0, 1, 3, 8, 6, 7, 13, 11, 12, 22, 18, 16, 17, 21, 19, 20, 33, 28, 26, 25, 27, 32, 30, 29, 31, 36]])
 .ret))))))))))
theorem vf3 : VF Tryd.prog 3 = some (103, vc3, [.tmp 6]) := by kernel_rfl
set_option maxHeartbeats 4000000 in
theorem xKQ {xs : List RawM} (hx1 : xs.length ≤ 9223372036854775807) (hx2 : ∀ r ∈ xs, r.ok) {a b c d : Nat} (ha : a < 256) (hb : b < 256) (hc : c < 256) (hd : d < 256) (s : Str) : VC Tryd.prog 3 [.sh false (xs.map encW), .agg [.int .u8 a, .int .u8 b, .int .u8 c, .int .u8 d], .str s] [] (.bool true) [] := by
  have hss := xD0
  have l1 := xNI hx1 hx2 10 (by omega)
  have n1 := xId xs 10
  have o1 : ∀ m ∈ xB5 xs 10, MsgOk m := xFi
  have s1 : ∀ m ∈ xB5 xs 10, MsgLen 8 m := xET
  generalize xB5 xs 10 = l at l1 n1 o1 s1
  have hk := xK1 ha s
  have hsp := xGQ hb hc
  have hpr := xPb ⟨b, c, d, hb, hc, hd⟩
  have hsl := @xE9 b c
  by_cases h60 : s.length ≤ 60
  · have g1 : decide ((s.length : Int) > 60) = false := decide_eq_false (by omega)
    have hkl := @xJZ a s h60
    have rk := xR5 (k := keyW a s) (l := l) (by omega) (by omega) o1 s1
    have pk := xFM (k := keyW a s) (l := l) (by omega) (by omega) o1 s1
    have p1 := xCJ (s := xFZ b c) (l := l) (by omega) o1 s1 ⟨by omega, by omega⟩
    have r1 := xJ7 (s := xFZ b c) (l := l) (by omega) o1 s1 ⟨by omega, by omega⟩
    have p2 := xCJ (s := ⟨s, []⟩) (l := l) (by omega) o1 s1 ⟨by simp only; omega, by simp⟩
    have r2 := xJ7 (s := ⟨s, []⟩) (l := l) (by omega) o1 s1 ⟨by simp only; omega, by simp⟩
    have z1 := xDG (xFZ b c) (r := l.reverse) (fun m hm => o1 m (List.mem_reverse.1 hm))
    have z2 := xDG ⟨s, []⟩ (r := l.reverse) (fun m hm => o1 m (List.mem_reverse.1 hm))
    rw [List.length_reverse] at z1 z2
    have q1 := xGv (l := xAp (xFZ b c) l.reverse) (by unfold maxLen; omega)
    have q2 := xGv (l := xAp ⟨s, []⟩ l.reverse) (by unfold maxLen; omega)
    generalize xAp (xFZ b c) l.reverse = sp1 at *
    generalize xAp ⟨s, []⟩ l.reverse = sp2 at *
    generalize keyL (keyW a s) l = f at *
    generalize xNF ⟨b, c, d, hb, hc, hd⟩ = p at *
    have v1 := xLt f p ((d : Int).tmod 2 == 0)
    have v2 := xN2 f p ((d : Int).tmod 2 == 0)
    generalize (xGk f p ((d : Int).tmod 2 == 0)).1 = w at *
    generalize (xGk f p ((d : Int).tmod 2 == 0)).2 = u at *
    refine vcs vf3 ?_
    repeat first|refine sgo ?_|refine cv0 hss ?_|refine sop ?_
    refine cndf (xAA ?_)
    repeat first|refine sgo ?_|refine cf l1 ?_|refine cv0 hk ?_|refine cv0 hsp ?_|refine cv0 rk ?_|refine cv0 hpr ?_|refine xCE ?_|refine cv0 v1 ?_|refine cv0 v2 ?_|refine cv0 pk ?_|refine cf p1 ?_|refine cf r1 ?_|refine cf p2 ?_|refine cf r2 ?_|refine cv0 q1 ?_|refine cv0 q2 ?_|refine o_v (veqF f) ?_|refine o_v (veqP w) ?_|refine o_v (veqB u) ?_|refine sop ?_
    exact xAC ⟨.inr rfl, oB rfl⟩
  · have g1 : decide ((s.length : Int) > 60) = true := decide_eq_true (by omega)
    refine vcs vf3 ?_
    repeat first|refine sgo ?_|refine cv0 hss ?_|refine sop ?_
    refine cndt ?_
    repeat first|refine sgo ?_|refine sop ?_
    exact xAC ⟨.inr rfl, oB rfl⟩
theorem traceMatchesReference_in (l : List (List PV)) (il : InTy (.sl [.int .u8, .int .u8, .int .u8, .int .u8, .int .u8, .int .u8]) (.sh false l)) (w : List PV) (nw : w.length = [CTy.int .u8, .int .u8, .int .u8, .int .u8].length) (iw : ∀ (j : Nat) (c : CTy) (p : PV), [CTy.int .u8, .int .u8, .int .u8, .int .u8][j]? = some c → w[j]? = some p → InTy c p) (s : Str) (hs : s.length ≤ maxLen) : VC Tryd.prog 3 [.sh false l, .agg w, .str s] [] (.bool true) [] := by
  obtain ⟨xs, rfl, h1, h2⟩ := xNS il
  obtain ⟨a, b, c, d, rfl, ha, hb, hc, hd⟩ := dec4 nw iw
  exact xKQ h2 h1 ha hb hc hd s
end Go.Proofs
