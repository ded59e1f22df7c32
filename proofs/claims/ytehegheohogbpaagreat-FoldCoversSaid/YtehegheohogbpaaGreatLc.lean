/- Lc -/
import Derived.Test.YtehegheohogbpaaGreatFa
open Go.V Go.Pu
open Go.V renaming xA4 → zA, nl → zB, xAQ → zC, rg → zD, xAK → zE, bq → zF, xBD → zL, xBE → zM, xBs → zN, xA2 → zO, xAo → zP, xAn → zQ, xCp → zT, xCo → zW, xBt → zX, xB6 → zY, xDW → zZ, xAl → za, xAm → zb, xFT → zc, xCF → zd, xBL → ze, xA7 → zg, xG4 → zi, xBa → zj, xBb → zk, xDY → zl, o_eqb → zo, skF → zw, skU → zx
set_option linter.unusedVariables false
set_option linter.unusedSimpArgs false
set_option maxRecDepth 20000
namespace Go.Proofs
def vc5 : VCode :=
 (.seq
 (.region 0 false [
 .e 3 (.box (.t 1)) 0,
 .e 4 (.copy (.c (.bool false))) 8])
 (.seq
 (.region 1 false [
 .e 14 (.call (.c (.fn 10 [])) []) 8192,
 .e 5 (.copy (.t 14)) 8200])
 (.seq
 (.region 2 false [
 .e 15 (.copy (.t 0)) 16384,
 .e 16 (.call (.c (.fn 11 [])) [(.t 15), (.c (.int .i64 14))]) 16392,
 .e 6 (.copy (.t 16)) 16400])
 (.seq
 (.region 3 false [
 .e 17 (.build [(.int .i64 0), (.str []), (.str []), (.str []), (.str []), (.str []), (.str []), (.int .i64 0)] [(0, 1, (.c (.int .i64 3)))]) 24576,
 .e 7 (.alloc [(.int .i64 0), (.str []), (.str []), (.str []), (.str []), (.str []), (.str []), (.int .i64 0)]) 24584,
 .h (.store 8 (.t 7) (.t 17)) 24592 []])
 (.seq
 (.region 4 false [
 .e 18 (.load true 6 (.t 3)) 32768,
 .e 19 (.call (.c (.fn 20 [])) [(.t 18)]) 32776,
 .e 8 (.alloc [(.int .i64 0), (.str []), (.str []), (.str []), (.str []), (.str []), (.str []), (.int .i64 0)]) 32784,
 .h (.store 8 (.t 8) (.t 19)) 32792 []])
 (.seq
 (.region 5 false [
 .e 20 (.bslice 8 [(.int .i64 0), (.str []), (.str []), (.str []), (.str []), (.str []), (.str []), (.int .i64 0)] 0 []) 40960,
 .e 21 (.copy (.t 6)) 40968,
 .e 22 (.append 8 112 [(.int .i64 0), (.str []), (.str []), (.str []), (.str []), (.str []), (.str []), (.int .i64 0)] (.t 20) (.t 21)) 40976,
 .e 9 (.copy (.t 22)) 40984])
 (.seq
 (.region 6 false [
 .e 23 (.copy (.t 9)) 49152,
 .e 24 (.load true 8 (.t 7)) 49160,
 .e 25 (.bslice 8 [(.int .i64 0), (.str []), (.str []), (.str []), (.str []), (.str []), (.str []), (.int .i64 0)] 1 [(0, (.t 24))]) 49168,
 .e 26 (.append 8 112 [(.int .i64 0), (.str []), (.str []), (.str []), (.str []), (.str []), (.str []), (.int .i64 0)] (.t 23) (.t 25)) 49176,
 .e 9 (.copy (.t 26)) 49184])
 (.seq
 (.seq
 (.region 7 true [
 .e 27 (.copy (.t 9)) 57344,
 .f 28 (.call (.c (.fn 16 [])) [(.t 27)]) 57352 [0],
 .e 29 (.load true 8 (.t 7)) 57360,
 .f 30 (.bslice 8 [(.int .i64 0), (.str []), (.str []), (.str []), (.str []), (.str []), (.str []), (.int .i64 0)] 1 [(0, (.t 29))]) 57368 [2],
 .f 31 (.call (.c (.fn 14 [])) [(.t 28), (.t 30)]) 57376 [1, 0, 3, 2],
 .f 32 (.not (.t 31)) 57384 [4, 1, 0, 3, 2]])
 (.cond (.t 32)
 (.seq
 (.region 8 false [
 .e 4 (.copy (.c (.bool false))) 65536])
 .ret)
 .skip))
 (.seq
 (.seq
 (.region 9 false [
 .e 33 (.faddr 0 (.t 8)) 73728,
 .e 34 (.load false 1 (.t 33)) 73736,
 .e 35 (.bin .eql (.t 34) (.c (.int .i64 1))) 73744,
 .e 36 (.copy (.t 35)) 73752,
 .g 37 (.faddr 0 (.t 8)) 3 36 false 73760 [],
 .g 38 (.load false 1 (.t 37)) 3 36 false 73768 [],
 .g 39 (.bin .eql (.t 38) (.c (.int .i64 2))) 3 36 false 73776 [],
 .e 40 (.pick (.t 36) (.c (.bool true)) (.t 39)) 73784,
 .e 41 (.copy (.t 40)) 73792,
 .g 42 (.faddr 0 (.t 8)) 8 41 false 73800 [],
 .g 43 (.load false 1 (.t 42)) 8 41 false 73808 [],
 .g 44 (.bin .eql (.t 43) (.c (.int .i64 3))) 8 41 false 73816 [],
 .e 45 (.pick (.t 41) (.c (.bool true)) (.t 44)) 73824])
 (.cond (.t 45)
 (.seq
 (.region 10 false [
 .e 46 (.bslice 8 [(.int .i64 0), (.str []), (.str []), (.str []), (.str []), (.str []), (.str []), (.int .i64 0)] 0 []) 81920,
 .e 47 (.copy (.t 6)) 81928,
 .e 48 (.append 8 112 [(.int .i64 0), (.str []), (.str []), (.str []), (.str []), (.str []), (.str []), (.int .i64 0)] (.t 46) (.t 47)) 81936,
 .e 10 (.copy (.t 48)) 81944])
 (.seq
 (.region 11 false [
 .e 49 (.copy (.t 10)) 90112,
 .e 50 (.load true 8 (.t 8)) 90120,
 .e 51 (.load true 8 (.t 8)) 90128,
 .e 52 (.bslice 8 [(.int .i64 0), (.str []), (.str []), (.str []), (.str []), (.str []), (.str []), (.int .i64 0)] 2 [(0, (.t 50)), (1, (.t 51))]) 90136,
 .e 53 (.append 8 112 [(.int .i64 0), (.str []), (.str []), (.str []), (.str []), (.str []), (.str []), (.int .i64 0)] (.t 49) (.t 52)) 90144,
 .e 10 (.copy (.t 53)) 90152])
 (.seq
 (.region 12 false [
 .e 54 (.bslice 8 [(.int .i64 0), (.str []), (.str []), (.str []), (.str []), (.str []), (.str []), (.int .i64 0)] 0 []) 98304,
 .e 55 (.copy (.t 6)) 98312,
 .e 56 (.append 8 112 [(.int .i64 0), (.str []), (.str []), (.str []), (.str []), (.str []), (.str []), (.int .i64 0)] (.t 54) (.t 55)) 98320,
 .e 11 (.copy (.t 56)) 98328])
 (.seq
 (.region 13 false [
 .e 57 (.copy (.t 11)) 106496,
 .e 58 (.load true 8 (.t 8)) 106504,
 .e 59 (.bslice 8 [(.int .i64 0), (.str []), (.str []), (.str []), (.str []), (.str []), (.str []), (.int .i64 0)] 1 [(0, (.t 58))]) 106512,
 .e 60 (.append 8 112 [(.int .i64 0), (.str []), (.str []), (.str []), (.str []), (.str []), (.str []), (.int .i64 0)] (.t 57) (.t 59)) 106520,
 .e 11 (.copy (.t 60)) 106528])
 (.seq
 (.region 14 false [
 .e 61 (.copy (.t 10)) 114688,
 .e 62 (.call (.c (.fn 16 [])) [(.t 61)]) 114696,
 .e 63 (.copy (.t 11)) 114704,
 .e 64 (.call (.c (.fn 16 [])) [(.t 63)]) 114712,
 .e 65 (.call (.c (.fn 14 [])) [(.t 62), (.t 64)]) 114720,
 .e 66 (.not (.t 65)) 114728])
 (.cond (.t 66)
 (.seq
 (.region 15 false [
 .e 4 (.copy (.c (.bool false))) 122880])
 .ret)
 .skip))))))
 .skip))
 (.seq
 (.seq
 (.region 16 false [
 .e 67 (.faddr 0 (.t 8)) 131072,
 .e 68 (.load false 1 (.t 67)) 131080,
 .e 69 (.bin .neq (.t 68) (.c (.int .i64 3))) 131088])
 (.cond (.t 69)
 (.seq
 (.region 17 false [
 .e 70 (.copy (.t 5)) 139264,
 .e 4 (.copy (.t 70)) 139272])
 .ret)
 .skip))
 (.seq
 (.seq
 (.region 18 false [
 .e 12 (.copy (.c (.int .i64 0))) 147456])
 (.block 0
 (.loop
 (.seq
 (.seq
 (.region 19 false [
 .e 71 (.copy (.t 12)) 155648,
 .e 72 (.copy (.t 6)) 155656,
 .e 73 (.len (.t 72)) 155664,
 .e 74 (.bin .lss (.t 71) (.t 73)) 155672])
 (.cond (.t 74)
 .skip
 (.exit 0)))
 (.seq
 (.block 1
 (.seq
 (.region 21 true [
 .e 77 (.copy (.t 6)) 172032,
 .e 78 (.copy (.t 12)) 172040,
 .f 79 (.iaddr 8 (.t 77) (.t 78)) 172048 [0, 1],
 .f 80 (.load true 8 (.t 79)) 172056 [2, 0, 1],
 .e 81 (.load true 8 (.t 8)) 172064,
 .f 82 (.bslice 8 [(.int .i64 0), (.str []), (.str []), (.str []), (.str []), (.str []), (.str []), (.int .i64 0)] 2 [(0, (.t 80)), (1, (.t 81))]) 172072 [3, 2, 0, 1, 4],
 .f 83 (.call (.c (.fn 16 [])) [(.t 82)]) 172080 [5, 3, 2, 0, 1, 4],
 .f 13 (.copy (.t 83)) 172088 [6, 5, 3, 2, 0, 1, 4]])
 (.seq
 (.region 22 true [
 .e 84 (.copy (.t 13)) 180224,
 .f 85 (.len (.t 84)) 180232 [0],
 .f 86 (.bin .eql (.t 85) (.c (.int .i64 1))) 180240 [1, 0],
 .e 87 (.copy (.t 6)) 180248,
 .e 88 (.copy (.t 12)) 180256,
 .f 89 (.iaddr 8 (.t 87) (.t 88)) 180264 [3, 4],
 .f 90 (.load true 8 (.t 89)) 180272 [5, 3, 4],
 .e 91 (.load true 8 (.t 8)) 180280,
 .f 92 (.call (.c (.fn 21 [])) [(.t 90), (.t 91)]) 180288 [6, 5, 3, 4, 7],
 .f 93 (.eqb true (.t 86) (.t 92)) 180296 [2, 1, 0, 8, 6, 5, 3, 4, 7]])
 (.cond (.t 93)
 (.seq
 (.region 23 false [
 .e 4 (.copy (.c (.bool false))) 188416])
 .ret)
 .skip))))
 (.region 20 false [
 .e 75 (.copy (.t 12)) 163840,
 .e 76 (.bin .add (.t 75) (.c (.int .i64 1))) 163848,
 .e 12 (.copy (.t 76)) 163856]))))))
 (.seq
 (.region 24 false [
 .e 94 (.copy (.t 5)) 196608,
 .e 4 (.copy (.t 94)) 196616])
 .ret))))))))))))
theorem vf5 : VF Tryz.prog 5 = some (95, vc5, [.tmp 4]) := by kernel_rfl
theorem xQC : MsgSz xA9 := ⟨by simp [xA9], by simp [xA9], by simp [xA9], by simp [xA9]⟩
set_option maxHeartbeats 8000000 in
theorem xII {xs : List RawM} (hx1 : xs.length ≤ 9223372036854775807) (hx2 : ∀ r ∈ xs, r.ok) {y : RawM} (hy : y.ok) : VC Tryz.prog 5 [.sh false (xs.map encW), .agg (encW y)] [] (.bool true) [] := by
  have hss := xFu
  have l1 := xOR hx1 hx2 14 (by omega)
  have n1 := xKk xs 14
  have s1 : ∀ m ∈ xCZ xs 14, MsgSz m := xH5
  have r1 : ∀ m ∈ xCZ xs 14, ∃ x : RawM, m = xAW x := by
    intro m hm
    obtain ⟨x, _, rfl⟩ := List.mem_map.1 hm
    exact ⟨x, rfl⟩
  generalize xCZ xs 14 = l at l1 n1 s1 r1
  have my := xMq hy
  have wy := xMp y
  have sy : MsgSz (xAW y) := MsgSz.of (xGJ y) (xKi y)
  have hcl : ∀ x : RawM, (xAW y).kind = 3 → ((xAT [xAW x, xAW y]).length == 1) = xB1 (xAW x) (xAW y) := fun x h => xJ1 x y h
  generalize xAW y = one at my wy sy hcl
  have hb1 : (l.map encM).length = l.length := List.length_map _
  have d1 := xBk (l := l ++ [xA9]) (by simp; omega) (fun m h => (List.mem_append.1 h).elim (s1 m) fun h => by rw [List.mem_singleton.1 h]; exact xQC)
  rw [xG3] at d1
  have q1 := xDp (a := [xA9]) (b := [xA9]) (by simp) (by simp)
  rw [decide_eq_true rfl] at q1
  have hk := wy.k
  refine xAG vf5 ?_ (Nat.le_of_ble_eq_true rfl) (by intro vs h; cases h)
  repeat first|refine zA ?_|refine zB ?_|refine zC ?_|refine zD ?_|refine zE ?_|refine zF ?_|refine cv0 hss ?_|refine cf l1 ?_|refine cf my ?_|refine o_v (vaps encM [] l) ?_|refine o_v (vap encM xA9) ?_|refine cf d1 ?_|refine cv0 q1 ?_|refine zL ?_|refine zM ?_|refine zN ?_|refine zO ?_|refine zP ?_|refine zQ ?_|refine zT ?_|refine zW ?_|refine zX ?_|refine zY ?_|refine zZ ?_|refine za ?_|refine zb ?_|refine zc ?_|refine zd ?_|refine ze ?_|refine zg ?_|refine zi ?_|refine zj ?_|refine zk ?_|refine zl ?_|refine zo ?_|refine zw ?_|refine zx ?_
  refine cndf (xAB ?_)
  by_cases hkk : one.kind = 1 ∨ one.kind = 2 ∨ one.kind = 3
  · have e2 := xIg (l := l) wy hkk
    have t1 := xBk (l := l ++ [one, one]) (by simp; omega) (fun m h => (List.mem_append.1 h).elim (s1 m) fun h => by simp at h; rw [h]; exact sy)
    have t2 := xBk (l := l ++ [one]) (by simp; omega) (fun m h => (List.mem_append.1 h).elim (s1 m) fun h => by rw [List.mem_singleton.1 h]; exact sy)
    rw [e2] at t1
    have k1 := (xDr (l ++ [one])).length_le
    rw [List.length_append] at k1
    simp only [List.length_cons, List.length_nil] at k1
    have q2 := xDp (a := xAT (l ++ [one])) (b := xAT (l ++ [one])) (by omega) (by omega)
    rw [decide_eq_true rfl] at q2
    generalize xAT (l ++ [one]) = R at t1 t2 q2
    rcases hkk with h1 | h1 | h1
    · have g1 : (one.kind == 1) = true := by rw [h1]; rfl
      have g2 : (one.kind == 2) = false := by rw [h1]; rfl
      have g3 : (one.kind == 3) = false := by rw [h1]; rfl
      have g4 : (!(one.kind == 3)) = true := by rw [h1]; rfl
      repeat first|refine zA ?_|refine zB ?_|refine zC ?_|refine zD ?_|refine zE ?_|refine zF ?_|refine zL ?_|refine zM ?_|refine zN ?_|refine zO ?_|refine zP ?_|refine zQ ?_|refine zT ?_|refine zW ?_|refine zX ?_|refine zY ?_|refine zZ ?_|refine za ?_|refine zb ?_|refine zc ?_|refine zd ?_|refine ze ?_|refine zg ?_|refine zi ?_|refine zj ?_|refine zk ?_|refine zl ?_|refine zo ?_|refine zw ?_|refine zx ?_
      refine cndt ?_
      repeat first|refine zA ?_|refine zB ?_|refine zC ?_|refine zD ?_|refine zE ?_|refine zF ?_|refine o_v (vaps encM [] l) ?_|refine o_v (vaps encM l [one, one]) ?_|refine o_v (vap encM one) ?_|refine cf t1 ?_|refine cf t2 ?_|refine cv0 q2 ?_|refine zL ?_|refine zM ?_|refine zN ?_|refine zO ?_|refine zP ?_|refine zQ ?_|refine zT ?_|refine zW ?_|refine zX ?_|refine zY ?_|refine zZ ?_|refine za ?_|refine zb ?_|refine zc ?_|refine zd ?_|refine ze ?_|refine zg ?_|refine zi ?_|refine zj ?_|refine zk ?_|refine zl ?_|refine zo ?_|refine zw ?_|refine zx ?_
      refine cndf (xAB ?_)
      repeat first|refine zA ?_|refine zB ?_|refine zC ?_|refine zD ?_|refine zE ?_|refine zF ?_|refine zL ?_|refine zM ?_|refine zN ?_|refine zO ?_|refine zP ?_|refine zQ ?_|refine zT ?_|refine zW ?_|refine zX ?_|refine zY ?_|refine zZ ?_|refine za ?_|refine zb ?_|refine zc ?_|refine zd ?_|refine ze ?_|refine zg ?_|refine zi ?_|refine zj ?_|refine zk ?_|refine zl ?_|refine zo ?_|refine zw ?_|refine zx ?_
      refine cndt ?_
      repeat first|refine zA ?_|refine zB ?_|refine zC ?_|refine zD ?_|refine zE ?_|refine zF ?_|refine zL ?_|refine zM ?_|refine zN ?_|refine zO ?_|refine zP ?_|refine zQ ?_|refine zT ?_|refine zW ?_|refine zX ?_|refine zY ?_|refine zZ ?_|refine za ?_|refine zb ?_|refine zc ?_|refine zd ?_|refine ze ?_|refine zg ?_|refine zi ?_|refine zj ?_|refine zk ?_|refine zl ?_|refine zo ?_|refine zw ?_|refine zx ?_
      exact xAC ⟨.inr rfl, oB rfl⟩
    · have g1 : (one.kind == 1) = false := by rw [h1]; rfl
      have g2 : (one.kind == 2) = true := by rw [h1]; rfl
      have g3 : (one.kind == 3) = false := by rw [h1]; rfl
      have g4 : (!(one.kind == 3)) = true := by rw [h1]; rfl
      repeat first|refine zA ?_|refine zB ?_|refine zC ?_|refine zD ?_|refine zE ?_|refine zF ?_|refine zL ?_|refine zM ?_|refine zN ?_|refine zO ?_|refine zP ?_|refine zQ ?_|refine zT ?_|refine zW ?_|refine zX ?_|refine zY ?_|refine zZ ?_|refine za ?_|refine zb ?_|refine zc ?_|refine zd ?_|refine ze ?_|refine zg ?_|refine zi ?_|refine zj ?_|refine zk ?_|refine zl ?_|refine zo ?_|refine zw ?_|refine zx ?_
      refine cndt ?_
      repeat first|refine zA ?_|refine zB ?_|refine zC ?_|refine zD ?_|refine zE ?_|refine zF ?_|refine o_v (vaps encM [] l) ?_|refine o_v (vaps encM l [one, one]) ?_|refine o_v (vap encM one) ?_|refine cf t1 ?_|refine cf t2 ?_|refine cv0 q2 ?_|refine zL ?_|refine zM ?_|refine zN ?_|refine zO ?_|refine zP ?_|refine zQ ?_|refine zT ?_|refine zW ?_|refine zX ?_|refine zY ?_|refine zZ ?_|refine za ?_|refine zb ?_|refine zc ?_|refine zd ?_|refine ze ?_|refine zg ?_|refine zi ?_|refine zj ?_|refine zk ?_|refine zl ?_|refine zo ?_|refine zw ?_|refine zx ?_
      refine cndf (xAB ?_)
      repeat first|refine zA ?_|refine zB ?_|refine zC ?_|refine zD ?_|refine zE ?_|refine zF ?_|refine zL ?_|refine zM ?_|refine zN ?_|refine zO ?_|refine zP ?_|refine zQ ?_|refine zT ?_|refine zW ?_|refine zX ?_|refine zY ?_|refine zZ ?_|refine za ?_|refine zb ?_|refine zc ?_|refine zd ?_|refine ze ?_|refine zg ?_|refine zi ?_|refine zj ?_|refine zk ?_|refine zl ?_|refine zo ?_|refine zw ?_|refine zx ?_
      refine cndt ?_
      repeat first|refine zA ?_|refine zB ?_|refine zC ?_|refine zD ?_|refine zE ?_|refine zF ?_|refine zL ?_|refine zM ?_|refine zN ?_|refine zO ?_|refine zP ?_|refine zQ ?_|refine zT ?_|refine zW ?_|refine zX ?_|refine zY ?_|refine zZ ?_|refine za ?_|refine zb ?_|refine zc ?_|refine zd ?_|refine ze ?_|refine zg ?_|refine zi ?_|refine zj ?_|refine zk ?_|refine zl ?_|refine zo ?_|refine zw ?_|refine zx ?_
      exact xAC ⟨.inr rfl, oB rfl⟩
    · have g1 : (one.kind == 1) = false := by rw [h1]; rfl
      have g2 : (one.kind == 2) = false := by rw [h1]; rfl
      have g3 : (one.kind == 3) = true := by rw [h1]; rfl
      have g4 : (!(one.kind == 3)) = false := by rw [h1]; rfl
      repeat first|refine zA ?_|refine zB ?_|refine zC ?_|refine zD ?_|refine zE ?_|refine zF ?_|refine zL ?_|refine zM ?_|refine zN ?_|refine zO ?_|refine zP ?_|refine zQ ?_|refine zT ?_|refine zW ?_|refine zX ?_|refine zY ?_|refine zZ ?_|refine za ?_|refine zb ?_|refine zc ?_|refine zd ?_|refine ze ?_|refine zg ?_|refine zi ?_|refine zj ?_|refine zk ?_|refine zl ?_|refine zo ?_|refine zw ?_|refine zx ?_
      refine cndt ?_
      repeat first|refine zA ?_|refine zB ?_|refine zC ?_|refine zD ?_|refine zE ?_|refine zF ?_|refine o_v (vaps encM [] l) ?_|refine o_v (vaps encM l [one, one]) ?_|refine o_v (vap encM one) ?_|refine cf t1 ?_|refine cf t2 ?_|refine cv0 q2 ?_|refine zL ?_|refine zM ?_|refine zN ?_|refine zO ?_|refine zP ?_|refine zQ ?_|refine zT ?_|refine zW ?_|refine zX ?_|refine zY ?_|refine zZ ?_|refine za ?_|refine zb ?_|refine zc ?_|refine zd ?_|refine ze ?_|refine zg ?_|refine zi ?_|refine zj ?_|refine zk ?_|refine zl ?_|refine zo ?_|refine zw ?_|refine zx ?_
      refine cndf (xAB ?_)
      repeat first|refine zA ?_|refine zB ?_|refine zC ?_|refine zD ?_|refine zE ?_|refine zF ?_|refine zL ?_|refine zM ?_|refine zN ?_|refine zO ?_|refine zP ?_|refine zQ ?_|refine zT ?_|refine zW ?_|refine zX ?_|refine zY ?_|refine zZ ?_|refine za ?_|refine zb ?_|refine zc ?_|refine zd ?_|refine ze ?_|refine zg ?_|refine zi ?_|refine zj ?_|refine zk ?_|refine zl ?_|refine zo ?_|refine zw ?_|refine zx ?_
      refine cndf (xAB ?_)
      repeat first|refine zA ?_|refine zB ?_|refine zC ?_|refine zD ?_|refine zE ?_|refine zF ?_|refine zL ?_|refine zM ?_|refine zN ?_|refine zO ?_|refine zP ?_|refine zQ ?_|refine zT ?_|refine zW ?_|refine zX ?_|refine zY ?_|refine zZ ?_|refine za ?_|refine zb ?_|refine zc ?_|refine zd ?_|refine ze ?_|refine zg ?_|refine zi ?_|refine zj ?_|refine zk ?_|refine zl ?_|refine zo ?_|refine zw ?_|refine zx ?_
      refine xAJ (fun (i : Nat) => [(5, .bool true), (6, .sh false (l.map encM)), (8, .ptr ⟨1, 32784⟩ 1 0 0), (12, .int .i64 i)]) (fun _ => [(⟨1, 32784⟩, ⟨true, false, 8, [encM one]⟩)]) (fun i => l.length - i)
        (fun i => i ≤ l.length) 0 xBd (Nat.zero_le _) ?_
      intro i hi
      repeat first|refine zA ?_|refine zB ?_|refine zC ?_|refine zD ?_|refine zE ?_|refine zF ?_|refine zL ?_|refine zM ?_|refine zN ?_|refine zO ?_|refine zP ?_|refine zQ ?_|refine zT ?_|refine zW ?_|refine zX ?_|refine zY ?_|refine zZ ?_|refine za ?_|refine zb ?_|refine zc ?_|refine zd ?_|refine ze ?_|refine zg ?_|refine zi ?_|refine zj ?_|refine zk ?_|refine zl ?_|refine zo ?_|refine zw ?_|refine zx ?_
      refine cnd (fun h => xAB ?_) (fun h => xAE ?_)
      · have hlt : i < l.length := by have h' := of_decide_eq_true h; omega
        have hlt2 : (i : Int) < ((l.map encM).length : Nat) := by omega
        obtain ⟨u, hu⟩ : ∃ u, l[i]? = some u := ⟨_, List.getElem?_eq_getElem hlt⟩
        have hue := gm (enc := encM) (n := (i : Int)) hu (by omega)
        obtain ⟨x, rfl⟩ := r1 u (List.mem_of_getElem? hu)
        have su := s1 _ (List.mem_of_getElem? hu)
        have a1 := xBk (l := [xAW x, one]) (by simp) (fun m h => by simp at h; rcases h with rfl | rfl; exact su; exact sy)
        have a2 := xLd (m := xAW x) (d := one) su
        have a3 := hcl x h1
        have e3 : ((((xAT [xAW x, one]).map encM).length : Int) == 1) = xB1 (xAW x) one := by
          rw [← a3, List.length_map, Bool.eq_iff_iff]
          simp
          omega
        generalize xAT [xAW x, one] = R2 at a1 e3
        generalize xB1 (xAW x) one = cv at a2 e3
        have e4 : (!((((R2.map encM).length : Int) == 1) == cv)) = false := by rw [e3]; simp
        repeat first|refine zA ?_|refine zB ?_|refine zC ?_|refine zD ?_|refine zE ?_|refine zF ?_|refine cf a1 ?_|refine cv0 a2 ?_|refine zL ?_|refine zM ?_|refine zN ?_|refine zO ?_|refine zP ?_|refine zQ ?_|refine zT ?_|refine zW ?_|refine zX ?_|refine zY ?_|refine zZ ?_|refine za ?_|refine zb ?_|refine zc ?_|refine zd ?_|refine ze ?_|refine zg ?_|refine zi ?_|refine zj ?_|refine zk ?_|refine zl ?_|refine zo ?_|refine zw ?_|refine zx ?_
        refine cndf (ht := by first | assumption | (rw [e3]; simp)) (xAB ?_)
        repeat first|refine zA ?_|refine zB ?_|refine zC ?_|refine zD ?_|refine zE ?_|refine zF ?_|refine zL ?_|refine zM ?_|refine zN ?_|refine zO ?_|refine zP ?_|refine zQ ?_|refine zT ?_|refine zW ?_|refine zX ?_|refine zY ?_|refine zZ ?_|refine za ?_|refine zb ?_|refine zc ?_|refine zd ?_|refine ze ?_|refine zg ?_|refine zi ?_|refine zj ?_|refine zk ?_|refine zl ?_|refine zo ?_|refine zw ?_|refine zx ?_
        exact agn (Q := fun _ _ => True) (i + 1) (by omega) xBd
      · repeat first|refine zA ?_|refine zB ?_|refine zC ?_|refine zD ?_|refine zE ?_|refine zF ?_|refine zL ?_|refine zM ?_|refine zN ?_|refine zO ?_|refine zP ?_|refine zQ ?_|refine zT ?_|refine zW ?_|refine zX ?_|refine zY ?_|refine zZ ?_|refine za ?_|refine zb ?_|refine zc ?_|refine zd ?_|refine ze ?_|refine zg ?_|refine zi ?_|refine zj ?_|refine zk ?_|refine zl ?_|refine zo ?_|refine zw ?_|refine zx ?_
        exact xAC ⟨.inr rfl, oB rfl⟩
  · have g1 : (one.kind == 1) = false := beq_eq_false_iff_ne.2 fun h => hkk (.inl h)
    have g2 : (one.kind == 2) = false := beq_eq_false_iff_ne.2 fun h => hkk (.inr (.inl h))
    have g3 : (one.kind == 3) = false := beq_eq_false_iff_ne.2 fun h => hkk (.inr (.inr h))
    have g4 : (!(one.kind == 3)) = true := by rw [g3]; rfl
    repeat first|refine zA ?_|refine zB ?_|refine zC ?_|refine zD ?_|refine zE ?_|refine zF ?_|refine zL ?_|refine zM ?_|refine zN ?_|refine zO ?_|refine zP ?_|refine zQ ?_|refine zT ?_|refine zW ?_|refine zX ?_|refine zY ?_|refine zZ ?_|refine za ?_|refine zb ?_|refine zc ?_|refine zd ?_|refine ze ?_|refine zg ?_|refine zi ?_|refine zj ?_|refine zk ?_|refine zl ?_|refine zo ?_|refine zw ?_|refine zx ?_
    refine cndf (xAB ?_)
    repeat first|refine zA ?_|refine zB ?_|refine zC ?_|refine zD ?_|refine zE ?_|refine zF ?_|refine zL ?_|refine zM ?_|refine zN ?_|refine zO ?_|refine zP ?_|refine zQ ?_|refine zT ?_|refine zW ?_|refine zX ?_|refine zY ?_|refine zZ ?_|refine za ?_|refine zb ?_|refine zc ?_|refine zd ?_|refine ze ?_|refine zg ?_|refine zi ?_|refine zj ?_|refine zk ?_|refine zl ?_|refine zo ?_|refine zw ?_|refine zx ?_
    refine cndt ?_
    repeat first|refine zA ?_|refine zB ?_|refine zC ?_|refine zD ?_|refine zE ?_|refine zF ?_|refine zL ?_|refine zM ?_|refine zN ?_|refine zO ?_|refine zP ?_|refine zQ ?_|refine zT ?_|refine zW ?_|refine zX ?_|refine zY ?_|refine zZ ?_|refine za ?_|refine zb ?_|refine zc ?_|refine zd ?_|refine ze ?_|refine zg ?_|refine zi ?_|refine zj ?_|refine zk ?_|refine zl ?_|refine zo ?_|refine zw ?_|refine zx ?_
    exact xAC ⟨.inr rfl, oB rfl⟩
theorem foldCovers_in (l : List (List PV)) (il : InTy (.sl [.int .u8, .int .u8, .int .u8, .int .u8, .int .u8, .int .u8]) (.sh false l)) (q : List PV) (n : q.length = [CTy.int .u8, .int .u8, .int .u8, .int .u8, .int .u8, .int .u8].length) (i : ∀ (j : Nat) (c : CTy) (p : PV), [CTy.int .u8, .int .u8, .int .u8, .int .u8, .int .u8, .int .u8][j]? = some c → q[j]? = some p → InTy c p) : VC Tryz.prog 5 [.sh false l, .agg q] [] (.bool true) [] := by
  obtain ⟨a, rfl, h1, h2⟩ := xOd il
  obtain ⟨y, rfl, hy⟩ := decW1 n i
  exact xII h2 h1 hy
end Go.Proofs
