/- La -/
import Derived.Test.YtehegheohogbpaaGreatFa
open Go.V Go.Pu
open Go.V renaming xA4 → zA, nl → zB, xAQ → zC, rg → zD, xAK → zE, bq → zF, xBD → zL, xBE → zM, xBs → zN, xBt → zX, xB6 → zY, xDW → zZ, xCF → zd, xA7 → zg, xBa → zj, xBb → zk, xDX → zm, skF → zw, skU → zx
set_option linter.unusedVariables false
set_option linter.unusedSimpArgs false
set_option maxRecDepth 20000
namespace Go.Proofs
def vc3 : VCode :=
 (.seq
 (.region 0 false [
 .e 6 (.copy (.c (.bool false))) 0])
 (.seq
 (.region 1 false [
 .e 13 (.call (.c (.fn 10 [])) []) 8192,
 .e 7 (.copy (.t 13)) 8200])
 (.seq
 (.seq
 (.region 2 false [
 .e 14 (.copy (.t 2)) 16384,
 .e 15 (.len (.t 14)) 16392,
 .e 16 (.bin .gtr (.t 15) (.c (.int .i64 4))) 16400])
 (.cond (.t 16)
 (.seq
 (.region 3 false [
 .e 17 (.copy (.t 7)) 24576,
 .e 6 (.copy (.t 17)) 24584])
 .ret)
 .skip))
 (.seq
 (.region 4 false [
 .e 18 (.copy (.t 0)) 32768,
 .e 19 (.call (.c (.fn 11 [])) [(.t 18), (.c (.int .i64 12))]) 32776,
 .e 8 (.copy (.t 19)) 32784])
 (.seq
 (.region 5 false [
 .e 20 (.copy (.t 1)) 40960,
 .e 21 (.call (.c (.fn 11 [])) [(.t 20), (.c (.int .i64 12))]) 40968,
 .e 9 (.copy (.t 21)) 40976])
 (.seq
 (.region 6 false [
 .e 23 (.copy (.t 8)) 49152,
 .e 24 (.copy (.t 2)) 49160,
 .e 25 (.call (.c (.fn 12 [])) [(.t 23), (.t 24)]) 49168,
 .e 22 (.copy (.t 25)) 49176,
 .e 26 (.extract (.t 22) 0) 49184,
 .e 27 (.extract (.t 22) 1) 49192,
 .e 10 (.copy (.t 26)) 49200,
 .e 11 (.copy (.t 27)) 49208])
 (.seq
 (.region 7 false [
 .e 28 (.copy (.t 8)) 57344,
 .e 29 (.copy (.t 2)) 57352,
 .e 30 (.call (.c (.fn 13 [])) [(.t 28), (.t 29)]) 57360,
 .e 12 (.alloc [.nils, .nils]) 57368,
 .h (.store 2 (.t 12) (.t 30)) 57376 []])
 (.seq
 (.region 8 false [
 .e 31 (.copy (.t 7)) 65536,
 .e 32 (.copy (.t 31)) 65544,
 .g 33 (.copy (.t 10)) 1 32 true 65552 [],
 .g 34 (.faddr 0 (.t 12)) 1 32 true 65560 [],
 .g 35 (.load false 1 (.t 34)) 1 32 true 65568 [],
 .g 36 (.call (.c (.fn 14 [])) [(.t 33), (.t 35)]) 1 32 true 65576 [],
 .e 37 (.pick (.t 32) (.t 36) (.c (.bool false))) 65584,
 .e 38 (.copy (.t 37)) 65592,
 .g 39 (.copy (.t 11)) 7 38 true 65600 [],
 .g 40 (.faddr 1 (.t 12)) 7 38 true 65608 [],
 .g 41 (.load false 1 (.t 40)) 7 38 true 65616 [],
 .g 42 (.call (.c (.fn 15 [])) [(.t 39), (.t 41)]) 7 38 true 65624 [],
 .e 43 (.pick (.t 38) (.t 42) (.c (.bool false))) 65632,
 .e 44 (.copy (.t 43)) 65640,
 .g 45 (.copy (.t 8)) 13 44 true 65648 [],
 .g 46 (.call (.c (.fn 16 [])) [(.t 45)]) 13 44 true 65656 [],
 .g 47 (.copy (.t 8)) 13 44 true 65664 [],
 .g 48 (.call (.c (.fn 17 [])) [(.t 47)]) 13 44 true 65672 [],
 .g 49 (.call (.c (.fn 14 [])) [(.t 46), (.t 48)]) 13 44 true 65680 [],
 .e 50 (.pick (.t 44) (.t 49) (.c (.bool false))) 65688,
 .e 51 (.copy (.t 50)) 65696,
 .g 52 (.copy (.t 8)) 20 51 true 65704 [],
 .g 53 (.copy (.t 9)) 20 51 true 65712 [],
 .g 54 (.call (.c (.fn 18 [])) [(.t 52), (.t 53)]) 20 51 true 65720 [],
 .g 55 (.copy (.t 8)) 20 51 true 65728 [],
 .g 56 (.copy (.t 9)) 20 51 true 65736 [],
 .g 57 (.call (.c (.fn 19 [])) [(.t 55), (.t 56)]) 20 51 true 65744 [],
 .g 58 (.call (.c (.fn 14 [])) [(.t 54), (.t 57)]) 20 51 true 65752 [],
 .e 59 (.pick (.t 51) (.t 58) (.c (.bool false))) 65760,
 .e 6 (.copy (.t 59)) 65768])
 .ret))))))))
theorem vf3 : VF Tryz.prog 3 = some (60, vc3, [.tmp 6]) := by kernel_rfl
set_option maxHeartbeats 4000000 in
theorem xIr {xs ys : List RawM} (hx1 : xs.length ≤ 9223372036854775807) (hx2 : ∀ r ∈ xs, r.ok) (hy1 : ys.length ≤ 9223372036854775807) (hy2 : ∀ r ∈ ys, r.ok) (dead : List SpanL) :
    VC Tryz.prog 3 [.sh false (xs.map encW), .sh false (ys.map encW), .sh false (dead.map encS)] [] (.bool true) [] := by
  have hss := xFu
  have hml : (dead.map encS).length = dead.length := List.length_map _
  refine xAG vf3 ?_ (Nat.le_of_ble_eq_true rfl) (by intro vs h; cases h)
  by_cases hd : 4 < dead.length
  · have g1 : decide (((dead.map encS).length : Int) > 4) = true := decide_eq_true (by omega)
    repeat first|refine zA ?_|refine zB ?_|refine zC ?_|refine zD ?_|refine zE ?_|refine zF ?_|refine cv0 hss ?_|refine zL ?_|refine zM ?_|refine zN ?_|refine zX ?_|refine zY ?_|refine zZ ?_|refine zd ?_|refine zg ?_|refine zj ?_|refine zk ?_|refine zm ?_|refine zw ?_|refine zx ?_
    refine cndt ?_
    repeat first|refine zA ?_|refine zB ?_|refine zC ?_|refine zD ?_|refine zE ?_|refine zF ?_|refine zL ?_|refine zM ?_|refine zN ?_|refine zX ?_|refine zY ?_|refine zZ ?_|refine zd ?_|refine zg ?_|refine zj ?_|refine zk ?_|refine zm ?_|refine zw ?_|refine zx ?_
    exact xAC ⟨.inr rfl, oB rfl⟩
  have g1 : decide (((dead.map encS).length : Int) > 4) = false := decide_eq_false (by omega)
  have l1 := xOR hx1 hx2 12 (by omega)
  have l2 := xOR hy1 hy2 12 (by omega)
  have n1 := xKk xs 12
  have n2 := xKk ys 12
  have s1 : ∀ m ∈ xCZ xs 12, MsgSz m := xH5
  have s2 : ∀ m ∈ xCZ ys 12, MsgSz m := xH5
  generalize xCZ xs 12 = a at l1 n1 s1
  generalize xCZ ys 12 = b at l2 n2 s2
  have v1 := xJs (l := a) (q := .sh false (dead.map encS)) (dead := dead) Sl.sh (by omega) s1 (by omega)
  have v2 := xKI (l := a) (q := .sh false (dead.map encS)) (dead := dead) Sl.sh (by omega) s1 (by omega)
  have v3 := xBk (l := a) (by omega) s1
  have v4 := xHG (l := a) (by omega) s1
  have v5 := xKb (a := a) (b := b) (by omega) s1 s2
  have v6 := xMQ (a := a) (b := b) (by omega) s1 s2
  have k1 : (xBm a dead).1.length ≤ 12 := by
    unfold xBm
    rw [List.length_reverse]
    have := (xEd a.reverse (xAM dead)).length_le
    rw [List.length_reverse] at this
    omega
  have k2 : (xBm a dead).2.length ≤ 60 := by
    have key : ∀ (r : List MsgL) (d : List SpanL), (xFV r d).length ≤ d.length + 3 * r.length := by
      intro r
      induction r with
      | nil => intro d; simp [xFV]
      | cons m r ih =>
        intro d
        rw [xFV]
        have := xJl m d
        split
        · have := ih d; simp only [List.length_cons]; omega
        · have := ih (nxtL m d); simp only [List.length_cons]; omega
    have h1 := key a.reverse (xAM dead)
    have h2 := xB5 dead
    rw [List.length_reverse] at h1
    unfold xBm
    simp only
    omega
  have k3 := (xDr a).length_le
  have k4 := (xDr (a ++ b)).length_le
  rw [List.length_append] at k4
  have q1 := xDp (a := (xBm a dead).1) (b := (xBm a dead).1) (by omega) (by omega)
  have q2 := xNw (a := (xBm a dead).2) (b := (xBm a dead).2) (by omega) (by omega)
  have q3 := xDp (a := xAT a) (b := xAT a) (by omega) (by omega)
  have q4 := xDp (a := xAT (a ++ b)) (b := xAT (a ++ b)) (by omega) (by omega)
  rw [decide_eq_true rfl] at q1 q2 q3 q4
  generalize (xBm a dead).1 = L1 at v1 v2 q1
  generalize (xBm a dead).2 = L2 at v1 v2 q2
  generalize xAT (a ++ b) = R2 at v5 v6 q4
  generalize xAT a = R1 at v3 v4 q3
  repeat first|refine zA ?_|refine zB ?_|refine zC ?_|refine zD ?_|refine zE ?_|refine zF ?_|refine cv0 hss ?_|refine zL ?_|refine zM ?_|refine zN ?_|refine zX ?_|refine zY ?_|refine zZ ?_|refine zd ?_|refine zg ?_|refine zj ?_|refine zk ?_|refine zm ?_|refine zw ?_|refine zx ?_
  refine cndf (xAB ?_)
  repeat first|refine zA ?_|refine zB ?_|refine zC ?_|refine zD ?_|refine zE ?_|refine zF ?_|refine cf l1 ?_|refine cf l2 ?_|refine cf v1 ?_|refine cf v2 ?_|refine cv0 q1 ?_|refine cv0 q2 ?_|refine cf v3 ?_|refine cf v4 ?_|refine cv0 q3 ?_|refine cf v5 ?_|refine cf v6 ?_|refine cv0 q4 ?_|refine zL ?_|refine zM ?_|refine zN ?_|refine zX ?_|refine zY ?_|refine zZ ?_|refine zd ?_|refine zg ?_|refine zj ?_|refine zk ?_|refine zm ?_|refine zw ?_|refine zx ?_
  exact xAC ⟨.inr rfl, oB rfl⟩
theorem foldMatches_in (l : List (List PV)) (il : InTy (.sl [.int .u8, .int .u8, .int .u8, .int .u8, .int .u8, .int .u8]) (.sh false l)) (l2 : List (List PV)) (il2 : InTy (.sl [.int .u8, .int .u8, .int .u8, .int .u8, .int .u8, .int .u8]) (.sh false l2)) (l3 : List (List PV)) (il3 : InTy (.sl [.str, .str]) (.sh false l3)) :
    VC Tryz.prog 3 [.sh false l, .sh false l2, .sh false l3] [] (.bool true) [] := by
  obtain ⟨a, rfl, h1, h2⟩ := xOd il
  obtain ⟨b, rfl, h3, h4⟩ := xOd il2
  obtain ⟨d, rfl, _⟩ := decSp il3
  exact xIr h2 h1 h4 h3 d
end Go.Proofs
