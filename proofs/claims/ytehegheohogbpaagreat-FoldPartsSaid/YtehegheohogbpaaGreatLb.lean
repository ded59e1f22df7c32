/- Lb -/
import Derived.Test.YtehegheohogbpaaGreatFa
open Go.V Go.Pu
open Go.V renaming xA4 → zA, nl → zB, xAQ → zC, rg → zD, xAK → zE, bq → zF, xA2 → zO, xAo → zP, xAn → zQ, xCp → zT, xEX → zU, xCo → zW, xBt → zX, xB6 → zY, xDW → zZ, xAl → za, xAm → zb, xBa → zj, xBb → zk, o_eqc → zp, skF → zw, skU → zx
set_option linter.unusedVariables false
set_option linter.unusedSimpArgs false
set_option maxRecDepth 20000
namespace Go.Proofs
def vc4 : VCode :=
 (.seq
 (.region 0 false [
 .e 2 (.copy (.c (.bool false))) 0])
 (.seq
 (.region 1 false [
 .e 8 (.call (.c (.fn 10 [])) []) 8192,
 .e 3 (.copy (.t 8)) 8200])
 (.seq
 (.region 2 false [
 .e 9 (.copy (.t 0)) 16384,
 .e 10 (.call (.c (.fn 11 [])) [(.t 9), (.c (.int .i64 14))]) 16392,
 .e 4 (.copy (.t 10)) 16400])
 (.seq
 (.region 3 false [
 .e 11 (.copy (.t 4)) 24576,
 .e 12 (.call (.c (.fn 16 [])) [(.t 11)]) 24584,
 .e 5 (.copy (.t 12)) 24592])
 (.seq
 (.region 4 false [
 .e 6 (.copy (.c (.int .i64 0))) 32768])
 (.seq
 (.seq
 (.region 5 false [
 .e 7 (.copy (.c (.int .i64 0))) 40960])
 (.block 0
 (.loop
 (.seq
 (.seq
 (.region 6 false [
 .e 13 (.copy (.t 7)) 49152,
 .e 14 (.copy (.t 4)) 49160,
 .e 15 (.len (.t 14)) 49168,
 .e 16 (.bin .lss (.t 13) (.t 15)) 49176])
 (.cond (.t 16)
 .skip
 (.exit 0)))
 (.seq
 (.block 1
 (.seq
 (.region 8 true [
 .e 19 (.copy (.t 6)) 65536,
 .e 20 (.copy (.t 5)) 65544,
 .f 21 (.len (.t 20)) 65552 [1],
 .f 22 (.bin .lss (.t 19) (.t 21)) 65560 [0, 2, 1],
 .f 23 (.copy (.t 22)) 65568 [3, 0, 2, 1],
 .g 24 (.copy (.t 4)) 4 23 true 65576 [4, 3, 0, 2, 1],
 .g 25 (.copy (.t 7)) 4 23 true 65584 [4, 3, 0, 2, 1],
 .g 26 (.iaddr 8 (.t 24) (.t 25)) 4 23 true 65592 [5, 4, 3, 0, 2, 1, 6],
 .g 27 (.load true 8 (.t 26)) 4 23 true 65600 [7, 5, 4, 3, 0, 2, 1, 6],
 .g 28 (.copy (.t 5)) 4 23 true 65608 [4, 3, 0, 2, 1],
 .g 29 (.copy (.t 6)) 4 23 true 65616 [4, 3, 0, 2, 1],
 .g 30 (.iaddr 8 (.t 28) (.t 29)) 4 23 true 65624 [9, 4, 3, 0, 2, 1, 10],
 .g 31 (.load true 8 (.t 30)) 4 23 true 65632 [11, 9, 4, 3, 0, 2, 1, 10],
 .g 32 (.eqc false [1, 2, 2, 2, 2, 2, 2, 1] (.t 27) (.t 31)) 4 23 true 65640 [8, 7, 5, 4, 3, 0, 2, 1, 6, 12, 11, 9, 10],
 .f 33 (.pick (.t 23) (.t 32) (.c (.bool false))) 65648 [4, 3, 0, 2, 1, 13, 8, 7, 5, 6, 12, 11, 9, 10]])
 (.cond (.t 33)
 (.region 9 false [
 .e 34 (.copy (.t 6)) 73728,
 .e 35 (.bin .add (.t 34) (.c (.int .i64 1))) 73736,
 .e 6 (.copy (.t 35)) 73744])
 .skip)))
 (.region 7 false [
 .e 17 (.copy (.t 7)) 57344,
 .e 18 (.bin .add (.t 17) (.c (.int .i64 1))) 57352,
 .e 7 (.copy (.t 18)) 57360]))))))
 (.seq
 (.seq
 (.region 10 true [
 .e 36 (.copy (.t 6)) 81920,
 .e 37 (.copy (.t 5)) 81928,
 .f 38 (.len (.t 37)) 81936 [1],
 .f 39 (.bin .neq (.t 36) (.t 38)) 81944 [0, 2, 1],
 .f 40 (.copy (.t 39)) 81952 [3, 0, 2, 1],
 .g 41 (.copy (.t 4)) 4 40 false 81960 [4, 3, 0, 2, 1],
 .g 42 (.len (.t 41)) 4 40 false 81968 [5, 4, 3, 0, 2, 1],
 .g 43 (.bin .gtr (.t 42) (.c (.int .i64 0))) 4 40 false 81976 [6, 5, 4, 3, 0, 2, 1],
 .g 44 (.copy (.t 43)) 4 40 false 81984 [7, 6, 5, 4, 3, 0, 2, 1],
 .g 45 (.copy (.t 5)) 8 44 true 81992 [8, 7, 6, 5, 4, 3, 0, 2, 1],
 .g 46 (.len (.t 45)) 8 44 true 82000 [9, 8, 7, 6, 5, 4, 3, 0, 2, 1],
 .g 47 (.bin .eql (.t 46) (.c (.int .i64 0))) 8 44 true 82008 [10, 9, 8, 7, 6, 5, 4, 3, 0, 2, 1],
 .g 48 (.copy (.t 47)) 8 44 true 82016 [11, 10, 9, 8, 7, 6, 5, 4, 3, 0, 2, 1],
 .g 49 (.copy (.t 5)) 12 48 false 82024 [12, 11, 10, 9, 8, 7, 6, 5, 4, 3, 0, 2, 1],
 .g 50 (.copy (.t 5)) 12 48 false 82032 [12, 11, 10, 9, 8, 7, 6, 5, 4, 3, 0, 2, 1],
 .g 51 (.len (.t 50)) 12 48 false 82040 [14, 12, 11, 10, 9, 8, 7, 6, 5, 4, 3, 0, 2, 1],
 .g 52 (.bin .sub (.t 51) (.c (.int .i64 1))) 12 48 false 82048 [15, 14, 12, 11, 10, 9, 8, 7, 6, 5, 4, 3, 0, 2, 1],
 .g 53 (.iaddr 8 (.t 49) (.t 52)) 12 48 false 82056 [13, 12, 11, 10, 9, 8, 7, 6, 5, 4, 3, 0, 2, 1, 16, 15, 14],
 .g 54 (.load true 8 (.t 53)) 12 48 false 82064 [17, 13, 12, 11, 10, 9, 8, 7, 6, 5, 4, 3, 0, 2, 1, 16, 15, 14],
 .g 55 (.copy (.t 4)) 12 48 false 82072 [12, 11, 10, 9, 8, 7, 6, 5, 4, 3, 0, 2, 1],
 .g 56 (.copy (.t 4)) 12 48 false 82080 [12, 11, 10, 9, 8, 7, 6, 5, 4, 3, 0, 2, 1],
 .g 57 (.len (.t 56)) 12 48 false 82088 [20, 12, 11, 10, 9, 8, 7, 6, 5, 4, 3, 0, 2, 1],
 .g 58 (.bin .sub (.t 57) (.c (.int .i64 1))) 12 48 false 82096 [21, 20, 12, 11, 10, 9, 8, 7, 6, 5, 4, 3, 0, 2, 1],
 .g 59 (.iaddr 8 (.t 55) (.t 58)) 12 48 false 82104 [19, 12, 11, 10, 9, 8, 7, 6, 5, 4, 3, 0, 2, 1, 22, 21, 20],
 .g 60 (.load true 8 (.t 59)) 12 48 false 82112 [23, 19, 12, 11, 10, 9, 8, 7, 6, 5, 4, 3, 0, 2, 1, 22, 21, 20],
 .g 61 (.eqc true [1, 2, 2, 2, 2, 2, 2, 1] (.t 54) (.t 60)) 12 48 false 82120 [18, 17, 13, 12, 11, 10, 9, 8, 7, 6, 5, 4, 3, 0, 2, 1, 16, 15, 14, 24, 23, 19, 22, 21, 20],
 .g 62 (.pick (.t 48) (.c (.bool true)) (.t 61)) 8 44 true 82128 [12, 11, 10, 9, 8, 7, 6, 5, 4, 3, 0, 2, 1, 25, 18, 17, 13, 16, 15, 14, 24, 23, 19, 22, 21, 20],
 .g 63 (.pick (.t 44) (.t 62) (.c (.bool false))) 4 40 false 82136 [8, 7, 6, 5, 4, 3, 0, 2, 1, 26, 12, 11, 10, 9, 25, 18, 17, 13, 16, 15, 14, 24, 23, 19, 22, 21, 20],
 .f 64 (.pick (.t 40) (.c (.bool true)) (.t 63)) 82144 [4, 3, 0, 2, 1, 27, 8, 7, 6, 5, 26, 12, 11, 10, 9, 25, 18, 17, 13, 16, 15, 14, 24, 23, 19, 22, 21, 20]])
 (.cond (.t 64)
 (.seq
 (.region 11 false [
 .e 2 (.copy (.c (.bool false))) 90112])
 .ret)
 .skip))
 (.seq
 (.region 12 false [
 .e 65 (.copy (.t 3)) 98304,
 .e 66 (.copy (.t 65)) 98312,
 .g 67 (.copy (.t 5)) 1 66 true 98320 [],
 .g 68 (.call (.c (.fn 16 [])) [(.t 67)]) 1 66 true 98328 [],
 .g 69 (.copy (.t 5)) 1 66 true 98336 [],
 .g 70 (.call (.c (.fn 14 [])) [(.t 68), (.t 69)]) 1 66 true 98344 [],
 .e 71 (.pick (.t 66) (.t 70) (.c (.bool false))) 98352,
 .e 2 (.copy (.t 71)) 98360])
 .ret))))))))
theorem vf4 : VF Tryz.prog 4 = some (72, vc4, [.tmp 2]) := by kernel_rfl
set_option maxHeartbeats 4000000 in
theorem xIj {xs : List RawM} (hx1 : xs.length ≤ 9223372036854775807) (hx2 : ∀ r ∈ xs, r.ok) : VC Tryz.prog 4 [.sh false (xs.map encW)] [] (.bool true) [] := by
  have hss := xFu
  have l1 := xOR hx1 hx2 14 (by omega)
  have n1 := xKk xs 14
  have s1 : ∀ m ∈ xCZ xs 14, MsgSz m := xH5
  have w1 : ∀ m ∈ xCZ xs 14, MsgW m := list_w
  generalize xCZ xs 14 = l at l1 n1 s1 w1
  have v1 := xBk (l := l) (by omega) s1
  have hsub := xDr l
  have k1 := hsub.length_le
  have v2 := xBk (l := xAT l) (by omega) (sz_sub hsub s1)
  rw [xHv] at v2
  have q1 := xDp (a := xAT l) (b := xAT l) (by omega) (by omega)
  rw [decide_eq_true rfl] at q1
  have hlast := xJe (l := l) w1
  have hnil : l = [] → xAT l = [] := by rintro rfl; rfl
  generalize xAT l = r at v1 v2 hsub k1 q1 hlast hnil
  have hb1 : (l.map encM).length = l.length := List.length_map _
  have hb2 : (r.map encM).length = r.length := List.length_map _
  refine xAG vf4 ?_ (Nat.le_of_ble_eq_true rfl) (by intro vs h; cases h)
  repeat first|refine zA ?_|refine zB ?_|refine zC ?_|refine zD ?_|refine zE ?_|refine zF ?_|refine cv0 hss ?_|refine cf l1 ?_|refine cf v1 ?_|refine zO ?_|refine zP ?_|refine zQ ?_|refine zT ?_|refine zU ?_|refine zW ?_|refine zX ?_|refine zY ?_|refine zZ ?_|refine za ?_|refine zb ?_|refine zj ?_|refine zk ?_|refine zp ?_|refine zw ?_|refine zx ?_
  refine xAJ (fun (g : Nat × Nat) => [(3, .bool true), (4, .sh false (l.map encM)), (5, .sh false (r.map encM)), (6, .int .i64 g.2), (7, .int .i64 g.1)]) (fun _ => []) (fun g => l.length - g.1)
    (fun g => g.1 ≤ l.length ∧ g.2 ≤ r.length ∧ (r.drop g.2).Sublist (l.drop g.1)) (0, 0) xBd ⟨Nat.zero_le _, Nat.zero_le _, hsub⟩ ?_
  rintro ⟨i, a⟩ ⟨hi, ha, hv⟩
  dsimp only at hi ha hv ⊢
  repeat first|refine zA ?_|refine zB ?_|refine zC ?_|refine zD ?_|refine zE ?_|refine zF ?_|refine zO ?_|refine zP ?_|refine zQ ?_|refine zT ?_|refine zU ?_|refine zW ?_|refine zX ?_|refine zY ?_|refine zZ ?_|refine za ?_|refine zb ?_|refine zj ?_|refine zk ?_|refine zp ?_|refine zw ?_|refine zx ?_
  refine cnd (fun h => xAB ?_) (fun h => xAE ?_)
  · have hlt : i < l.length := by have h' := of_decide_eq_true h; omega
    have hlt2 : (i : Int) < ((l.map encM).length : Nat) := by omega
    obtain ⟨u, hu⟩ : ∃ u, l[i]? = some u := ⟨_, List.getElem?_eq_getElem hlt⟩
    have hue := gm (enc := encM) (n := (i : Int)) hu (by omega)
    by_cases hB : a < r.length
    · have c2 : decide ((a : Int) < ((r.map encM).length : Nat)) = true := decide_eq_true (by omega)
      have c2' : (a : Int) < ((r.map encM).length : Nat) := by omega
      obtain ⟨w, hw⟩ : ∃ v, r[a]? = some v := ⟨_, List.getElem?_eq_getElem hB⟩
      have hwe := gm (enc := encM) (n := (a : Int)) hw (by omega)
      rw [xAj hu, xAj hw] at hv
      have hv := xLz hv
      repeat first|refine zA ?_|refine zB ?_|refine zC ?_|refine zD ?_|refine zE ?_|refine zF ?_|refine o_v (veqM u w) ?_|refine zO ?_|refine zP ?_|refine zQ ?_|refine zT ?_|refine zU ?_|refine zW ?_|refine zX ?_|refine zY ?_|refine zZ ?_|refine za ?_|refine zb ?_|refine zj ?_|refine zk ?_|refine zp ?_|refine zw ?_|refine zx ?_
      refine cnd (fun h2 => ?_) (fun h2 => xAB ?_)
      · have h2 : u = w := by simpa using h2
        rw [if_pos h2] at hv
        repeat first|refine zA ?_|refine zB ?_|refine zC ?_|refine zD ?_|refine zE ?_|refine zF ?_|refine zO ?_|refine zP ?_|refine zQ ?_|refine zT ?_|refine zU ?_|refine zW ?_|refine zX ?_|refine zY ?_|refine zZ ?_|refine za ?_|refine zb ?_|refine zj ?_|refine zk ?_|refine zp ?_|refine zw ?_|refine zx ?_
        exact agn (Q := fun _ _ => True) (i + 1, a + 1) ⟨hlt, hB, hv⟩ xBd
      · have h2 : ¬ u = w := by simpa using h2
        rw [if_neg h2, ← xAj hw] at hv
        repeat first|refine zA ?_|refine zB ?_|refine zC ?_|refine zD ?_|refine zE ?_|refine zF ?_|refine zO ?_|refine zP ?_|refine zQ ?_|refine zT ?_|refine zU ?_|refine zW ?_|refine zX ?_|refine zY ?_|refine zZ ?_|refine za ?_|refine zb ?_|refine zj ?_|refine zk ?_|refine zp ?_|refine zw ?_|refine zx ?_
        exact agn (Q := fun _ _ => True) (i + 1, a) ⟨hlt, ha, hv⟩ xBd
    · have c2 : decide ((a : Int) < ((r.map encM).length : Nat)) = false := decide_eq_false (by omega)
      have hv : (r.drop a).Sublist (l.drop (i + 1)) := by rw [List.drop_eq_nil_of_le (by omega)]; exact List.nil_sublist _
      repeat first|refine zA ?_|refine zB ?_|refine zC ?_|refine zD ?_|refine zE ?_|refine zF ?_|refine zO ?_|refine zP ?_|refine zQ ?_|refine zT ?_|refine zU ?_|refine zW ?_|refine zX ?_|refine zY ?_|refine zZ ?_|refine za ?_|refine zb ?_|refine zj ?_|refine zk ?_|refine zp ?_|refine zw ?_|refine zx ?_
      refine cndf (xAB ?_)
      repeat first|refine zA ?_|refine zB ?_|refine zC ?_|refine zD ?_|refine zE ?_|refine zF ?_|refine zO ?_|refine zP ?_|refine zQ ?_|refine zT ?_|refine zU ?_|refine zW ?_|refine zX ?_|refine zY ?_|refine zZ ?_|refine za ?_|refine zb ?_|refine zj ?_|refine zk ?_|refine zp ?_|refine zw ?_|refine zx ?_
      exact agn (Q := fun _ _ => True) (i + 1, a) ⟨hlt, ha, hv⟩ xBd
  have hge : i = l.length := by have h' := of_decide_eq_false h; omega
  subst hge
  have : a = r.length := by
    have hd : l.drop l.length = [] := List.drop_length
    rw [hd, List.sublist_nil, List.drop_eq_nil_iff] at hv
    omega
  subst this
  have c1 : (!((r.length : Nat) : Int) == ((r.map encM).length : Nat)) = false := by rw [hb2]; simp
  by_cases hl0 : l = []
  · have hr0 := hnil hl0
    have c2 : decide (((l.map encM).length : Int) > 0) = false := by rw [hl0]; rfl
    repeat first|refine zA ?_|refine zB ?_|refine zC ?_|refine zD ?_|refine zE ?_|refine zF ?_|refine zO ?_|refine zP ?_|refine zQ ?_|refine zT ?_|refine zU ?_|refine zW ?_|refine zX ?_|refine zY ?_|refine zZ ?_|refine za ?_|refine zb ?_|refine zj ?_|refine zk ?_|refine zp ?_|refine zw ?_|refine zx ?_
    refine cndf (xAB ?_)
    repeat first|refine zA ?_|refine zB ?_|refine zC ?_|refine zD ?_|refine zE ?_|refine zF ?_|refine cf v2 ?_|refine cv0 q1 ?_|refine zO ?_|refine zP ?_|refine zQ ?_|refine zT ?_|refine zU ?_|refine zW ?_|refine zX ?_|refine zY ?_|refine zZ ?_|refine za ?_|refine zb ?_|refine zj ?_|refine zk ?_|refine zp ?_|refine zw ?_|refine zx ?_
    exact xAC ⟨.inr rfl, oB rfl⟩
  · obtain ⟨m, e1, e2, e3⟩ := hlast hl0
    have hlp : 0 < l.length := List.length_pos_iff.2 hl0
    have c2 : decide (((l.map encM).length : Int) > 0) = true := decide_eq_true (by omega)
    have c3 : (((r.map encM).length : Int) == 0) = false := beq_eq_false_iff_ne.2 (by omega)
    have f1 := gm (enc := encM) (n := ((l.map encM).length : Int) - 1) e1 (by omega)
    have f2 := gm (enc := encM) (n := ((r.map encM).length : Int) - 1) e2 (by omega)
    have g1 : 0 ≤ ((l.map encM).length : Int) - 1 := by omega
    have g2 : 0 ≤ ((r.map encM).length : Int) - 1 := by omega
    have g3 : ((l.map encM).length : Int) - 1 < ((l.map encM).length : Nat) := by omega
    have g4 : ((r.map encM).length : Int) - 1 < ((r.map encM).length : Nat) := by omega
    repeat first|refine zA ?_|refine zB ?_|refine zC ?_|refine zD ?_|refine zE ?_|refine zF ?_|refine o_v (vneM m) ?_|refine zO ?_|refine zP ?_|refine zQ ?_|refine zT ?_|refine zU ?_|refine zW ?_|refine zX ?_|refine zY ?_|refine zZ ?_|refine za ?_|refine zb ?_|refine zj ?_|refine zk ?_|refine zp ?_|refine zw ?_|refine zx ?_
    refine cndf (xAB ?_)
    repeat first|refine zA ?_|refine zB ?_|refine zC ?_|refine zD ?_|refine zE ?_|refine zF ?_|refine cf v2 ?_|refine cv0 q1 ?_|refine zO ?_|refine zP ?_|refine zQ ?_|refine zT ?_|refine zU ?_|refine zW ?_|refine zX ?_|refine zY ?_|refine zZ ?_|refine za ?_|refine zb ?_|refine zj ?_|refine zk ?_|refine zp ?_|refine zw ?_|refine zx ?_
    exact xAC ⟨.inr rfl, oB rfl⟩
theorem foldParts_in (l : List (List PV)) (il : InTy (.sl [.int .u8, .int .u8, .int .u8, .int .u8, .int .u8, .int .u8]) (.sh false l)) : VC Tryz.prog 4 [.sh false l] [] (.bool true) [] := by
  obtain ⟨a, rfl, h1, h2⟩ := xOd il
  exact xIj h2 h1
end Go.Proofs
