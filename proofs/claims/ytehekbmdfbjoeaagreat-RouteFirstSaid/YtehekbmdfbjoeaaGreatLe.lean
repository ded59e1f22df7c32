/- Le -/
import Derived.Test.YtehekbmdfbjoeaaGreatFb
open Go.V Go.Pu
set_option linter.unusedVariables false
set_option linter.unusedSimpArgs false
set_option maxRecDepth 20000
namespace Go.Proofs
def vc5 : VCode :=
 (.seq
 (.region 0 false [
 .e 3 (.box (.t 0)) 0,
 .e 6 (.copy (.c (.bool false))) 8])
 (.seq
 (.region 1 false [
 .e 15 (.call (.c (.fn 11 [])) []) 8192,
 .e 7 (.copy (.t 15)) 8200])
 (.seq
 (.region 2 false [
 .e 16 (.load true 6 (.t 3)) 16384,
 .e 17 (.call (.c (.fn 28 [])) [(.t 16)]) 16392,
 .e 18 (.copy (.t 2)) 16400,
 .e 19 (.call (.c (.fn 13 [])) [(.t 18)]) 16408,
 .e 8 (.alloc [(.int .i64 0), (.str []), (.str []), (.str []), (.str []), (.str []), (.str []), (.int .i64 0)]) 16416,
 .h (.store 8 (.t 8) (.t 17)) 16424 [],
 .e 9 (.copy (.t 19)) 16432])
 (.seq
 (.region 3 true [
 .e 20 (.load true 8 (.t 8)) 24576,
 .f 21 (.bslice 8 [(.int .i64 0), (.str []), (.str []), (.str []), (.str []), (.str []), (.str []), (.int .i64 0)] 1 [(0, (.t 20))]) 24584 [0],
 .e 22 (.copy (.t 1)) 24592,
 .f 23 (.call (.c (.fn 12 [])) [(.t 22), (.c (.int .i64 9))]) 24600 [2],
 .f 24 (.append 8 112 [(.int .i64 0), (.str []), (.str []), (.str []), (.str []), (.str []), (.str []), (.int .i64 0)] (.t 21) (.t 23)) 24608 [1, 0, 3, 2],
 .f 10 (.copy (.t 24)) 24616 [4, 1, 0, 3, 2]])
 (.seq
 (.region 4 false [
 .e 11 (.copy (.c (.int .i64 0))) 32768])
 (.seq
 (.seq
 (.region 5 false [
 .e 12 (.copy (.c (.int .i64 0))) 40960])
 (.block 0
 (.loop
 (.seq
 (.seq
 (.region 6 false [
 .e 25 (.copy (.t 12)) 49152,
 .e 26 (.copy (.t 9)) 49160,
 .e 27 (.len (.t 26)) 49168,
 .e 28 (.bin .leq (.t 25) (.t 27)) 49176])
 (.cond (.t 28)
 .skip
 (.exit 0)))
 (.seq
 (.block 1
 (.seq
 (.region 8 false [
 .e 31 (.copy (.t 10)) 65536,
 .e 32 (.copy (.t 9)) 65544,
 .e 33 (.copy (.t 12)) 65552,
 .e 34 (.call (.c (.fn 18 [])) [(.t 31), (.t 32), (.t 33)]) 65560,
 .e 13 (.alloc [.nils, .nils, .nils]) 65568,
 .h (.store 3 (.t 13) (.t 34)) 65576 []])
 (.seq
 (.region 9 true [
 .e 35 (.load true 8 (.t 8)) 73728,
 .e 36 (.copy (.t 9)) 73736,
 .f 37 (.call (.c (.fn 14 [])) [(.t 36)]) 73744 [1],
 .e 38 (.copy (.t 12)) 73752,
 .f 39 (.iaddr 2 (.t 37) (.t 38)) 73760 [2, 1, 3],
 .f 40 (.load true 2 (.t 39)) 73768 [4, 2, 1, 3],
 .f 41 (.call (.c (.fn 23 [])) [(.t 35), (.t 40)]) 73776 [0, 5, 4, 2, 1, 3],
 .f 14 (.copy (.t 41)) 73784 [6, 0, 5, 4, 2, 1, 3]])
 (.seq
 (.seq
 (.region 10 false [
 .e 42 (.load true 8 (.t 8)) 81920,
 .e 43 (.copy (.t 9)) 81928,
 .e 44 (.call (.c (.fn 20 [])) [(.t 42), (.t 43)]) 81936])
 (.cond (.t 44)
 (.seq
 (.seq
 (.region 11 true [
 .e 45 (.faddr 1 (.t 13)) 90112,
 .f 46 (.load false 1 (.t 45)) 90120 [0],
 .f 47 (.len (.t 46)) 90128 [1, 0],
 .f 48 (.bin .eql (.t 47) (.c (.int .i64 0))) 90136 [2, 1, 0],
 .f 49 (.copy (.t 48)) 90144 [3, 2, 1, 0],
 .g 50 (.faddr 1 (.t 13)) 4 49 false 90152 [4, 3, 2, 1, 0],
 .g 51 (.load false 1 (.t 50)) 4 49 false 90160 [5, 4, 3, 2, 1, 0],
 .g 52 (.iaddr 8 (.t 51) (.c (.int .i64 0))) 4 49 false 90168 [6, 5, 4, 3, 2, 1, 0],
 .g 53 (.load true 8 (.t 52)) 4 49 false 90176 [7, 6, 5, 4, 3, 2, 1, 0],
 .g 54 (.load true 8 (.t 8)) 4 49 false 90184 [4, 3, 2, 1, 0],
 .g 55 (.eqc true [1, 2, 2, 2, 2, 2, 2, 1] (.t 53) (.t 54)) 4 49 false 90192 [8, 7, 6, 5, 4, 3, 2, 1, 0, 9],
 .f 56 (.pick (.t 49) (.c (.bool true)) (.t 55)) 90200 [4, 3, 2, 1, 0, 10, 8, 7, 6, 5, 9]])
 (.cond (.t 56)
 (.seq
 (.region 12 false [
 .e 6 (.copy (.c (.bool false))) 98304])
 .ret)
 .skip))
 (.exit 1))
 .skip))
 (.seq
 (.region 13 false [
 .e 57 (.copy (.t 14)) 106496,
 .e 58 (.len (.t 57)) 106504,
 .e 59 (.bin .gtr (.t 58) (.c (.int .i64 0))) 106512])
 (.cond (.t 59)
 (.seq
 (.region 14 false [
 .e 60 (.copy (.t 11)) 114688,
 .e 61 (.bin .add (.t 60) (.c (.int .i64 1))) 114696,
 .e 11 (.copy (.t 61)) 114704])
 (.seq
 (.region 15 true [
 .e 62 (.faddr 0 (.t 13)) 122880,
 .f 63 (.load false 1 (.t 62)) 122888 [0],
 .f 64 (.len (.t 63)) 122896 [1, 0],
 .f 65 (.bin .eql (.t 64) (.c (.int .i64 0))) 122904 [2, 1, 0],
 .f 66 (.copy (.t 65)) 122912 [3, 2, 1, 0],
 .g 67 (.faddr 0 (.t 13)) 4 66 false 122920 [4, 3, 2, 1, 0],
 .g 68 (.load false 1 (.t 67)) 4 66 false 122928 [5, 4, 3, 2, 1, 0],
 .g 69 (.iaddr 8 (.t 68) (.c (.int .i64 0))) 4 66 false 122936 [6, 5, 4, 3, 2, 1, 0],
 .g 70 (.load true 8 (.t 69)) 4 66 false 122944 [7, 6, 5, 4, 3, 2, 1, 0],
 .g 71 (.copy (.t 14)) 4 66 false 122952 [4, 3, 2, 1, 0],
 .g 72 (.iaddr 8 (.t 71) (.c (.int .i64 0))) 4 66 false 122960 [9, 4, 3, 2, 1, 0],
 .g 73 (.load true 8 (.t 72)) 4 66 false 122968 [10, 9, 4, 3, 2, 1, 0],
 .g 74 (.eqc true [1, 2, 2, 2, 2, 2, 2, 1] (.t 70) (.t 73)) 4 66 false 122976 [8, 7, 6, 5, 4, 3, 2, 1, 0, 11, 10, 9],
 .f 75 (.pick (.t 66) (.c (.bool true)) (.t 74)) 122984 [4, 3, 2, 1, 0, 12, 8, 7, 6, 5, 11, 10, 9]])
 (.cond (.t 75)
 (.seq
 (.region 16 false [
 .e 6 (.copy (.c (.bool false))) 131072])
 .ret)
 .skip)))
 .skip))))))
 (.region 7 false [
 .e 29 (.copy (.t 12)) 57344,
 .e 30 (.bin .add (.t 29) (.c (.int .i64 1))) 57352,
 .e 12 (.copy (.t 30)) 57360]))))))
 (.seq
 (.region 17 false [
 .e 76 (.copy (.t 11)) 139264,
 .e 77 (.bin .gtr (.t 76) (.c (.int .i64 0))) 139272,
 .e 78 (.load true 8 (.t 8)) 139280,
 .e 79 (.copy (.t 9)) 139288,
 .e 80 (.call (.c (.fn 20 [])) [(.t 78), (.t 79)]) 139296,
 .e 81 (.eqb true (.t 77) (.t 80)) 139304,
 .e 82 (.copy (.t 81)) 139312,
 .g 83 (.copy (.t 7)) 6 82 true 139320 [],
 .e 84 (.pick (.t 82) (.t 83) (.c (.bool false))) 139328,
 .e 6 (.copy (.t 84)) 139336])
 .ret)))))))
theorem vf5 : VF Tryz.prog 5 = some (85, vc5, [.tmp 6]) := by kernel_rfl
theorem spansF {pv : List Str} (hl : pv.length ≤ 1000000) : VC Tryz.prog 14 [.sh false (pv.map encT)] [] (.sh false ((xAK pv).map encS)) [] := xDn (xFY Sl.sh hl) (xAP rfl rfl)
set_option maxHeartbeats 4000000 in
theorem xJJ {r : RawM} (hr0 : r.ok) {x : List RawM} (hx : x.length ≤ 9223372036854775807) (hr : ∀ r ∈ x, r.ok) {p : List Nat} (hp : p.length ≤ 9223372036854775807) (hu : ∀ n ∈ p, n < 256) :
    VC Tryz.prog 5 [.agg (encW r), .sh false (x.map encW), .sh false (p.map encU)] [] (.bool true) [] := by
  have hmd := xNA hr0
  have hmw := xM9 r
  have hmz : MsgSz (xAe r) := MsgSz.of hmw.toMsgOk (xKq r)
  have hli := xQ2 hx hr 9 (by decide)
  have hsz := xJz (l := x) (n := 9)
  have hln := xNE x 9
  have hpi := xH1 hp hu
  have ha := xMe p
  have hpl := xJn p
  generalize xDX x 9 = y at *
  generalize pvM p = pv at *
  generalize xAe r = m at *
  have hsp := spansF (pv := pv) (by omega)
  have hsl := xCO pv
  have hml : ((xAK pv).map encS).length = (xAK pv).length := List.length_map _
  have hmp : (pv.map encT).length = pv.length := List.length_map _
  have hbz : ∀ m' ∈ [m] ++ y, MsgSz m' := by
    intro m' h
    rcases List.mem_append.1 h with h | h
    · obtain rfl : m' = m := by simpa using h
      exact hmz
    · exact hsz m' h
  have hbl : ([m] ++ y).length ≤ 10 := by rw [List.length_append]; simp only [List.length_cons, List.length_nil]; omega
  have hcr := xHg hmz (q := .sh false (pv.map encT)) ha Sl.sh (by omega)
  refine vcs vf5 ?_
  repeat first|refine sgo ?_|refine cv0 xF2 ?_|refine cv0 hmd ?_|refine cf hpi ?_|refine cf hli ?_|refine o_v (vaps encM [m] y) ?_|refine sop ?_
  cases hc : xFP m pv with
  | true =>
    rw [hc] at hcr
    refine xAE (fun (g : Nat) => [(7, .bool true), (8, .ptr ⟨1, 16416⟩ 1 0 0), (9, .sh false (pv.map encT)), (10, .sh false (([m] ++ y).map encM)), (11, .int .i64 0), (12, .int .i64 g)]) (fun g => [(⟨1, 16416⟩, ⟨true, false, 8, [encM m]⟩)]) (fun g => pv.length + 1 - g)
      (fun g => g ≤ pv.length + 1) 0 ((Imp.wr (t := 10) rfl (xAP rfl rfl)).trans xAX) (Nat.zero_le _) ?_
    intro i hi
    repeat first|refine sgo ?_|refine sop ?_
    refine cnd (fun h => xAB ?_) (fun h => xAD ?_)
    · have hlt : i < (xAK pv).length := by have h' := of_decide_eq_true h; omega
      obtain ⟨s, hs⟩ : ∃ s, (xAK pv)[i]? = some s := ⟨_, List.getElem?_eq_getElem hlt⟩
      have hse := gm (enc := encS) (n := (i : Int)) hs (by omega)
      have hlt2 : (i : Int) < (((xAK pv).map encS).length : Nat) := by omega
      have h1 := xDW (q := .sh false (pv.map encT)) Sl.sh (by omega) (by omega) hbz hs
      have h3 := xFe hmz s
      obtain ⟨z, hz⟩ := xJ5 ha hc hs y
      have hz : (xA5 ([m] ++ y) s).stay = m :: z := hz
      rw [hz] at h1
      have e1 : ((((m :: z).map encM).length : Int) == 0) = false := by rw [beq_eq_false_iff_ne, List.length_map, List.length_cons]; omega
      have e2 : ((m :: z).map encM)[((0 : Int)).toNat]? = some (encM m) := rfl
      have e3 : (0 : Int) < (((m :: z).map encM).length : Nat) := by rw [List.length_map, List.length_cons]; omega
      repeat first|refine sgo ?_|refine cf h1 ?_|refine cf hsp ?_|refine cf h3 ?_|refine cv0 hcr ?_|refine sop ?_
      refine cndt ?_
      repeat first|refine sgo ?_|refine o_v (vneM m) ?_|refine sop ?_
      refine cndf (xAB ?_)
      repeat first|refine sgo ?_|refine sop ?_
      refine xAD ?_
      repeat first|refine sgo ?_|refine sop ?_
      exact agn (Q := fun _ _ => True) (i + 1) (by omega) xAX
    · repeat first|refine sgo ?_|refine cv0 hcr ?_|refine sop ?_
      exact xAC ⟨.inr rfl, oAny rfl⟩
  | false =>
    rw [hc] at hcr
    refine xAE (fun (g : Nat × Nat) => [(7, .bool true), (8, .ptr ⟨1, 16416⟩ 1 0 0), (9, .sh false (pv.map encT)), (10, .sh false (([m] ++ y).map encM)), (11, .int .i64 g.2), (12, .int .i64 g.1)]) (fun g => [(⟨1, 16416⟩, ⟨true, false, 8, [encM m]⟩)]) (fun g => pv.length + 1 - g.1)
      (fun g => g.1 ≤ pv.length + 1 ∧ g.2 ≤ g.1 ∧ ∀ j s, j < g.1 → (xAK pv)[j]? = some s → xB4 m s ≠ [] → 0 < g.2) (0, 0) ((Imp.wr (t := 10) rfl (xAP rfl rfl)).trans xAX) ⟨Nat.zero_le _, Nat.le_refl _, fun j s h => by cases h⟩ ?_
    rintro ⟨i, c⟩ ⟨hi, hci, hcc⟩
    dsimp only at hi hci hcc ⊢
    repeat first|refine sgo ?_|refine sop ?_
    refine cnd (fun h => xAB ?_) (fun h => xAD ?_)
    · have hlt : i < (xAK pv).length := by have h' := of_decide_eq_true h; omega
      obtain ⟨s, hs⟩ : ∃ s, (xAK pv)[i]? = some s := ⟨_, List.getElem?_eq_getElem hlt⟩
      have hse := gm (enc := encS) (n := (i : Int)) hs (by omega)
      have hlt2 : (i : Int) < (((xAK pv).map encS).length : Nat) := by omega
      have h1 := xDW (q := .sh false (pv.map encT)) Sl.sh (by omega) (by omega) hbz hs
      have h3 := xFe hmz s
      cases hpm : xB4 m s with
      | nil =>
        rw [hpm] at h3
        repeat first|refine sgo ?_|refine cf h1 ?_|refine cf hsp ?_|refine cf h3 ?_|refine cv0 hcr ?_|refine sop ?_
        refine cndf (xAB ?_)
        repeat first|refine sgo ?_|refine sop ?_
        refine cndf (xAB ?_)
        repeat first|refine sgo ?_|refine sop ?_
        refine agn (Q := fun _ _ => True) (i + 1, c) ⟨by simp only; omega, by simp only; omega, ?_⟩ xAX
        intro j s' hj hs' hn
        rcases Nat.lt_or_ge j i with h4 | h4
        · exact hcc j s' h4 hs' hn
        · have : j = i := by simp only at hj; omega
          subst this
          rw [hs] at hs'; cases hs'
          exact absurd hpm hn
      | cons q w =>
        rw [hpm] at h3
        obtain ⟨z, hz⟩ := xLl ha hc hs hpm y
        have hz : (xA5 ([m] ++ y) s).go = q :: z := hz
        rw [hz] at h1
        have e0 : decide ((((q :: w).map encM).length : Int) > 0) = true := decide_eq_true (by rw [List.length_map, List.length_cons]; omega)
        have e1 : ((((q :: z).map encM).length : Int) == 0) = false := by rw [beq_eq_false_iff_ne, List.length_map, List.length_cons]; omega
        have e2 : ((q :: z).map encM)[((0 : Int)).toNat]? = some (encM q) := rfl
        have e3 : (0 : Int) < (((q :: z).map encM).length : Nat) := by rw [List.length_map, List.length_cons]; omega
        have e4 : ((q :: w).map encM)[((0 : Int)).toNat]? = some (encM q) := rfl
        have e5 : (0 : Int) < (((q :: w).map encM).length : Nat) := by rw [List.length_map, List.length_cons]; omega
        repeat first|refine sgo ?_|refine cf h1 ?_|refine cf hsp ?_|refine cf h3 ?_|refine cv0 hcr ?_|refine sop ?_
        refine cndf (xAB ?_)
        repeat first|refine sgo ?_|refine sop ?_
        refine cndt ?_
        repeat first|refine sgo ?_|refine o_v (vneM q) ?_|refine sop ?_
        refine cndf (xAB ?_)
        repeat first|refine sgo ?_|refine sop ?_
        refine agn (Q := fun _ _ => True) (i + 1, c + 1) ⟨by simp only; omega, by simp only; omega, fun _ _ _ _ _ => by simp only; omega⟩ xAX
    · have hge : i = pv.length + 1 := by have h' := of_decide_eq_false h; omega
      have hpos : 0 < c := by
        obtain ⟨j, s, h1, h2, h3⟩ := xNT hmw ha
        exact hcc j s (by omega) h2 h3
      have e0 : decide ((c : Int) > 0) = true := by simp; omega
      have e1 : (!(decide ((c : Int) > 0) == false)) = true := by rw [e0]; rfl
      repeat first|refine sgo ?_|refine cv0 hcr ?_|refine sop ?_
      exact xAC ⟨.inr rfl, oAny rfl⟩
theorem routeFirst_in (q : List PV) (n : q.length = [CTy.int .u8, .int .u8, .int .u8, .int .u8, .int .u8, .int .u8].length) (i : ∀ (j : Nat) (c : CTy) (p : PV), [CTy.int .u8, .int .u8, .int .u8, .int .u8, .int .u8, .int .u8][j]? = some c → q[j]? = some p → InTy c p)
    (l : List (List PV)) (il : InTy (.sl [.int .u8, .int .u8, .int .u8, .int .u8, .int .u8, .int .u8]) (.sh false l)) (l2 : List (List PV)) (il2 : InTy (.sl [.int .u8]) (.sh false l2)) :
    VC Tryz.prog 5 [.agg q, .sh false l, .sh false l2] [] (.bool true) [] := by
  obtain ⟨r, rfl, h0⟩ := decW1 n i
  obtain ⟨x, rfl, h1, h2⟩ := xRG il
  obtain ⟨p, rfl, h3, h4⟩ := xRH il2
  exact xJJ h0 h2 h1 h4 h3
end Go.Proofs
