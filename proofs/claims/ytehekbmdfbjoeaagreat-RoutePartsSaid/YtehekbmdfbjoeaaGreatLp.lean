/- Lp -/
import Derived.Test.YtehekbmdfbjoeaaGreatTb
open Go.V Go.Pu
set_option linter.unusedVariables false
set_option linter.unusedSimpArgs false
set_option maxRecDepth 20000
namespace Go.Proofs
def vc7 := vcm Tryz.prog 7
theorem vf7 : VF Tryz.prog 7 = some (88, vc7, [.tmp 6]) := by kernel_rfl
theorem xQu {m : MsgL} {l : List SpanL} {i : Nat} {s : SpanL} (hx : l[i]? = some s) : (l.take (i + 1)).countP (tchB m) = (l.take i).countP (tchB m) + if tchB m s = true then 1 else 0 := by
  rw [List.take_add_one, hx, Option.toList_some, List.countP_append, List.countP_singleton]
set_option maxHeartbeats 4000000 in
theorem xKv {xs : List RawL} {r : RawM} (hr0 : r.ok) {p : List Nat} (hp : p.length ≤ 9223372036854775807) (hu : ∀ n ∈ p, n < 256) :
    VC Tryz.prog 7 [.sh false (xs.map encR), .agg (encW r), .sh false (p.map encU)] [] (.bool true) [] := by
  have htv := xGu (xs := xs) 12 (by decide)
  have htb := xGt xs
  have hmd := xP7 hr0
  have hmw := xP6 r
  have hmo := hmw.toMsgOk
  have hm8 := xFh r
  have hmz : MsgSz (xAl r) := MsgSz.of hmo hm8
  have hpi := xG1 hp hu
  have ha := xPX p
  have hpl := xJl p
  have hp8 : ∀ s ∈ xAK (pvM p), ∀ q ∈ xAx (xAl r) s, MsgLen 8 q := fun s hs q hq => by
    cases hpc : xAx (xAl r) s with
    | nil => rw [hpc] at hq; cases hq
    | cons x y =>
      rw [hpc] at hq
      obtain ⟨rfl, _⟩ := xBd hpc
      obtain rfl : q = x := by simpa using hq
      exact xHe (by decide) (xG0 s hs) hm8 hpc
  generalize xBl xs 12 = t at *
  generalize pvM p = pv at *
  generalize xAl r = m at *
  have hsp := xO2 (pv := pv) (by omega)
  have hsl := xCV pv
  have hml : ((xAK pv).map encS).length = (xAK pv).length := List.length_map _
  have hcr := xOR hmz (q := .sh false (pv.map encT)) ha Sl.sh (by omega)
  have hra := xKn (htb.ok (by decide)) hmo hm8
  rw [xHZ htb.s hmo] at hra
  have hta : Tb 1 (xAs t m) := (xMb htb hm8).up (by split <;> omega)
  have hw := xFy hmz
  have hr := xKg hmz
  have hwl := xBh m
  have hrl := xDg m
  have hcl : ∀ i, ((xAK pv).take i).countP (tchB m) ≤ 5 := fun i => by
    have := ((List.take_sublist i (xAK pv)).countP_le (p := tchB m))
    have h2 := List.countP_le_length (p := tchB m) (l := xAK pv)
    omega
  cases hc : xDr m pv with
  | true =>
    rw [hc] at hcr
    have hct := xQq ha hc
    refine vcs vf7 ?_
    repeat first|refine sgo ?_|refine cv0 xEO ?_|refine cf htv ?_|refine cv0 hmd ?_|refine cf hpi ?_|refine cf hsp ?_|refine cf hra ?_|refine cv0 hcr ?_|refine sop ?_
    refine xAE (fun (g : Nat) => [(7, .bool true), (8, .sh false (t.map encP)), (9, .ptr ⟨1, 16432⟩ 1 0 0), (11, .sh false ((xAK pv).map encS)), (12, .sh false ((xAs t m).map encP)), (13, .int .i64 (((xAK pv).take g).countP (tchB m) : Nat)), (14, .bool true), (15, .int .i64 g)]) (fun g => [(⟨1, 16432⟩, ⟨true, false, 8, [encM m]⟩)]) (fun g => (xAK pv).length - g)
      (fun g => g ≤ (xAK pv).length) 0 xAS (Nat.zero_le _) ?_
    intro i hi
    have hci := hcl i
    repeat first|refine sgo ?_|refine sop ?_
    refine cnd (fun h => xAA ?_) (fun h => xAD ?_)
    · have hlt : i < (xAK pv).length := by have h' := of_decide_eq_true h; omega
      obtain ⟨s, hs⟩ : ∃ s, (xAK pv)[i]? = some s := ⟨_, List.getElem?_eq_getElem hlt⟩
      have hse := gm (enc := encS) (n := (i : Int)) hs (by omega)
      have hlt2 : (i : Int) < (((xAK pv).map encS).length : Nat) := by omega
      have h3 := xG3 hmz s
      have hpn := xMv m s
      have hpm : ((xAx m s).map encM).length = (xAx m s).length := List.length_map _
      have e0 : decide ((((xAx m s).map encM).length : Int) > 1) = false := decide_eq_false (by omega)
      have t1 := xFV (q := .sh false ([s].map encS)) (p := .sh false ((xAG m).map encS)) (a := [s]) (b := xAG m) Sl.sh Sl.sh (by simp) (by omega)
      have t2 := xFV (q := .sh false ([s].map encS)) (p := .sh false ((xA2 m).map encS)) (a := [s]) (b := xA2 m) Sl.sh Sl.sh (by simp) (by omega)
      have hst := xQu (m := m) hs
      have hte : tchB m s = (xBx [s] (xAG m) || xBx [s] (xA2 m)) := rfl
      rw [hte] at hst
      generalize xBx [s] (xAG m) = a at *
      generalize xBx [s] (xA2 m) = b at *
      cases a with
      | true =>
        rw [if_pos (by rfl)] at hst
        repeat first|refine sgo ?_|refine cf h3 ?_|refine cf hw ?_|refine cv0 t1 ?_|refine sop ?_
        refine cndt ?_
        repeat first|refine sgo ?_|refine sop ?_
        refine cndf (xAA ?_)
        repeat first|refine sgo ?_|refine sop ?_
        refine cndf (xAA ?_)
        repeat first|refine sgo ?_|refine sop ?_
        exact agn (Q := fun _ _ => True) (i + 1) (by omega) (xAS (h1 := by refine ⟨rfl, rfl, rfl, rfl, rfl, ?_, rfl, rfl, trivial⟩; exact congrArg (fun z => some (PV.int .i64 z)) (by rw [hst]; omega)))
      | false =>
        cases b with
        | true =>
          rw [if_pos (by rfl)] at hst
          repeat first|refine sgo ?_|refine cf h3 ?_|refine cf hw ?_|refine cv0 t1 ?_|refine cf hr ?_|refine cv0 t2 ?_|refine sop ?_
          refine cndt ?_
          repeat first|refine sgo ?_|refine sop ?_
          refine cndf (xAA ?_)
          repeat first|refine sgo ?_|refine sop ?_
          refine cndf (xAA ?_)
          repeat first|refine sgo ?_|refine sop ?_
          exact agn (Q := fun _ _ => True) (i + 1) (by omega) (xAS (h1 := by refine ⟨rfl, rfl, rfl, rfl, rfl, ?_, rfl, rfl, trivial⟩; exact congrArg (fun z => some (PV.int .i64 z)) (by rw [hst]; omega)))
        | false =>
          rw [if_neg (by decide)] at hst
          repeat first|refine sgo ?_|refine cf h3 ?_|refine cf hw ?_|refine cv0 t1 ?_|refine cf hr ?_|refine cv0 t2 ?_|refine sop ?_
          refine cndf (xAA ?_)
          repeat first|refine sgo ?_|refine sop ?_
          refine cndf (xAA ?_)
          repeat first|refine sgo ?_|refine sop ?_
          refine cndf (xAA ?_)
          repeat first|refine sgo ?_|refine sop ?_
          exact agn (Q := fun _ _ => True) (i + 1) (by omega) (xAS (h1 := by refine ⟨rfl, rfl, rfl, rfl, rfl, ?_, rfl, rfl, trivial⟩; exact congrArg (fun z => some (PV.int .i64 z)) (by rw [hst]; omega)))
    · have hge : i = (xAK pv).length := by have h' := of_decide_eq_false h; omega
      subst hge
      rw [List.take_length]
      have e0 : decide ((((xAK pv).countP (tchB m) : Nat) : Int) > 1) = true := decide_eq_true (by omega)
      repeat first|refine sgo ?_|refine sop ?_
      exact xAC ⟨.inr rfl, oAny rfl⟩
  | false =>
    rw [hc] at hcr
    refine vcs vf7 ?_
    repeat first|refine sgo ?_|refine cv0 xEO ?_|refine cf htv ?_|refine cv0 hmd ?_|refine cf hpi ?_|refine cf hsp ?_|refine cf hra ?_|refine cv0 hcr ?_|refine sop ?_
    refine xAE (fun (g : Nat × Nat) => [(7, .bool true), (8, .sh false (t.map encP)), (9, .ptr ⟨1, 16432⟩ 1 0 0), (11, .sh false ((xAK pv).map encS)), (12, .sh false ((xAs t m).map encP)), (13, .int .i64 g.2), (14, .bool false), (15, .int .i64 g.1)]) (fun g => [(⟨1, 16432⟩, ⟨true, false, 8, [encM m]⟩)]) (fun g => (xAK pv).length - g.1)
      (fun g => g.1 ≤ (xAK pv).length ∧ g.2 ≤ g.1) (0, 0) xAS ⟨Nat.zero_le _, Nat.le_refl _⟩ ?_
    rintro ⟨i, c⟩ ⟨hi, hci⟩
    dsimp only at hi hci ⊢
    repeat first|refine sgo ?_|refine sop ?_
    refine cnd (fun h => xAA ?_) (fun h => xAD ?_)
    · have hlt : i < (xAK pv).length := by have h' := of_decide_eq_true h; omega
      obtain ⟨s, hs⟩ : ∃ s, (xAK pv)[i]? = some s := ⟨_, List.getElem?_eq_getElem hlt⟩
      have hse := gm (enc := encS) (n := (i : Int)) hs (by omega)
      have hlt2 : (i : Int) < (((xAK pv).map encS).length : Nat) := by omega
      have h3 := xG3 hmz s
      have hpn := xMv m s
      have hpm : ((xAx m s).map encM).length = (xAx m s).length := List.length_map _
      have e0 : decide ((((xAx m s).map encM).length : Int) > 1) = false := decide_eq_false (by omega)
      have t1 := xFV (q := .sh false ([s].map encS)) (p := .sh false ((xAG m).map encS)) (a := [s]) (b := xAG m) Sl.sh Sl.sh (by simp) (by omega)
      have t2 := xFV (q := .sh false ([s].map encS)) (p := .sh false ((xA2 m).map encS)) (a := [s]) (b := xA2 m) Sl.sh Sl.sh (by simp) (by omega)
      have hnr := xM3 ha hc hs
      have hef := xMw htb.s hmo hnr
      have hpo : ∀ q ∈ xAx m s, MsgOk q := fun q hq => by
        cases hpc : xAx m s with
        | nil => rw [hpc] at hq; cases hq
        | cons x y =>
          rw [hpc] at hq
          obtain ⟨rfl, _⟩ := xBd hpc
          obtain rfl : q = x := by simpa using hq
          exact xL4 hmo hpc
      have hpl8 : ∀ q ∈ xAx m s, MsgLen 8 q := fun q hq => hp8 s (List.mem_of_getElem? hs) q hq
      have w1 := xKu (t := t) (d := [s]) (by have := htb.l (by decide); omega) (by simp)
      have w2 := xEo (htb.ins [s]) (l := xAx m s) (by have := List.countP_le_length (p := xA9) (l := xAx m s); omega) (by omega) hpo hpl8
      rw [hef] at w2
      have w3 := xKu (t := xAs t m) (d := [s]) (by have := hta.l (by decide); omega) (by simp)
      have w4 := xGv (hta.ins [s]) (by decide)
      generalize xBx [s] (xAG m) = a at *
      generalize xBx [s] (xA2 m) = b at *
      cases a with
      | true =>
        repeat first|refine sgo ?_|refine cf h3 ?_|refine cf hw ?_|refine cv0 t1 ?_|refine sop ?_
        refine cndt ?_
        repeat first|refine sgo ?_|refine sop ?_
        refine cndf (xAA ?_)
        repeat first|refine sgo ?_|refine cf w1 ?_|refine cf w2 ?_|refine cf w3 ?_|refine cv0 w4 ?_|refine sop ?_
        refine cndf (xAA ?_)
        repeat first|refine sgo ?_|refine sop ?_
        exact agn (Q := fun _ _ => True) (i + 1, c + 1) ⟨by simp only; omega, by simp only; omega⟩ xAS
      | false =>
        cases b with
        | true =>
          repeat first|refine sgo ?_|refine cf h3 ?_|refine cf hw ?_|refine cv0 t1 ?_|refine cf hr ?_|refine cv0 t2 ?_|refine sop ?_
          refine cndt ?_
          repeat first|refine sgo ?_|refine sop ?_
          refine cndf (xAA ?_)
          repeat first|refine sgo ?_|refine cf w1 ?_|refine cf w2 ?_|refine cf w3 ?_|refine cv0 w4 ?_|refine sop ?_
          refine cndf (xAA ?_)
          repeat first|refine sgo ?_|refine sop ?_
          exact agn (Q := fun _ _ => True) (i + 1, c + 1) ⟨by simp only; omega, by simp only; omega⟩ xAS
        | false =>
          repeat first|refine sgo ?_|refine cf h3 ?_|refine cf hw ?_|refine cv0 t1 ?_|refine cf hr ?_|refine cv0 t2 ?_|refine sop ?_
          refine cndf (xAA ?_)
          repeat first|refine sgo ?_|refine sop ?_
          refine cndf (xAA ?_)
          repeat first|refine sgo ?_|refine cf w1 ?_|refine cf w2 ?_|refine cf w3 ?_|refine cv0 w4 ?_|refine sop ?_
          refine cndf (xAA ?_)
          repeat first|refine sgo ?_|refine sop ?_
          exact agn (Q := fun _ _ => True) (i + 1, c) ⟨by simp only; omega, by simp only; omega⟩ xAS
    · repeat first|refine sgo ?_|refine sop ?_
      exact xAC ⟨.inr rfl, oAny rfl⟩
theorem routeParts_in (l : List (List PV)) (il : InTy (.sl [.int .u8, .int .u8, .int .u8]) (.sh false l)) (q : List PV) (n : q.length = [CTy.int .u8, .int .u8, .int .u8, .int .u8, .int .u8, .int .u8].length) (i : ∀ (j : Nat) (c : CTy) (p : PV), [CTy.int .u8, .int .u8, .int .u8, .int .u8, .int .u8, .int .u8][j]? = some c → q[j]? = some p → InTy c p)
    (l2 : List (List PV)) (il2 : InTy (.sl [.int .u8]) (.sh false l2)) : VC Tryz.prog 7 [.sh false l, .agg q, .sh false l2] [] (.bool true) [] := by
  obtain ⟨xs, rfl, _⟩ := decR il
  obtain ⟨r, rfl, h0⟩ := decW1 n i
  obtain ⟨p, rfl, h3, h4⟩ := xSj il2
  exact xKv h0 h4 h3
end Go.Proofs
