/- Lq -/
import Derived.Test.YtehekbmdfbjoeaaGreatTb
open Go.V Go.Pu
set_option linter.unusedVariables false
set_option linter.unusedSimpArgs false
set_option maxRecDepth 20000
namespace Go.Proofs
def vc8 := vcm Tryz.prog 8
theorem vf8 : VF Tryz.prog 8 = some (68, vc8, [.tmp 6]) := by kernel_rfl
set_option maxHeartbeats 4000000 in
theorem xKm {xs : List RawL} {x : List RawM} (hx : x.length ≤ 9223372036854775807) (hr : ∀ r ∈ x, r.ok) {p : List Nat} (hp : p.length ≤ 9223372036854775807) (hu : ∀ n ∈ p, n < 256) :
    VC Tryz.prog 8 [.sh false (xs.map encR), .sh false (x.map encW), .sh false (p.map encU)] [] (.bool true) [] := by
  have htv := xGu (xs := xs) 12 (by decide)
  have htb := xGt xs
  have hli := xUi hx hr 10 (by decide)
  have hsz := xMH (l := x) (n := 10)
  have hln := xNF x 10
  have hlo := xJ1 (l := x) (n := 10)
  have hl8 := xG8 (l := x) (n := 10)
  have hlc := xJ2 x 10
  have hpi := xG1 hp hu
  have hpl := xJl p
  have hp8 := xG0 (l := p)
  generalize xBl xs 12 = t at *
  generalize xD5 x 10 = buf at *
  generalize pvM p = pv at *
  have hsl := xCV pv
  have hmp : (pv.map encT).length = pv.length := List.length_map _
  have hal := xEo htb (l := buf) (by omega) (by omega) hlo hl8
  have hwt : Tb 10 (allT t buf) := (xGT buf htb hl8).up (by omega)
  have hsm := xGv hwt (by decide)
  refine vcs vf8 ?_
  repeat first|refine sgo ?_|refine cv0 xEO ?_|refine cf htv ?_|refine cf hli ?_|refine cf hpi ?_|refine cf hal ?_|refine sop ?_
  refine xAE (fun (g : Nat) => [(7, .bool true), (8, .sh false (t.map encP)), (9, .sh false (buf.map encM)), (10, .sh false (pv.map encT)), (11, .sh false ((allT t buf).map encP)), (12, .int .i64 g)]) (fun g => []) (fun g => pv.length + 1 - g)
    (fun g => g ≤ pv.length + 1) 0 xAS (Nat.zero_le _) ?_
  intro i hi
  repeat first|refine sgo ?_|refine sop ?_
  refine cnd (fun h => xAA ?_) (fun h => xAD ?_)
  · have hlt : i < (xAK pv).length := by have h' := of_decide_eq_true h; omega
    obtain ⟨s, hs⟩ : ∃ s, (xAK pv)[i]? = some s := ⟨_, List.getElem?_eq_getElem hlt⟩
    have hmod : (i + 1) % (pv.length + 1) < pv.length + 1 := Nat.mod_lt _ (by omega)
    obtain ⟨u, hu2⟩ : ∃ s, (xAK pv)[(i + 1) % (pv.length + 1)]? = some s := ⟨_, List.getElem?_eq_getElem (by omega)⟩
    have hrem : Int.tmod ((i : Int) + 1) (((pv.map encT).length : Int) + 1) = (((i + 1) % (pv.length + 1) : Nat) : Int) := by
      rw [hmp]
      exact tm (i + 1) (pv.length + 1)
    have hne : (((pv.map encT).length : Int) + 1) ≠ 0 := by omega
    obtain ⟨hc1, hc2, _⟩ := xD0 buf s
    obtain ⟨ho1, ho2⟩ := xGy hlo s
    obtain ⟨h81, h82⟩ := xEs (by decide) (hp8 s (List.mem_of_getElem? hs)) hl8
    have he1 := xHY htb.s hlo s
    have h1 := xEX (q := .sh false (pv.map encT)) Sl.sh (by omega) (by omega) hsz hs
    generalize hgo : (xAf buf s).go = go at *
    generalize hst : (xAf buf s).stay = st at *
    have hstz : ∀ m ∈ st, MsgSz m := fun m hm => MsgSz.of (ho2 m hm) (h82 m hm)
    have hb1 : Tb (go.countP xA9) (allT t go) := (xGT go htb h81).up (by omega)
    obtain ⟨hc3, hc4, _⟩ := xD0 st u
    obtain ⟨ho3, ho4⟩ := xGy ho2 u
    obtain ⟨h83, h84⟩ := xEs (by decide) (hp8 u (List.mem_of_getElem? hu2)) h82
    have he2 := xHY hb1.s ho2 u
    rw [he1] at he2
    have h2 := xEX (q := .sh false (pv.map encT)) Sl.sh (by omega) (by omega) hstz hu2
    generalize (xAf st u).go = go2 at *
    generalize (xAf st u).stay = st2 at *
    have a1 := xEo htb (l := go) (by omega) (by omega) ho1 h81
    have a2 := xEo hb1 (l := st) (by omega) (by omega) ho2 h82
    rw [he1] at a2
    have a3 := xEo hb1 (l := go2) (by omega) (by omega) ho3 h83
    have hb3 : Tb (go.countP xA9 + go2.countP xA9) (allT (allT t go) go2) := xGT go2 hb1 h83
    have a4 := xEo hb3 (l := st2) (by omega) (by omega) ho4 h84
    rw [he2] at a4
    repeat first|refine sgo ?_|refine cf h1 ?_|refine cf a1 ?_|refine cf a2 ?_|refine cv0 hsm ?_|refine sop ?_
    refine cndf (xAA ?_)
    repeat first|refine sgo ?_|refine xCW ?_|refine cf h2 ?_|refine cf a3 ?_|refine cf a4 ?_|refine cv0 hsm ?_|refine sop ?_
    refine cndf (xAA ?_)
    repeat first|refine sgo ?_|refine sop ?_
    exact agn (Q := fun _ _ => True) (i + 1) (by omega) xAS
  · repeat first|refine sgo ?_|refine sop ?_
    exact xAC ⟨.inr rfl, oAny rfl⟩
theorem routeReady_in (l : List (List PV)) (il : InTy (.sl [.int .u8, .int .u8, .int .u8]) (.sh false l)) (l1 : List (List PV)) (il1 : InTy (.sl [.int .u8, .int .u8, .int .u8, .int .u8, .int .u8, .int .u8]) (.sh false l1)) (l2 : List (List PV)) (il2 : InTy (.sl [.int .u8]) (.sh false l2)) :
    VC Tryz.prog 8 [.sh false l, .sh false l1, .sh false l2] [] (.bool true) [] := by
  obtain ⟨xs, rfl, _⟩ := decR il
  obtain ⟨x, rfl, h1, h2⟩ := xU4 il1
  obtain ⟨p, rfl, h3, h4⟩ := xSj il2
  exact xKm h2 h1 h4 h3
end Go.Proofs
