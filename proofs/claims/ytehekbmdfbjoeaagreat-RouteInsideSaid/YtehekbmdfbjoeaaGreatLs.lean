/- Ls -/
import Derived.Test.YtehekbmdfbjoeaaGreatTv
open Go.V Go.Pu
set_option linter.unusedVariables false
set_option linter.unusedSimpArgs false
set_option maxRecDepth 20000
namespace Go.Proofs
def vc10 := vcm Tryz.prog 10
theorem vf10 : VF Tryz.prog 10 = some (97, vc10, [.tmp 6]) := by kernel_rfl
theorem list_v {l : List RawM} {n : Nat} : ∀ m ∈ xD5 l n, MsgV m := by
  intro m hm
  obtain ⟨x, _, rfl⟩ := List.mem_map.1 hm
  exact made_v x
theorem Tb.outs {c : Nat} {t : List PairL} (h : Tb c t) (d : List SpanL) : Tb c (outT t d) := h.filter _
set_option maxHeartbeats 4000000 in
theorem xJ7 {xs : List RawL} {x : List RawM} (hx : x.length ≤ 9223372036854775807) (hr : ∀ r ∈ x, r.ok) {p : List Nat} (hp : p.length ≤ 9223372036854775807) (hu : ∀ n ∈ p, n < 256) :
    VC Tryz.prog 10 [.sh false (xs.map encR), .sh false (x.map encW), .sh false (p.map encU)] [] (.bool true) [] := by
  have htv := xGu (xs := xs) 12 (by decide)
  have htb := xGt xs
  have hli := xUi hx hr 10 (by decide)
  have hsz := xMH (l := x) (n := 10)
  have hln := xNF x 10
  have hlo := xJ1 (l := x) (n := 10)
  have hlv := list_v (l := x) (n := 10)
  have hl8 := xG8 (l := x) (n := 10)
  have hlc := xJ2 x 10
  have hpi := xG1 hp hu
  have hpl := xJl p
  have hp8 := xG0 (l := p)
  generalize xBl xs 12 = t at *
  generalize xD5 x 10 = buf at *
  generalize pvM p = pv at *
  have hsp := xO2 (pv := pv) (by omega)
  have hsl := xCV pv
  have hml : ((xAK pv).map encS).length = (xAK pv).length := List.length_map _
  refine vcs vf10 ?_
  repeat first|refine sgo ?_|refine cv0 xEO ?_|refine cf htv ?_|refine cf hli ?_|refine cf hpi ?_|refine cf hsp ?_|refine sop ?_
  refine xAE (fun (g : Nat) => [(7, .bool true), (8, .sh false (t.map encP)), (9, .sh false (buf.map encM)), (10, .sh false (pv.map encT)), (11, .sh false ((xAK pv).map encS)), (12, .int .i64 g)]) (fun g => []) (fun g => (xAK pv).length - g)
    (fun g => g ≤ (xAK pv).length) 0 xAS (Nat.zero_le _) ?_
  intro i hi
  repeat first|refine sgo ?_|refine sop ?_
  refine cnd (fun h => xAA ?_) (fun h => xAD ?_)
  · have hlt : i < (xAK pv).length := by have h' := of_decide_eq_true h; omega
    obtain ⟨s, hs⟩ : ∃ s, (xAK pv)[i]? = some s := ⟨_, List.getElem?_eq_getElem hlt⟩
    have hse := gm (enc := encS) (n := (i : Int)) hs (by omega)
    have hlt2 : (i : Int) < (((xAK pv).map encS).length : Nat) := by omega
    have hs8 := hp8 s (List.mem_of_getElem? hs)
    have hsv : s.lo.length ≤ 65535 ∧ s.hi.length ≤ 65535 := ⟨by omega, by omega⟩
    obtain ⟨hc1, hc2, _⟩ := xD0 buf s
    obtain ⟨ho1, ho2⟩ := xGy hlo s
    obtain ⟨h81, h82⟩ := xEs (by decide) hs8 hl8
    obtain ⟨hv1, _⟩ := xPS (P := fun m => MsgLen 8 m ∧ MsgV m) (s := s) (fun m q r h1 h2 => ⟨xHe (by decide) hs8 h1.1 h2, part_v (n := 8) hsv ⟨by have := h1.1.lo; omega, by have := h1.1.hi; omega⟩ h1.2 h2⟩) (fun m q h1 h2 => ⟨xLG (by decide) hs8 h1.1 h2, left_v hsv ⟨by have := h1.1.lo; omega, by have := h1.1.hi; omega⟩ h1.2 h2⟩) (l := buf) fun m hm => ⟨hl8 m hm, hlv m hm⟩
    have hlie := fun m hm => xN7 (p := m) hlo s hm
    have hwo := xJj htb.s hlo s
    have hag := xLz buf s
    have h1 := xEX (q := .sh false (pv.map encT)) Sl.sh (by omega) (by omega) hsz hs
    have hstz : ∀ m ∈ (xAf buf s).stay, MsgSz m := fun m hm => MsgSz.of (ho2 m hm) (h82 m hm)
    have h2 := xEX (q := .sh false (pv.map encT)) Sl.sh (by omega) (by omega) hstz hs
    rw [hag] at h2
    generalize (xAf buf s).go = go at *
    generalize (xAf buf s).stay = st at *
    have w1 := xEo htb (l := go) (by omega) (by omega) ho1 h81
    have hgt : Tb 10 (allT t go) := (xGT go htb h81).up (by omega)
    have w2 := xF1 (t := allT t go) (d := [s]) (by have := hgt.l (by decide); omega) (by simp)
    rw [hwo] at w2
    have w3 := xF1 (t := t) (d := [s]) (by have := htb.l (by decide); omega) (by simp)
    have w4 := xGv (htb.outs [s]) (by decide)
    have w5 := xJg (a := st) (by omega)
    have hmg : (go.map encM).length = go.length := List.length_map _
    repeat first|refine sgo ?_|refine cf h1 ?_|refine sop ?_
    refine xAE (fun (g : Nat) => [(7, .bool true), (8, .sh false (t.map encP)), (9, .sh false (buf.map encM)), (10, .sh false (pv.map encT)), (11, .sh false ((xAK pv).map encS)), (12, .int .i64 i), (13, .ptr ⟨1, 57376⟩ 1 0 0), (14, .int .i64 g)])
      (fun g => [(⟨1, 57376⟩, ⟨true, false, 3, [[.sh false (go.map encM), .sh false (st.map encM), .nils]]⟩)]) (fun g => go.length - g) (fun g => g ≤ go.length) 0 xAS (Nat.zero_le _) ?_
    intro k hk
    repeat first|refine sgo ?_|refine sop ?_
    refine cnd (fun h => xAA ?_) (fun h => xAD ?_)
    · have hltk : k < go.length := by have h' := of_decide_eq_true h; omega
      obtain ⟨m, hm⟩ : ∃ m, go[k]? = some m := ⟨_, List.getElem?_eq_getElem hltk⟩
      have hme := gm (enc := encM) (n := (k : Int)) hm (by omega)
      have hltk2 : (k : Int) < ((go.map encM).length : Nat) := by omega
      have hmem := List.mem_of_getElem? hm
      have v1 := xRQ (ho1 m hmem) (hv1 m hmem).2
      have v2 := xMn (MsgSz.of (ho1 m hmem) (h81 m hmem)) s
      rw [hlie m hmem] at v2
      repeat first|refine sgo ?_|refine cv0 v1 ?_|refine cv0 v2 ?_|refine sop ?_
      refine cndf (xAA ?_)
      repeat first|refine sgo ?_|refine sop ?_
      exact agn (Q := fun _ _ => True) (k + 1) (by omega) xAS
    · repeat first|refine sgo ?_|refine cf w1 ?_|refine cf w2 ?_|refine cf w3 ?_|refine cv0 w4 ?_|refine sop ?_
      refine cndf (xAA ?_)
      repeat first|refine sgo ?_|refine cf h2 ?_|refine cv0 w5 ?_|refine sop ?_
      refine cndf (xAA ?_)
      repeat first|refine sgo ?_|refine sop ?_
      exact agn (Q := fun _ _ => True) (i + 1) (by omega) xAS
  · repeat first|refine sgo ?_|refine sop ?_
    exact xAC ⟨.inr rfl, oAny rfl⟩
theorem routeInside_in (l : List (List PV)) (il : InTy (.sl [.int .u8, .int .u8, .int .u8]) (.sh false l)) (l1 : List (List PV)) (il1 : InTy (.sl [.int .u8, .int .u8, .int .u8, .int .u8, .int .u8, .int .u8]) (.sh false l1)) (l2 : List (List PV)) (il2 : InTy (.sl [.int .u8]) (.sh false l2)) :
    VC Tryz.prog 10 [.sh false l, .sh false l1, .sh false l2] [] (.bool true) [] := by
  obtain ⟨xs, rfl, _⟩ := decR il
  obtain ⟨x, rfl, h1, h2⟩ := xU4 il1
  obtain ⟨p, rfl, h3, h4⟩ := xSj il2
  exact xJ7 h2 h1 h4 h3
end Go.Proofs
