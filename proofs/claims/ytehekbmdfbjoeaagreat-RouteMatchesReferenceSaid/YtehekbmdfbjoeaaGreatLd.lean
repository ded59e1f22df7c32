/- Ld -/
import Derived.Test.YtehekbmdfbjoeaaGreatFb
open Go.V Go.Pu
set_option linter.unusedVariables false
set_option linter.unusedSimpArgs false
set_option maxRecDepth 20000
namespace Go.Proofs
def vc3 := vcm Tryz.prog 3
theorem vf3 : VF Tryz.prog 3 = some (90, vc3, [.tmp 6]) := by kernel_rfl
theorem spansC {pv : List Str} (hl : pv.length ≤ 1000000) : VC Tryz.prog 14 [.sh false (pv.map encT)] [] (.sh false ((xAK pv).map encS)) [] := xDn (xFY Sl.sh hl) (xAP rfl rfl)
set_option maxHeartbeats 4000000 in
theorem xIz {x : List RawM} (hx : x.length ≤ 9223372036854775807) (hr : ∀ r ∈ x, r.ok) {p : List Nat} (hp : p.length ≤ 9223372036854775807) (hu : ∀ n ∈ p, n < 256) (k : Str) :
    VC Tryz.prog 3 [.sh false (x.map encW), .sh false (p.map encU), .str k] [] (.bool true) [] := by
  have hli := xQ2 hx hr 10 (by decide)
  have hsz := xJz (l := x) (n := 10)
  have hln := xNE x 10
  have hpi := xH1 hp hu
  have ha := xMe p
  have hpl := xJn p
  generalize xDX x 10 = buf at *
  generalize pvM p = pv at *
  have hsp := spansC (pv := pv) (by omega)
  have hk := xPn (q := .sh false (pv.map encT)) k ha Sl.sh (by omega)
  have hrk := xQY (q := .sh false (pv.map encT)) k ha Sl.sh (by omega)
  have hsl := xCO pv
  have hml : ((xAK pv).map encS).length = (xAK pv).length := List.length_map _
  have hmb : (buf.map encM).length = buf.length := List.length_map _
  refine vcs vf3 ?_
  repeat first|refine sgo ?_|refine cv0 xF2 ?_|refine cf hli ?_|refine cf hpi ?_|refine cf hsp ?_|refine cv0 hk ?_|refine cv0 hrk ?_|refine sop ?_
  refine cnd (fun h => ?_) (fun h => xAB ?_)
  · simp at h
  repeat first|refine sgo ?_|refine sop ?_
  refine xAE (fun (g : Nat) => [(7, .bool true), (8, .sh false (buf.map encM)), (9, .sh false (pv.map encT)), (10, .sh false ((xAK pv).map encS)), (11, .int .i64 g)]) (fun g => []) (fun g => (xAK pv).length - g)
    (fun g => g ≤ (xAK pv).length) 0 xAX (Nat.zero_le _) ?_
  intro i hi
  repeat first|refine sgo ?_|refine sop ?_
  refine cnd (fun h => xAB ?_) (fun h => xAD ?_)
  · have hlt : i < (xAK pv).length := by have h' := of_decide_eq_true h; omega
    obtain ⟨s, hs⟩ : ∃ s, (xAK pv)[i]? = some s := ⟨_, List.getElem?_eq_getElem hlt⟩
    have h1 := xDW (q := .sh false (pv.map encT)) Sl.sh (by omega) (by omega) hsz hs
    have h2 := xMX (q := .sh false (pv.map encT)) Sl.sh (by omega) (by omega) hsz hs
    obtain ⟨_, hc1, _⟩ := xF8 buf s
    have h3 := xQU (a := (xA5 buf s).go) (b := (xA5 buf s).stay) (d := (xA5 buf s).blk) (by omega) (by omega)
    repeat first|refine sgo ?_|refine cf h1 ?_|refine cf h2 ?_|refine cv0 h3 ?_|refine sop ?_
    refine cndf (xAB ?_)
    repeat first|refine sgo ?_|refine sop ?_
    exact agn (Q := fun _ _ => True) (i + 1) (by omega) xAX
  · repeat first|refine sgo ?_|refine sop ?_
    refine xAE (fun (g : Nat) => [(7, .bool true), (8, .sh false (buf.map encM)), (9, .sh false (pv.map encT)), (10, .sh false ((xAK pv).map encS)), (12, .int .i64 g)]) (fun g => []) (fun g => buf.length - g)
      (fun g => g ≤ buf.length) 0 xAX (Nat.zero_le _) ?_
    intro i hi
    repeat first|refine sgo ?_|refine sop ?_
    refine cnd (fun h => xAB ?_) (fun h => xAD ?_)
    · have hlt : i < buf.length := by have h' := of_decide_eq_true h; omega
      obtain ⟨m, hm⟩ : ∃ m, buf[i]? = some m := ⟨_, List.getElem?_eq_getElem hlt⟩
      have hme := gm (enc := encM) (n := (i : Int)) hm (by omega)
      have hmz := hsz m (List.mem_of_getElem? hm)
      have h1 := xHg hmz (q := .sh false (pv.map encT)) ha Sl.sh (by omega)
      have h2 := xJm hmz (q := .sh false (pv.map encT)) Sl.sh (by omega)
      rw [← xLD ha] at h2
      repeat first|refine sgo ?_|refine cv0 h1 ?_|refine cv0 h2 ?_|refine sop ?_
      refine cnd (fun h => ?_) (fun h => xAB ?_)
      · simp at h
      repeat first|refine sgo ?_|refine sop ?_
      refine xAE (fun (g : Nat) => [(7, .bool true), (8, .sh false (buf.map encM)), (9, .sh false (pv.map encT)), (10, .sh false ((xAK pv).map encS)), (12, .int .i64 i), (13, .int .i64 g)]) (fun g => []) (fun g => (xAK pv).length - g)
        (fun g => g ≤ (xAK pv).length) 0 xAX (Nat.zero_le _) ?_
      intro j hj
      repeat first|refine sgo ?_|refine sop ?_
      refine cnd (fun h => xAB ?_) (fun h => xAD ?_)
      · have hlt2 : j < (xAK pv).length := by have h' := of_decide_eq_true h; omega
        obtain ⟨s, hs⟩ : ∃ s, (xAK pv)[j]? = some s := ⟨_, List.getElem?_eq_getElem hlt2⟩
        have hse := gm (enc := encS) (n := (j : Int)) hs (by omega)
        have h3 := xFe hmz s
        have h4 := xKP hmz s
        rw [← xJp] at h4
        have hpn := xOa m s
        have h5 := xFZ (a := xB4 m s) (by omega)
        repeat first|refine sgo ?_|refine cf h3 ?_|refine cf h4 ?_|refine cv0 h5 ?_|refine sop ?_
        refine cndf (xAB ?_)
        repeat first|refine sgo ?_|refine sop ?_
        exact agn (Q := fun _ _ => True) (j + 1) (by omega) xAX
      · repeat first|refine sgo ?_|refine sop ?_
        exact agn (Q := fun _ _ => True) (i + 1) (by omega) xAX
    · repeat first|refine sgo ?_|refine sop ?_
      exact xAC ⟨.inr rfl, oAny rfl⟩
theorem routeMatches_in (l : List (List PV)) (il : InTy (.sl [.int .u8, .int .u8, .int .u8, .int .u8, .int .u8, .int .u8]) (.sh false l)) (l2 : List (List PV)) (il2 : InTy (.sl [.int .u8]) (.sh false l2)) (k : Str) (hk : k.length ≤ maxLen) :
    VC Tryz.prog 3 [.sh false l, .sh false l2, .str k] [] (.bool true) [] := by
  obtain ⟨x, rfl, h1, h2⟩ := xRG il
  obtain ⟨p, rfl, h3, h4⟩ := xRH il2
  exact xIz h2 h1 h4 h3 k
end Go.Proofs
