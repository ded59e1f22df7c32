/- Lf -/
import Derived.Test.YtehekbmdfbjoeaaGreatFb
open Go.V Go.Pu
set_option linter.unusedVariables false
set_option linter.unusedSimpArgs false
set_option maxRecDepth 20000
namespace Go.Proofs
def vc6 := vcm Tryz.prog 6
theorem vf6 : VF Tryz.prog 6 = some (106, vc6, [.tmp 4]) := by kernel_rfl
theorem xKH (m : MsgL) : xAn m = (!(m.kind == 3) && !(m.kind == 6)) := by unfold xAn xAk; rw [Bool.not_or]
theorem xJO {l : List MsgL} {i : Nat} {m : MsgL} (hx : l[i]? = some m) : (l.take (i + 1)).countP xAn = (l.take i).countP xAn + if xAn m = true then 1 else 0 := by
  rw [List.take_add_one, hx, Option.toList_some, List.countP_append, List.countP_singleton]
theorem xNl (l : List MsgL) (i : Nat) : (l.take i).countP xAn ≤ i := by
  have := List.countP_le_length (p := xAn) (l := l.take i)
  rw [List.length_take] at this
  omega
set_option maxHeartbeats 4000000 in
theorem xIb {x : List RawM} (hx : x.length ≤ 9223372036854775807) (hr : ∀ r ∈ x, r.ok) {p : List Nat} (hp : p.length ≤ 9223372036854775807) (hu : ∀ n ∈ p, n < 256) :
    VC Tryz.prog 6 [.sh false (x.map encW), .sh false (p.map encU)] [] (.bool true) [] := by
  have hli := xQ2 hx hr 10 (by decide)
  have hsz := xJz (l := x) (n := 10)
  have hln := xNE x 10
  have hwm := list_w (l := x) (n := 10)
  have hwp := xQ0 (l := x) (n := 10)
  have hpi := xH1 hp hu
  have hpl := xJn p
  generalize xDX x 10 = buf at *
  generalize pvM p = pv at *
  have hsl := xCO pv
  have hmp : (pv.map encT).length = pv.length := List.length_map _
  have hmb : (buf.map encM).length = buf.length := List.length_map _
  have hall := xMb hwm hwp
  have hone := xDW (q := .nils) (pv := []) (.inl ⟨rfl, rfl⟩) (by simp) (by omega) hsz (i0 := 0) (s := allS) (by rw [xMk]; rfl)
  rw [hall] at hone
  have hsm := xFZ (a := buf) (by omega)
  refine vcs vf6 ?_
  repeat first|refine sgo ?_|refine cv0 xF2 ?_|refine cf hli ?_|refine cf hpi ?_|refine sop ?_
  refine xAE (fun (g : Nat) => [(5, .bool true), (6, .sh false (buf.map encM)), (7, .sh false (pv.map encT)), (8, .int .i64 g)]) (fun g => []) (fun g => pv.length + 1 - g)
    (fun g => g ≤ pv.length + 1) 0 xAX (Nat.zero_le _) ?_
  intro i hi
  repeat first|refine sgo ?_|refine sop ?_
  refine cnd (fun h => xAB ?_) (fun h => xAD ?_)
  · have hlt : i < (xAK pv).length := by have h' := of_decide_eq_true h; omega
    obtain ⟨s, hs⟩ : ∃ s, (xAK pv)[i]? = some s := ⟨_, List.getElem?_eq_getElem hlt⟩
    have h1 := xDW (q := .sh false (pv.map encT)) Sl.sh (by omega) (by omega) hsz hs
    obtain ⟨hc1, hc2, _⟩ := xF8 buf s
    generalize (xA5 buf s).go = go at *
    generalize (xA5 buf s).stay = st at *
    repeat first|refine sgo ?_|refine cf h1 ?_|refine o_v (vaps encM [] go) ?_|refine o_v (vaps encM go st) ?_|refine sop ?_
    have hct : (go ++ st).countP xAn = buf.countP xAn := by rw [List.countP_append]; exact hc1
    have hal : (go ++ st).length ≤ 3 * buf.length := by rw [List.length_append]; exact hc2
    have hma : ((go ++ st).map encM).length = (go ++ st).length := List.length_map _
    refine xAE (fun (g : Nat) => [(5, .bool true), (6, .sh false (buf.map encM)), (7, .sh false (pv.map encT)), (8, .int .i64 i), (10, .sh false ((go ++ st).map encM)), (11, .int .i64 ((buf.take g).countP xAn : Nat)), (12, .int .i64 g)]) (fun g => []) (fun g => buf.length - g)
      (fun g => g ≤ buf.length) 0 ((Imp.wr (t := 10) rfl (xAP rfl rfl)).trans xAX) (Nat.zero_le _) ?_
    intro j hj
    have hcj := xNl buf j
    repeat first|refine sgo ?_|refine sop ?_
    refine cnd (fun h => xAB ?_) (fun h => xAD ?_)
    · have hlt2 : j < buf.length := by have h' := of_decide_eq_true h; omega
      obtain ⟨m, hm⟩ : ∃ m, buf[j]? = some m := ⟨_, List.getElem?_eq_getElem hlt2⟩
      have hme := gm (enc := encM) (n := (j : Int)) hm (by omega)
      have hlt3 : (j : Int) < ((buf.map encM).length : Nat) := by omega
      have hst := xJO hm
      rw [xKH] at hst
      cases h3 : (!(m.kind == 3)) with
      | true =>
        rw [h3, Bool.true_and] at hst
        repeat first|refine sgo ?_|refine sop ?_
        refine cnd (fun h6 => ?_) (fun h6 => xAB ?_)
        · have h6 : (!(m.kind == 6)) = true := h6
          rw [if_pos h6] at hst
          repeat first|refine sgo ?_|refine sop ?_
          refine agn (Q := fun _ _ => True) (j + 1) (by omega) (xAX (h1 := by refine ⟨rfl, rfl, rfl, rfl, rfl, ?_, rfl, trivial⟩; exact congrArg (fun z => some (PV.int .i64 z)) (by rw [hst]; omega)))
        · have h6 : (!(m.kind == 6)) = false := h6
          rw [if_neg (by rw [h6]; simp)] at hst
          repeat first|refine sgo ?_|refine sop ?_
          refine agn (Q := fun _ _ => True) (j + 1) (by omega) (xAX (h1 := by refine ⟨rfl, rfl, rfl, rfl, rfl, ?_, rfl, trivial⟩; exact congrArg (fun z => some (PV.int .i64 z)) (by rw [hst]; omega)))
      | false =>
        rw [h3, Bool.false_and, if_neg (by simp)] at hst
        repeat first|refine sgo ?_|refine sop ?_
        refine cndf (xAB ?_)
        repeat first|refine sgo ?_|refine sop ?_
        refine agn (Q := fun _ _ => True) (j + 1) (by omega) (xAX (h1 := by refine ⟨rfl, rfl, rfl, rfl, rfl, ?_, rfl, trivial⟩; exact congrArg (fun z => some (PV.int .i64 z)) (by rw [hst]; omega)))
    · have hge : j = buf.length := by have h' := of_decide_eq_false h; omega
      subst hge
      rw [List.take_length, ← hct]
      repeat first|refine sgo ?_|refine sop ?_
      refine xAE (fun (g : Nat) => [(5, .bool true), (6, .sh false (buf.map encM)), (7, .sh false (pv.map encT)), (8, .int .i64 i), (10, .sh false ((go ++ st).map encM)), (11, .int .i64 (((go ++ st).countP xAn : Nat) - (((go ++ st).take g).countP xAn : Nat))), (13, .int .i64 g)]) (fun g => []) (fun g => (go ++ st).length - g)
        (fun g => g ≤ (go ++ st).length) 0 (xAX (h1 := by refine ⟨rfl, rfl, rfl, rfl, rfl, ?_, rfl, trivial⟩; exact congrArg (fun z => some (PV.int .i64 z)) (by simp))) (Nat.zero_le _) ?_
      intro k hk
      have hck := xNl (go ++ st) k
      have hcw : (go ++ st).countP xAn ≤ 10 := by rw [hct]; have := List.countP_le_length (p := xAn) (l := buf); omega
      generalize hal' : go ++ st = al at *
      repeat first|refine sgo ?_|refine sop ?_
      refine cnd (fun h => xAB ?_) (fun h => xAD ?_)
      · have hlt2 : k < al.length := by have h' := of_decide_eq_true h; omega
        obtain ⟨m, hm⟩ : ∃ m, al[k]? = some m := ⟨_, List.getElem?_eq_getElem hlt2⟩
        have hme := gm (enc := encM) (n := (k : Int)) hm (by omega)
        have hlt3 : (k : Int) < ((al.map encM).length : Nat) := by omega
        have hst := xJO hm
        rw [xKH] at hst
        cases h3 : (!(m.kind == 3)) with
        | true =>
          rw [h3, Bool.true_and] at hst
          repeat first|refine sgo ?_|refine sop ?_
          refine cnd (fun h6 => ?_) (fun h6 => xAB ?_)
          · have h6 : (!(m.kind == 6)) = true := h6
            rw [if_pos h6] at hst
            repeat first|refine sgo ?_|refine sop ?_
            refine agn (Q := fun _ _ => True) (k + 1) (by omega) (xAX (h1 := by refine ⟨rfl, rfl, rfl, rfl, rfl, ?_, rfl, trivial⟩; exact congrArg (fun z => some (PV.int .i64 z)) (by rw [hst]; omega)))
          · have h6 : (!(m.kind == 6)) = false := h6
            rw [if_neg (by rw [h6]; simp)] at hst
            repeat first|refine sgo ?_|refine sop ?_
            refine agn (Q := fun _ _ => True) (k + 1) (by omega) (xAX (h1 := by refine ⟨rfl, rfl, rfl, rfl, rfl, ?_, rfl, trivial⟩; exact congrArg (fun z => some (PV.int .i64 z)) (by rw [hst]; omega)))
        | false =>
          rw [h3, Bool.false_and, if_neg (by simp)] at hst
          repeat first|refine sgo ?_|refine sop ?_
          refine cndf (xAB ?_)
          repeat first|refine sgo ?_|refine sop ?_
          refine agn (Q := fun _ _ => True) (k + 1) (by omega) (xAX (h1 := by refine ⟨rfl, rfl, rfl, rfl, rfl, ?_, rfl, trivial⟩; exact congrArg (fun z => some (PV.int .i64 z)) (by rw [hst]; omega)))
      · have hge : k = al.length := by have h' := of_decide_eq_false h; omega
        subst hge
        rw [List.take_length]
        have e1 : (!(((al.countP xAn : Nat) : Int) - ((al.countP xAn : Nat) : Int) == 0)) = false := by rw [Int.sub_self]; rfl
        have e2 : decide (((al.map encM).length : Int) > 3 * ((buf.map encM).length : Int)) = false := decide_eq_false (by omega)
        repeat first|refine sgo ?_|refine sop ?_
        refine cndf (xAB ?_)
        repeat first|refine sgo ?_|refine sop ?_
        exact agn (Q := fun _ _ => True) (i + 1) (by omega) xAX
  · repeat first|refine sgo ?_|refine cf hone ?_|refine cv0 hsm ?_|refine sop ?_
    exact xAC ⟨.inr rfl, oAny rfl⟩
theorem routeStays_in (l : List (List PV)) (il : InTy (.sl [.int .u8, .int .u8, .int .u8, .int .u8, .int .u8, .int .u8]) (.sh false l)) (l2 : List (List PV)) (il2 : InTy (.sl [.int .u8]) (.sh false l2)) :
    VC Tryz.prog 6 [.sh false l, .sh false l2] [] (.bool true) [] := by
  obtain ⟨x, rfl, h1, h2⟩ := xRG il
  obtain ⟨p, rfl, h3, h4⟩ := xRH il2
  exact xIb h2 h1 h4 h3
end Go.Proofs
