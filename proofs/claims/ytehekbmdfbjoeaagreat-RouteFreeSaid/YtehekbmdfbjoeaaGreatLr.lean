/- Lr -/
import Derived.Test.YtehekbmdfbjoeaaGreatTb
open Go.V Go.Pu
set_option linter.unusedVariables false
set_option linter.unusedSimpArgs false
set_option maxRecDepth 20000
namespace Go.Proofs
def vc9 := vcm Tryz.prog 9
theorem vf9 : VF Tryz.prog 9 = some (98, vc9, [.tmp 6]) := by kernel_rfl
theorem xOO {t : List MsgL} {i : Nat} {y : MsgL} (f : MsgL → Bool) (hy : t[i]? = some y) : (t.take (i + 1)).filter f = if f y = true then (t.take i).filter f ++ [y] else (t.take i).filter f := by
  rw [List.take_add_one, hy, Option.toList_some, List.filter_append]
  cases h : f y <;> simp [h]
set_option maxHeartbeats 4000000 in
theorem xMJ {xs : List RawL} {x : List RawM} (hx : x.length ≤ 9223372036854775807) (hr : ∀ r ∈ x, r.ok) {p : List Nat} (hp : p.length ≤ 9223372036854775807) (hu : ∀ n ∈ p, n < 256) :
    VC Tryz.prog 9 [.sh false (xs.map encR), .sh false (x.map encW), .sh false (p.map encU)] [] (.bool true) [] := by
  have htv := xGu (xs := xs) 12 (by decide)
  have htb := xGt xs
  have hli := xUi hx hr 10 (by decide)
  have hsz := xMH (l := x) (n := 10)
  have hln := xNF x 10
  have hlo := xJ1 (l := x) (n := 10)
  have hl8 := xG8 (l := x) (n := 10)
  have hlc := xJ2 x 10
  have hpi := xG1 hp hu
  have hpl := xJl p
  have hp8 := xG0 (l := p)
  have ha := xPX p
  generalize xBl xs 12 = t at *
  generalize xD5 x 10 = all at *
  generalize pvM p = pv at *
  have hsp := xO2 (pv := pv) (by omega)
  have hsl := xCV pv
  have hml : ((xAK pv).map encS).length = (xAK pv).length := List.length_map _
  have hma : (all.map encM).length = all.length := List.length_map _
  refine vcs vf9 ?_
  repeat first|refine sgo ?_|refine cv0 xEO ?_|refine cf htv ?_|refine cf hli ?_|refine cf hpi ?_|refine sop ?_
  refine xAE (fun (g : Nat × List MsgL) => [(7, .bool true), (8, .sh false (t.map encP)), (9, .sh false (all.map encM)), (10, .sh false (pv.map encT)), (11, ownV ⟨1, 24576⟩ (g.2.map encM)), (12, .int .i64 g.1)]) (fun g => [(⟨1, 24576⟩, blkV 8 (g.2.map encM))]) (fun g => all.length - g.1)
    (fun g => g.1 ≤ all.length ∧ g.2.length ≤ g.1 ∧ g.2 = (all.take g.1).filter fun m => !xFF m pv) (0, []) xAS ⟨Nat.zero_le _, Nat.le_refl _, rfl⟩ ?_
  rintro ⟨i, o⟩ ⟨hi, hol, ho⟩
  dsimp only at hi hol ho ⊢
  repeat first|refine sgo ?_|refine sop ?_
  refine cnd (fun h => xAA ?_) (fun h => xAD ?_)
  · have hlt : i < all.length := by have h' := of_decide_eq_true h; omega
    obtain ⟨m, hm⟩ : ∃ m, all[i]? = some m := ⟨_, List.getElem?_eq_getElem hlt⟩
    have hme := gm (enc := encM) (n := (i : Int)) hm (by omega)
    have hlt2 : (i : Int) < ((all.map encM).length : Nat) := by omega
    have hmz := hsz m (List.mem_of_getElem? hm)
    have h2 := xL0 hmz (q := .sh false (pv.map encT)) Sl.sh (by omega)
    have hst := xOO (fun m => !xFF m pv) hm
    rw [← ho] at hst
    repeat first|refine sgo ?_|refine cv0 h2 ?_|refine sop ?_
    refine cnd (fun h => ?_) (fun h => xAA ?_)
    · rw [if_pos h] at hst
      repeat first|refine sgo ?_|refine o_v (vap encM m) ?_|refine sop ?_
      exact agn (Q := fun _ _ => True) (i + 1, o ++ [m]) ⟨by simp only; omega, by simp only [List.length_append, List.length_cons, List.length_nil]; omega, hst.symm⟩ xAS
    · rw [if_neg (by simp [h])] at hst
      repeat first|refine sgo ?_|refine sop ?_
      exact agn (Q := fun _ _ => True) (i + 1, o) ⟨by simp only; omega, by simp only; omega, hst.symm⟩ xAS
  · have hge : i = all.length := by have h' := of_decide_eq_false h; omega
    subst hge
    rw [List.take_length] at ho
    have hsub : ∀ m ∈ o, m ∈ all ∧ xDr m pv = false := fun m hm => by
      rw [ho] at hm
      obtain ⟨a, b⟩ := List.mem_filter.1 hm
      rw [xNh ha]
      exact ⟨a, by simpa using b⟩
    have hoz : ∀ m ∈ o, MsgSz m := fun m hm => hsz m (hsub m hm).1
    have hoo : ∀ m ∈ o, MsgOk m := fun m hm => hlo m (hsub m hm).1
    have ho8 : ∀ m ∈ o, MsgLen 8 m := fun m hm => hl8 m (hsub m hm).1
    have hoc : o.countP xA9 ≤ 10 := by have := List.countP_le_length (p := xA9) (l := o); omega
    have hal := xRs htb (l := o) (by omega) (by omega) hoo ho8
    have hwt : Tb 10 (allT t o) := (xGT o htb ho8).up (by omega)
    repeat first|refine sgo ?_|refine cf hsp ?_|refine cf hal ?_|refine sop ?_
    refine xAE (fun (g : Nat) => [(7, .bool true), (8, .sh false (t.map encP)), (10, .sh false (pv.map encT)), (11, .sh false (o.map encM)), (13, .sh false ((xAK pv).map encS)), (14, .sh false ((allT t o).map encP)), (15, .int .i64 g)]) (fun g => []) (fun g => (xAK pv).length - g)
      (fun g => g ≤ (xAK pv).length) 0 ((Imp.wr (t := 11) rfl (xAa rfl rfl)).trans xAS) (Nat.zero_le _) ?_
    intro i hi
    repeat first|refine sgo ?_|refine sop ?_
    refine cnd (fun h => xAA ?_) (fun h => xAD ?_)
    · have hlt : i < (xAK pv).length := by have h' := of_decide_eq_true h; omega
      obtain ⟨s, hs⟩ : ∃ s, (xAK pv)[i]? = some s := ⟨_, List.getElem?_eq_getElem hlt⟩
      have hse := gm (enc := encS) (n := (i : Int)) hs (by omega)
      have hlt2 : (i : Int) < (((xAK pv).map encS).length : Nat) := by omega
      obtain ⟨hc1, hc2, _⟩ := xD0 o s
      obtain ⟨ho1, ho2⟩ := xGy hoo s
      obtain ⟨h81, h82⟩ := xEs (by decide) (hp8 s (List.mem_of_getElem? hs)) ho8
      obtain ⟨he1, he2⟩ := xN8 htb.s fun m hm => ⟨hoo m hm, xM3 ha (hsub m hm).2 hs⟩
      have h1 := xEX (q := .sh false (pv.map encT)) Sl.sh (by omega) (by omega) hoz hs
      generalize (xAf o s).go = go at *
      generalize (xAf o s).stay = st at *
      have w1 := xKu (t := t) (d := [s]) (by have := htb.l (by decide); omega) (by simp)
      have w2 := xEo (htb.ins [s]) (l := go) (by omega) (by omega) ho1 h81
      rw [he1] at w2
      have w3 := xKu (t := allT t o) (d := [s]) (by have := hwt.l (by decide); omega) (by simp)
      have w4 := xGv (hwt.ins [s]) (by decide)
      have hms : (st.map encM).length = st.length := List.length_map _
      repeat first|refine sgo ?_|refine cf h1 ?_|refine sop ?_
      refine xAE (fun (g : Nat) => [(7, .bool true), (8, .sh false (t.map encP)), (10, .sh false (pv.map encT)), (11, .sh false (o.map encM)), (13, .sh false ((xAK pv).map encS)), (14, .sh false ((allT t o).map encP)), (15, .int .i64 i), (16, ownV ⟨1, 106528⟩ ([s].map encS)), (17, .ptr ⟨1, 106568⟩ 1 0 0), (18, .int .i64 g)])
        (fun g => [(⟨1, 106528⟩, blkV 2 ([s].map encS)), (⟨1, 106568⟩, ⟨true, false, 3, [[.sh false (go.map encM), .sh false (st.map encM), .nils]]⟩)]) (fun g => st.length - g) (fun g => g ≤ st.length) 0 xAS (Nat.zero_le _) ?_
      intro k hk
      repeat first|refine sgo ?_|refine sop ?_
      refine cnd (fun h => xAA ?_) (fun h => xAD ?_)
      · have hltk : k < st.length := by have h' := of_decide_eq_true h; omega
        obtain ⟨m, hm⟩ : ∃ m, st[k]? = some m := ⟨_, List.getElem?_eq_getElem hltk⟩
        have hme := gm (enc := encM) (n := (k : Int)) hm (by omega)
        have hltk2 : (k : Int) < ((st.map encM).length : Nat) := by omega
        have hmem := List.mem_of_getElem? hm
        have h3 := xG3 (MsgSz.of (ho2 m hmem) (h82 m hmem)) s
        rw [he2 m hmem] at h3
        repeat first|refine sgo ?_|refine cf h3 ?_|refine sop ?_
        refine cndf (xAA ?_)
        repeat first|refine sgo ?_|refine sop ?_
        exact agn (Q := fun _ _ => True) (k + 1) (by omega) xAS
      · repeat first|refine sgo ?_|refine cf w1 ?_|refine cf w2 ?_|refine cf w3 ?_|refine cv0 w4 ?_|refine sop ?_
        refine cndf (xAA ?_)
        repeat first|refine sgo ?_|refine sop ?_
        exact agn (Q := fun _ _ => True) (i + 1) (by omega) xAS
    · repeat first|refine sgo ?_|refine sop ?_
      exact xAC ⟨.inr rfl, oAny rfl⟩
theorem routeFree_in (l : List (List PV)) (il : InTy (.sl [.int .u8, .int .u8, .int .u8]) (.sh false l)) (l1 : List (List PV)) (il1 : InTy (.sl [.int .u8, .int .u8, .int .u8, .int .u8, .int .u8, .int .u8]) (.sh false l1)) (l2 : List (List PV)) (il2 : InTy (.sl [.int .u8]) (.sh false l2)) :
    VC Tryz.prog 9 [.sh false l, .sh false l1, .sh false l2] [] (.bool true) [] := by
  obtain ⟨xs, rfl, _⟩ := decR il
  obtain ⟨x, rfl, h1, h2⟩ := xU4 il1
  obtain ⟨p, rfl, h3, h4⟩ := xSj il2
  exact xMJ h2 h1 h4 h3
end Go.Proofs
