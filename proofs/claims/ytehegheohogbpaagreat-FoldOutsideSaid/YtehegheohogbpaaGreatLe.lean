/- Le -/
import Derived.Test.YtehegheohogbpaaGreatTb
open Go.V Go.Pu
set_option linter.unusedVariables false
set_option linter.unusedSimpArgs false
set_option maxRecDepth 20000
namespace Go.Proofs
def vc7 := vcm Tryz.prog 7
theorem vf7 : VF Tryz.prog 7 = some (56, vc7, [.tmp 6]) := by kernel_rfl
theorem xKo {w : List MsgL} {i : Nat} {m : MsgL} (h : w[i]? = some m) : (w.take (i + 1)).flatMap xAR = (w.take i).flatMap xAR ++ xAR m := by
  rw [List.take_add_one, h, Option.toList_some, List.flatMap_append]; simp
set_option maxHeartbeats 4000000 in
theorem xH2 (ts : List RawL) {xs ys : List RawM} (hx1 : xs.length ≤ 9223372036854775807) (hx2 : ∀ r ∈ xs, r.ok) (hy1 : ys.length ≤ 9223372036854775807) (hy2 : ∀ r ∈ ys, r.ok) : VC Tryz.prog 7 [.sh false (ts.map encR), .sh false (xs.map encW), .sh false (ys.map encW)] [] (.bool true) [] := by
  have hss := xE7
  have m1 := xOj ts
  have tb := xD8 ts
  generalize xFG ts = t at m1 tb
  have l1 := xM8 hx1 hx2 14 (by omega)
  have n1 := xIQ xs 14
  have s1 : ∀ m ∈ xBX xs 14, MsgSz m := xFh
  have o1 : ∀ m ∈ xBX xs 14, MsgOk m := fun m hm => xFi m hm
  have e1 : ∀ m ∈ xBX xs 14, MsgLen 8 m := fun m hm => xES m hm
  have l2 := xM8 hy1 hy2 4 (by omega)
  have n2 := xIQ ys 4
  have s2 : ∀ m ∈ xBX ys 4, MsgSz m := xFh
  generalize xBX xs 14 = l at l1 n1 s1 o1 e1
  generalize xBX ys 4 = w at l2 n2 s2
  have b1 := xMm (n := 14) tb (by decide) (by decide) n1 (by decide) e1
  have hmw : (w.map encM).length = w.length := List.length_map _
  refine vcs vf7 ?_
  repeat first|refine sgo ?_|refine cv0 hss ?_|refine cf m1 ?_|refine cf l1 ?_|refine cf l2 ?_|refine sop ?_
  refine xAF (fun (g : Nat × List SpanL) => [(7, .bool true), (8, .sh false (t.map encP)), (9, .sh false (l.map encM)), (10, ownV ⟨1, 32768⟩ (g.2.map encS)), (11, .sh false (w.map encM)), (12, .int .i64 g.1)])
    (fun g => [(⟨1, 32768⟩, blkV 2 (g.2.map encS))]) (fun g => w.length - g.1) (fun g => g.1 ≤ w.length ∧ g.2.length ≤ 2 * g.1 ∧ g.2 = (w.take g.1).flatMap xAR) (0, []) goes ⟨Nat.zero_le _, Nat.zero_le _, rfl⟩ ?_
  rintro ⟨i, d⟩ ⟨hi, hdl, hd⟩
  dsimp only at hi hdl hd ⊢
  repeat first|refine sgo ?_|refine sop ?_
  refine cnd (fun h => xAB ?_) (fun h => xAE ?_)
  · have hlt : i < w.length := by have h' := of_decide_eq_true h; omega
    obtain ⟨m, hx⟩ : ∃ m, w[i]? = some m := ⟨_, List.getElem?_eq_getElem hlt⟩
    have hxe := gm (enc := encM) (n := (i : Int)) hx (by omega)
    have hw := xEN (s2 m (List.mem_of_getElem? hx))
    have hwl := xDF m
    have hst := xKo hx
    rw [← hd] at hst
    repeat first|refine sgo ?_|refine cf hw ?_|refine o_v (vaps encS d (xAR m)) ?_|refine sop ?_
    exact agn (Q := fun _ _ => True) (i + 1, d ++ xAR m) ⟨by simp only; omega, by simp only [List.length_append]; omega, hst.symm⟩ goes
  have hge : i = w.length := by have h' := of_decide_eq_false h; omega
  subst hge
  have hd50 : d.length ≤ 50 := by omega
  clear hd
  have v1 := xJB (l := l) (q := .sh false (d.map encS)) (dead := d) Sl.sh (by omega) s1 hd50
  have hsub : (xBV l d).1.Sublist l := xMA l d
  have k1 := hsub.length_le
  have hlo := xQm tb.s o1 d
  generalize (xBV l d).1 = r at v1 hsub k1 hlo
  have b2 := xMm (n := 14) tb (by decide) (by decide) (Nat.le_trans k1 n1) (by decide) (xCZ hsub e1)
  have a1 := xDp (n := 14) tb (by decide) (by decide) n1 (by decide) (by decide) o1 e1
  have a2 := xDp (n := 14) tb (by decide) (by decide) (Nat.le_trans k1 n1) (by decide) (by decide) (xF0 hsub o1) (xCZ hsub e1)
  have p1 := xK3 (t := allT t l) (d := d) (Nat.le_trans b1.l (by decide)) (by omega)
  have p2 := xK3 (t := allT t r) (d := d) (Nat.le_trans b2.l (by decide)) (by omega)
  rw [← hlo] at p2
  have q1 := xIt (t := outT (allT t l) d) (Nat.le_trans (List.length_filter_le ..) (Nat.le_trans b1.l (by decide)))
  generalize outT (allT t l) d = o at p1 p2 q1
  generalize allT t l = w1 at a1 p1
  generalize allT t r = w2 at a2 p2
  repeat first|refine sgo ?_|refine cf v1 ?_|refine cf a1 ?_|refine cf p1 ?_|refine cf a2 ?_|refine cf p2 ?_|refine cv0 q1 ?_|refine sop ?_
  exact xAC ⟨.inr rfl, oB rfl⟩
theorem foldOutside_in (t : List (List PV)) (it : InTy (.sl [.int .u8, .int .u8, .int .u8]) (.sh false t)) (l : List (List PV)) (il : InTy (.sl [.int .u8, .int .u8, .int .u8, .int .u8, .int .u8, .int .u8]) (.sh false l)) (l2 : List (List PV)) (il2 : InTy (.sl [.int .u8, .int .u8, .int .u8, .int .u8, .int .u8, .int .u8]) (.sh false l2)) : VC Tryz.prog 7 [.sh false t, .sh false l, .sh false l2] [] (.bool true) [] := by
  obtain ⟨ts, rfl, _⟩ := decR it
  obtain ⟨a, rfl, h1, h2⟩ := xNI il
  obtain ⟨b, rfl, h3, h4⟩ := xNI il2
  exact xH2 ts h2 h1 h4 h3
end Go.Proofs
