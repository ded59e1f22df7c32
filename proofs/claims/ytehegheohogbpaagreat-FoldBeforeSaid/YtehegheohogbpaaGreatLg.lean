/- Lg -/
import Derived.Test.YtehegheohogbpaaGreatTb
open Go.V Go.Pu
set_option linter.unusedVariables false
set_option linter.unusedSimpArgs false
set_option maxRecDepth 20000
namespace Go.Proofs
def vc9 := vcm Tryz.prog 9
theorem vf9 : VF Tryz.prog 9 = some (50, vc9, [.tmp 6]) := by kernel_rfl
set_option maxHeartbeats 4000000 in
theorem xJW (ts us : List RawL) {xs : List RawM} (hx1 : xs.length ≤ 9223372036854775807) (hx2 : ∀ r ∈ xs, r.ok) : VC Tryz.prog 9 [.sh false (ts.map encR), .sh false (us.map encR), .sh false (xs.map encW)] [] (.bool true) [] := by
  have hss := xE7
  have m1 := xOj ts
  have tb := xD8 ts
  have m2 := xOj us
  have ub := xD8 us
  generalize xFG ts = t at m1 tb
  generalize xFG us = u at m2 ub
  have l1 := xM8 hx1 hx2 14 (by omega)
  have n1 := xIQ xs 14
  have s1 : ∀ m ∈ xBX xs 14, MsgSz m := xFh
  have o1 : ∀ m ∈ xBX xs 14, MsgOk m := fun m hm => xFi m hm
  have e1 : ∀ m ∈ xBX xs 14, MsgLen 8 m := fun m hm => xES m hm
  generalize xBX xs 14 = l at l1 n1 s1 o1 e1
  have v1 := xJB (l := l) (q := .nils) (dead := []) (.inl ⟨rfl, rfl⟩) (by omega) s1 (by simp)
  have hsub : (xBV l []).1.Sublist l := xMA l []
  have k1 := hsub.length_le
  have hd := xPA l
  have hlo := xM7 tb.s ub.s o1
  have hos := xJ0 tb.s ub.s (xBV l []).2
  have hra : allT t (xBV l []).1 = allT t l := xB8 tb.s o1
  have hrb : allT (xF5 t u (xBV l []).2) (xBV l []).1 = allT (xF5 t u (xBV l []).2) l := xB8 hos o1
  generalize (xBV l []).2 = d at v1 hd hlo hos hrb
  generalize (xBV l []).1 = r at v1 hsub k1 hra hrb
  have tl := tb.l
  have ul := ub.l
  have p1 := xK3 (t := t) (d := d) (by omega) (by omega)
  have p2 := pin_vc (t := u) (d := d) (by omega) (by omega)
  have pl1 : (outT t d).length ≤ t.length := List.length_filter_le ..
  have pl2 : (inT u d).length ≤ u.length := List.length_filter_le ..
  have p3 := xDl (xLb (q := .sh false ((outT t d).map encP)) (p := .sh false ((inT u d).map encP)) Sl.sh Sl.sh (by omega) (by omega))
  have pe : xAp (outT t d) (inT u d) = xF5 t u d := rfl
  rw [pe] at p3
  have ob : TabOk 80 20 (xF5 t u d) := by
    refine ⟨hos, ?_, ?_⟩
    · have := xDH (outT t d) (inT u d)
      rw [pe] at this; omega
    · intro p hp
      rcases xCL _ _ hp with h | h
      · exact tb.k p (List.mem_filter.1 h).1
      · exact ub.k p (List.mem_filter.1 h).1
  have b1 := xMm (n := 14) tb (by decide) (by decide) n1 (by decide) e1
  have a1 := xDp (n := 14) tb (by decide) (by decide) n1 (by decide) (by decide) o1 e1
  have a2 := xDp (n := 14) ob (by decide) (by decide) n1 (by decide) (by decide) o1 e1
  have a3 := xDp (n := 14) tb (by decide) (by decide) (Nat.le_trans k1 n1) (by decide) (by decide) (xF0 hsub o1) (xCZ hsub e1)
  have a4 := xDp (n := 14) ob (by decide) (by decide) (Nat.le_trans k1 n1) (by decide) (by decide) (xF0 hsub o1) (xCZ hsub e1)
  rw [← hlo] at a2
  rw [hra] at a3
  rw [hrb, ← hlo] at a4
  have q1 := xIt (t := allT t l) (Nat.le_trans b1.l (by decide))
  generalize allT t l = w at a1 a2 a3 a4 q1
  generalize xF5 t u d = o at p3 a2 a4
  refine vcs vf9 ?_
  repeat first|refine sgo ?_|refine cv0 hss ?_|refine cf m1 ?_|refine cf m2 ?_|refine cf l1 ?_|refine cf v1 ?_|refine cf p1 ?_|refine cf p2 ?_|refine cf p3 ?_|refine cf a1 ?_|refine cf a2 ?_|refine cf a3 ?_|refine cf a4 ?_|refine cv0 q1 ?_|refine sop ?_
  exact xAC ⟨.inr rfl, oB rfl⟩
theorem foldBefore_in (t : List (List PV)) (it : InTy (.sl [.int .u8, .int .u8, .int .u8]) (.sh false t)) (u : List (List PV)) (iu : InTy (.sl [.int .u8, .int .u8, .int .u8]) (.sh false u)) (l : List (List PV)) (il : InTy (.sl [.int .u8, .int .u8, .int .u8, .int .u8, .int .u8, .int .u8]) (.sh false l)) : VC Tryz.prog 9 [.sh false t, .sh false u, .sh false l] [] (.bool true) [] := by
  obtain ⟨ts, rfl, _⟩ := decR it
  obtain ⟨us, rfl, _⟩ := decR iu
  obtain ⟨a, rfl, h1, h2⟩ := xNI il
  exact xJW ts us h2 h1
end Go.Proofs
