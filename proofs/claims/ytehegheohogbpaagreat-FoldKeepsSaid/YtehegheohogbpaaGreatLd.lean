/- Ld -/
import Derived.Test.YtehegheohogbpaaGreatTb
open Go.V Go.Pu
set_option linter.unusedVariables false
set_option linter.unusedSimpArgs false
set_option maxRecDepth 20000
namespace Go.Proofs
def vc6 := vcm Tryz.prog 6
theorem vf6 : VF Tryz.prog 6 = some (33, vc6, [.tmp 4]) := by kernel_rfl
set_option maxHeartbeats 4000000 in
theorem xKK (ts : List RawL) {xs : List RawM} (hx1 : xs.length ≤ 9223372036854775807) (hx2 : ∀ r ∈ xs, r.ok) : VC Tryz.prog 6 [.sh false (ts.map encR), .sh false (xs.map encW)] [] (.bool true) [] := by
  have hss := xE7
  have m1 := xOj ts
  have tb := xD8 ts
  generalize xFG ts = t at m1 tb
  have l1 := xM8 hx1 hx2 14 (by omega)
  have n1 := xIQ xs 14
  have s1 : ∀ m ∈ xBX xs 14, MsgSz m := xFh
  have o1 : ∀ m ∈ xBX xs 14, MsgOk m := fun m hm => xFi m hm
  have e1 : ∀ m ∈ xBX xs 14, MsgLen 8 m := fun m hm => xES m hm
  generalize xBX xs 14 = l at l1 n1 s1 o1 e1
  have v1 := xD1 (l := l) (by omega) s1
  have hsub := xDN l
  have k1 := hsub.length_le
  have a1 := xDp (n := 14) tb (by decide) (by decide) n1 (by decide) (by decide) o1 e1
  have a2 := xDp (n := 14) tb (by decide) (by decide) (Nat.le_trans k1 n1) (by decide) (by decide) (xF0 hsub o1) (xCZ hsub e1)
  rw [xB8 tb.s o1] at a2
  have q1 := xIt (t := allT t l) (Nat.le_trans (xMm (n := 14) tb (by decide) (by decide) n1 (by decide) e1).l (by decide))
  generalize allT t l = u at a1 a2 q1
  generalize xAX l = r at v1 hsub k1 a2
  have c1 : decide (((r.map encM).length : Int) ≤ ((l.map encM).length : Nat)) = true := decide_eq_true (by rw [List.length_map, List.length_map]; omega)
  refine vcs vf6 ?_
  repeat first|refine sgo ?_|refine cv0 hss ?_|refine cf m1 ?_|refine cf l1 ?_|refine cf v1 ?_|refine cf a1 ?_|refine cf a2 ?_|refine cv0 q1 ?_|refine sop ?_
  exact xAC ⟨.inr rfl, oB rfl⟩
theorem foldKeeps_in (t : List (List PV)) (it : InTy (.sl [.int .u8, .int .u8, .int .u8]) (.sh false t)) (l : List (List PV)) (il : InTy (.sl [.int .u8, .int .u8, .int .u8, .int .u8, .int .u8, .int .u8]) (.sh false l)) : VC Tryz.prog 6 [.sh false t, .sh false l] [] (.bool true) [] := by
  obtain ⟨ts, rfl, _⟩ := decR it
  obtain ⟨a, rfl, h1, h2⟩ := xNI il
  exact xKK ts h2 h1
end Go.Proofs
