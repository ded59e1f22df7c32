/- Lf -/
import Derived.Test.YtehegheohogbpaaGreatTb
open Go.V Go.Pu
set_option linter.unusedVariables false
set_option linter.unusedSimpArgs false
set_option maxRecDepth 20000
namespace Go.Proofs
def vc8 := vcm Tryz.prog 8
theorem vf8 : VF Tryz.prog 8 = some (59, vc8, [.tmp 6]) := by kernel_rfl
set_option maxHeartbeats 4000000 in
theorem xI5 (ts : List RawL) {xs ys : List RawM} (hx1 : xs.length ≤ 9223372036854775807) (hx2 : ∀ r ∈ xs, r.ok) (hy1 : ys.length ≤ 9223372036854775807) (hy2 : ∀ r ∈ ys, r.ok) : VC Tryz.prog 8 [.sh false (ts.map encR), .sh false (xs.map encW), .sh false (ys.map encW)] [] (.bool true) [] := by
  have hss := xE7
  have m1 := xOj ts
  have tb := xD8 ts
  generalize xFG ts = t at m1 tb
  have l1 := xM8 hx1 hx2 10 (by omega)
  have n1 := xIQ xs 10
  have s1 : ∀ m ∈ xBX xs 10, MsgSz m := xFh
  have o1 : ∀ m ∈ xBX xs 10, MsgOk m := fun m hm => xFi m hm
  have e1 : ∀ m ∈ xBX xs 10, MsgLen 8 m := fun m hm => xES m hm
  have l2 := xM8 hy1 hy2 10 (by omega)
  have n2 := xIQ ys 10
  have s2 : ∀ m ∈ xBX ys 10, MsgSz m := xFh
  have o2 : ∀ m ∈ xBX ys 10, MsgOk m := fun m hm => xFi m hm
  have e2 : ∀ m ∈ xBX ys 10, MsgLen 8 m := fun m hm => xES m hm
  generalize xBX xs 10 = a at l1 n1 s1 o1 e1
  generalize xBX ys 10 = b at l2 n2 s2 o2 e2
  have b1 := xMm (n := 10) tb (by decide) (by decide) n1 (by decide) e1
  have b2 := xMm (n := 10) b1 (by decide) (by decide) n2 (by decide) e2
  have a1 := xDp (n := 10) tb (by decide) (by decide) n1 (by decide) (by decide) o1 e1
  have a2 := xDp (n := 10) b1 (by decide) (by decide) n2 (by decide) (by decide) o2 e2
  have sub1 := xDN (a ++ b)
  have sa := xDN a
  have sb := xDN b
  have oab : ∀ m ∈ a ++ b, MsgOk m := fun m hm => (List.mem_append.1 hm).elim (o1 m) (o2 m)
  have eab : ∀ m ∈ a ++ b, MsgLen 8 m := fun m hm => (List.mem_append.1 hm).elim (e1 m) (e2 m)
  have g1 := xI6 (a := a) (b := b) (by omega) s1 s2
  have r1 := xD1 (l := a) (by omega) s1
  have r2 := xD1 (l := b) (by omega) s2
  have ka := sa.length_le
  have kb := sb.length_le
  have kab := sub1.length_le
  rw [List.length_append] at kab
  have g2 := xI6 (a := xAX a) (b := xAX b) (by omega) (xRI sa s1) (xRI sb s2)
  have orr : ∀ m ∈ xAX a ++ xAX b, MsgOk m := fun m hm => (List.mem_append.1 hm).elim (xF0 sa o1 m) (xF0 sb o2 m)
  have err : ∀ m ∈ xAX a ++ xAX b, MsgLen 8 m := fun m hm => (List.mem_append.1 hm).elim (xCZ sa e1 m) (xCZ sb e2 m)
  have sub2 := xDN (xAX a ++ xAX b)
  have krr := sub2.length_le
  rw [List.length_append] at krr
  have a3 := xDp (n := 20) tb (by decide) (by decide) (by omega) (by decide) (by decide) (xF0 sub1 oab) (xCZ sub1 eab)
  rw [xB8 tb.s oab, xLV] at a3
  have a4 := xDp (n := 20) tb (by decide) (by decide) (by omega) (by decide) (by decide) (xF0 sub2 orr) (xCZ sub2 err)
  rw [xB8 tb.s orr, xLV, xB8 tb.s o1, xB8 (xBo _ tb.s) o2] at a4
  have q1 := xIt (t := allT (allT t a) b) (Nat.le_trans b2.l (by decide))
  generalize allT (allT t a) b = u at a2 a3 a4 q1
  generalize allT t a = w at a1 a2
  generalize xAX (xAX a ++ xAX b) = r at g2 a4
  generalize xAX a = ra at r1 g2
  generalize xAX b = rb at r2 g2
  generalize xAX (a ++ b) = m at g1 a3 kab
  have c1 : decide (((m.map encM).length : Int) ≤ ((a.map encM).length : Nat) + ((b.map encM).length : Nat)) = true := decide_eq_true (by rw [List.length_map, List.length_map, List.length_map]; omega)
  have z1 : (a.map encM).length ≤ 10 := by rw [List.length_map]; exact n1
  have z2 : (b.map encM).length ≤ 10 := by rw [List.length_map]; exact n2
  refine vcs vf8 ?_
  repeat first|refine sgo ?_|refine cv0 hss ?_|refine cf m1 ?_|refine cf l1 ?_|refine cf l2 ?_|refine cf a1 ?_|refine cf a2 ?_|refine cf g1 ?_|refine cf r1 ?_|refine cf r2 ?_|refine cf g2 ?_|refine cf a3 ?_|refine cf a4 ?_|refine cv0 q1 ?_|refine sop ?_
  exact xAC ⟨.inr rfl, oB rfl⟩
theorem foldMerges_in (t : List (List PV)) (it : InTy (.sl [.int .u8, .int .u8, .int .u8]) (.sh false t)) (l : List (List PV)) (il : InTy (.sl [.int .u8, .int .u8, .int .u8, .int .u8, .int .u8, .int .u8]) (.sh false l)) (l2 : List (List PV)) (il2 : InTy (.sl [.int .u8, .int .u8, .int .u8, .int .u8, .int .u8, .int .u8]) (.sh false l2)) : VC Tryz.prog 8 [.sh false t, .sh false l, .sh false l2] [] (.bool true) [] := by
  obtain ⟨ts, rfl, _⟩ := decR it
  obtain ⟨a, rfl, h1, h2⟩ := xNI il
  obtain ⟨b, rfl, h3, h4⟩ := xNI il2
  exact xI5 ts h2 h1 h4 h3
end Go.Proofs
