/- Lc -/
import Derived.Test.YtkbjaoophgepcaaLb
import Derived.Test.YtkbjaoophgepcaaVD
import Derived.Test.YtkbjaoophgepcaaPu
open Go.V Go.Pu
set_option linter.unusedVariables false
set_option linter.unusedSimpArgs false
set_option maxRecDepth 20000
namespace Go.Proofs
/-- downspout/lock.Leave$1 -/
def vc64 : VCode :=
 (.seq
 (.region 0 false [
 ⟨(some 2), .box (.t 0), none, 0, []⟩,
 ⟨(some 3), .copy (.c (.bool false)), none, 8, []⟩])
 (.seq
 (.region 1 false [
 ⟨(some 4), .faddr 0 (.t 2), none, 8192, []⟩,
 ⟨(some 5), .load false 1 (.t 4), none, 8200, [0]⟩,
 ⟨(some 6), .load false 1 (.t 1), none, 8208, []⟩,
 ⟨(some 7), .bin .eql (.t 5) (.t 6), none, 8216, [1, 0, 2]⟩,
 ⟨(some 3), .copy (.t 7), none, 8224, [3, 1, 0, 2]⟩])
 .ret))
theorem vf64 : VF Try.prog 64 = some (8, vc64, [.tmp 3]) := by kernel_rfl
/-- downspout/lock.Leave -/
def vc51 : VCode :=
 (.seq
 (.region 0 false [
 ⟨(some 2), .box (.t 0), none, 0, []⟩,
 ⟨(some 3), .box (.t 1), none, 8, []⟩,
 ⟨(some 4), .alloc [.nils, .nils], none, 16, []⟩,
 ⟨(some 5), .copy (.c .nils), none, 24, []⟩])
 (.seq
 (.region 1 false [
 ⟨(some 7), .fn 64 [(.t 3)], none, 8192, []⟩,
 ⟨(some 6), .copy (.t 7), none, 8200, [0]⟩])
 (.seq
 (.region 2 true [
 ⟨(some 8), .faddr 0 (.t 2), none, 16384, []⟩,
 ⟨(some 9), .load false 1 (.t 8), none, 16392, [0]⟩,
 ⟨(some 10), .call (.c (.fn 56 [])) [(.t 9)], none, 16400, [1, 0]⟩,
 ⟨(some 11), .copy (.t 6), none, 16408, []⟩,
 ⟨(some 12), .call (.c (.fn 65 [])) [(.t 10), (.t 11)], none, 16416, [2, 1, 0, 3]⟩,
 ⟨(some 13), .faddr 1 (.t 2), none, 16424, []⟩,
 ⟨(some 14), .load false 1 (.t 13), none, 16432, [5]⟩,
 ⟨(some 15), .call (.c (.fn 56 [])) [(.t 14)], none, 16440, [6, 5, 4, 2, 1, 0, 3]⟩,
 ⟨(some 16), .copy (.t 6), none, 16448, []⟩,
 ⟨(some 17), .call (.c (.fn 65 [])) [(.t 15), (.t 16)], none, 16456, [7, 6, 5, 4, 2, 1, 0, 3, 8]⟩,
 ⟨(some 18), .call (.c (.fn 46 [])) [(.t 12), (.t 17)], none, 16464, [4, 2, 1, 0, 3, 9, 7, 6, 5, 8]⟩,
 ⟨(some 19), .extract (.t 18) 0, none, 16472, [10, 4, 2, 1, 0, 3, 9, 7, 6, 5, 8]⟩,
 ⟨(some 20), .extract (.t 18) 1, none, 16480, [10, 4, 2, 1, 0, 3, 9, 7, 6, 5, 8]⟩,
 ⟨none, .store 2 (.t 4) (.t 19), none, 16488, [11, 10, 4, 2, 1, 0, 3, 9, 7, 6, 5, 8, 12]⟩,
 ⟨(some 5), .copy (.t 20), none, 16496, [12, 10, 4, 2, 1, 0, 3, 9, 7, 6, 5, 8, 13, 11]⟩])
 .ret)))
theorem vf51 : VF Try.prog 51 = some (21, vc51, [.cell true 2 4, .tmp 5]) := by kernel_rfl
abbrev bxO (o : Int) : Blk := ⟨true, false, 1, [[.int .i64 o]]⟩
def ownE (o : Int) (y : LockL) : Bool := y.own == o
theorem own_vc (o : Int) (y : LockL) : VC Try.prog 64 [.agg (encL y), .ptr ⟨0, 0⟩ 1 0 0] [bxO o] (.bool (ownE o y)) [bxO o] := by
  refine vc_of vf64 ?_ (Nat.le_of_ble_eq_true rfl) (by intro vs h; cases h)
  repeat first | refine o_copy ?_ | refine nl ?_ | refine ct_seq ?_ | refine rg ?_ | refine ct_block ?_ | refine bq ?_ | refine o_loads ?_ | refine o_loadp ?_ | refine o_faddr ?_ | refine o_bin ?_ | refine o_box ?_
  refine ct_ret ⟨.inr rfl, ?_⟩
  exact oG []
theorem idxO_vc {l : List LockL} (hl : l.length ≤ 60000) (o : Int) : VC Try.prog 69 [.sh false (l.map encL), (.fn 64 [.ptr ⟨0, 0⟩ 1 0 0])] [bxO o] (.int .i64 (idxI (ownE o) l)) [bxO o] := by
  refine vc_of vf69 ?_ (Nat.le_of_ble_eq_true rfl) (by intro vs h; cases h)
  repeat first | refine o_copy ?_ | refine nl ?_ | refine ct_seq ?_ | refine rg ?_ | refine ct_block ?_ | refine bq ?_ | refine o_iaddr ?_ | refine o_iaddrO ?_ | refine o_iaddrR ?_ | refine o_add ?_ | refine o_cat ?_ | refine o_bin ?_ | refine o_lenq ?_ | refine o_len ?_ | refine o_loadsA ?_ | refine o_loadpA ?_
  refine ct_loopG (fun (g : Nat) => [(0, .sh false (l.map encL)), (1, (.fn 64 [.ptr ⟨0, 0⟩ 1 0 0])), (7, .int .i64 (l.map encL).length), (8, .int .i64 g)]) (fun g => [(⟨0, 0⟩, bxO o)]) (fun g => l.length - g)
    (fun g => g ≤ l.length ∧ (l.take g).any (ownE o) = false) 0 goesD ⟨Nat.zero_le _, rfl⟩ ?_
  rintro i ⟨hi, hv⟩
  (try dsimp only at hi hv ⊢)
  repeat first | refine o_copy ?_ | refine nl ?_ | refine ct_seq ?_ | refine rg ?_ | refine ct_block ?_ | refine bq ?_ | refine o_iaddr ?_ | refine o_iaddrO ?_ | refine o_iaddrR ?_ | refine o_add ?_ | refine o_cat ?_ | refine o_bin ?_ | refine o_lenq ?_ | refine o_len ?_ | refine o_loadsA ?_ | refine o_loadpA ?_
  refine cnd (fun h => ct_skip ?_) (fun h => ct_exit ?_)
  · have hlt : i < l.length := by have h' := of_decide_eq_true h; simp only [List.length_map] at h'; omega
    obtain ⟨y, hy⟩ : ∃ y, l[i]? = some y := ⟨_, List.getElem?_eq_getElem hlt⟩
    have hxe := gm (enc := encL) (n := (i : Int)) hy (by omega)
    repeat first | refine o_copy ?_ | refine nl ?_ | refine ct_seq ?_ | refine rg ?_ | refine ct_block ?_ | refine bq ?_ | refine cl (lent := [⟨0, 0⟩]) (own_vc o y) ?_ | refine o_iaddr ?_ | refine o_iaddrO ?_ | refine o_iaddrR ?_ | refine o_add ?_ | refine o_cat ?_ | refine o_bin ?_ | refine o_lenq ?_ | refine o_len ?_ | refine o_loadsA ?_ | refine o_loadpA ?_
    refine cnd (fun h2 => ?_) (fun h2 => ct_skip ?_)
    · repeat first | refine o_copy ?_ | refine nl ?_ | refine ct_seq ?_ | refine rg ?_ | refine ct_block ?_ | refine bq ?_ | refine o_iaddr ?_ | refine o_iaddrO ?_ | refine o_iaddrR ?_ | refine o_add ?_ | refine o_cat ?_ | refine o_bin ?_ | refine o_lenq ?_ | refine o_len ?_ | refine o_loadsA ?_ | refine o_loadpA ?_
      refine ct_ret ⟨.inr rfl, ?_⟩
      rw [idx_found hy h2 hv]
      exact oG []
    · repeat first | refine o_copy ?_ | refine nl ?_ | refine ct_seq ?_ | refine rg ?_ | refine ct_block ?_ | refine bq ?_ | refine o_iaddr ?_ | refine o_iaddrO ?_ | refine o_iaddrR ?_ | refine o_add ?_ | refine o_cat ?_ | refine o_bin ?_ | refine o_lenq ?_ | refine o_len ?_ | refine o_loadsA ?_ | refine o_loadpA ?_
      refine agn (Q := fun _ _ => True) (i + 1) ⟨by omega, ?_⟩ goesD
      rw [List.take_add_one, hy]
      simp only [Option.toList, List.any_append, List.any_cons, List.any_nil, h2, Bool.or_false] at hv ⊢
      exact hv
  · have hge : i = l.length := by have h' := of_decide_eq_false h; simp only [List.length_map] at h'; omega
    subst hge
    rw [List.take_length] at hv
    repeat first | refine o_copy ?_ | refine nl ?_ | refine ct_seq ?_ | refine rg ?_ | refine ct_block ?_ | refine bq ?_ | refine o_iaddr ?_ | refine o_iaddrO ?_ | refine o_iaddrR ?_ | refine o_add ?_ | refine o_cat ?_ | refine o_bin ?_ | refine o_lenq ?_ | refine o_len ?_ | refine o_loadsA ?_ | refine o_loadpA ?_
    refine ct_ret ⟨.inr rfl, ?_⟩
    have e : idxI (ownE o) l = -1 := by unfold idxI; rw [if_neg (by simp [hv])]
    rw [e]
    exact oG []
end Go.Proofs
open Go.V Go.Pu
set_option linter.unusedVariables false
set_option linter.unusedSimpArgs false
set_option maxRecDepth 20000
namespace Go.Proofs
/-- slices.DeleteFunc[[]downspout/api.Lock,downspout/api.Lock] -/
def vc65 : VCode :=
 (.seq
 (.region 0 false [
 ⟨(some 4), .copy (.c .nils), none, 0, []⟩])
 (.seq
 (.region 1 false [
 ⟨(some 8), .copy (.t 0), none, 8192, []⟩,
 ⟨(some 9), .copy (.t 1), none, 8200, []⟩,
 ⟨(some 10), .call (.c (.fn 69 [])) [(.t 8), (.t 9)], none, 8208, [0, 1]⟩,
 ⟨(some 5), .copy (.t 10), none, 8216, [2, 0, 1]⟩])
 (.seq
 (.seq
 (.region 2 false [
 ⟨(some 11), .copy (.t 5), none, 16384, []⟩,
 ⟨(some 12), .bin .eql (.t 11) (.c (.int .i64 (-1))), none, 16392, [0]⟩])
 (.cond (.t 12)
 (.seq
 (.region 3 false [
 ⟨(some 13), .copy (.t 0), none, 24576, []⟩,
 ⟨(some 4), .copy (.t 13), none, 24584, [0]⟩])
 .ret)
 .skip))
 (.seq
 (.seq
 (.region 4 false [
 ⟨(some 14), .copy (.t 5), none, 32768, []⟩,
 ⟨(some 15), .bin .add (.t 14) (.c (.int .i64 1)), none, 32776, [0]⟩,
 ⟨(some 6), .copy (.t 15), none, 32784, [1, 0]⟩])
 (.block 0
 (.loop
 (.seq
 (.seq
 (.region 5 false [
 ⟨(some 16), .copy (.t 6), none, 40960, []⟩,
 ⟨(some 17), .copy (.t 0), none, 40968, []⟩,
 ⟨(some 18), .len (.t 17), none, 40976, [1]⟩,
 ⟨(some 19), .bin .lss (.t 16) (.t 18), none, 40984, [0, 2, 1]⟩])
 (.cond (.t 19)
 .skip
 (.exit 0)))
 (.seq
 (.block 1
 (.seq
 (.region 7 false [
 ⟨(some 22), .copy (.t 0), none, 57344, []⟩,
 ⟨(some 23), .copy (.t 6), none, 57352, []⟩,
 ⟨(some 24), .iaddr 5 (.t 22) (.t 23), none, 57360, [0, 1]⟩,
 ⟨(some 25), .load true 5 (.t 24), none, 57368, [2, 0, 1]⟩,
 ⟨(some 7), .alloc [(.int .i64 0), (.str []), (.int .i64 0), (.int .i64 0), (.bool false)], none, 57376, []⟩,
 ⟨none, .store 5 (.t 7) (.t 25), none, 57384, [4, 3, 2, 0, 1]⟩])
 (.seq
 (.region 8 false [
 ⟨(some 26), .copy (.t 1), none, 65536, []⟩,
 ⟨(some 27), .load true 5 (.t 7), none, 65544, []⟩,
 ⟨(some 28), .call (.t 26) [(.t 27)], none, 65552, [0, 1]⟩,
 ⟨(some 29), .not (.t 28), none, 65560, [2, 0, 1]⟩])
 (.cond (.t 29)
 (.seq
 (.region 9 false [
 ⟨(some 30), .copy (.t 0), none, 73728, []⟩,
 ⟨(some 31), .copy (.t 5), none, 73736, []⟩,
 ⟨(some 32), .load true 5 (.t 7), none, 73744, []⟩,
 ⟨(some 33), .iaddr 5 (.t 30) (.t 31), none, 73752, [0, 1, 2]⟩,
 ⟨none, .store 5 (.t 33) (.t 32), none, 73760, [3, 0, 1, 2]⟩])
 (.region 10 false [
 ⟨(some 34), .copy (.t 5), none, 81920, []⟩,
 ⟨(some 35), .bin .add (.t 34) (.c (.int .i64 1)), none, 81928, [0]⟩,
 ⟨(some 5), .copy (.t 35), none, 81936, [1, 0]⟩]))
 .skip))))
 (.region 6 false [
 ⟨(some 20), .copy (.t 6), none, 49152, []⟩,
 ⟨(some 21), .bin .add (.t 20) (.c (.int .i64 1)), none, 49160, [0]⟩,
 ⟨(some 6), .copy (.t 21), none, 49168, [1, 0]⟩]))))))
 (.seq
 (.region 11 false [
 ⟨(some 36), .copy (.t 0), none, 90112, []⟩,
 ⟨(some 37), .copy (.t 5), none, 90120, []⟩,
 ⟨(some 38), .slsl 5 (.t 36) (some (.t 37)) none none, none, 90128, [0, 1]⟩,
 ⟨none, .clear 5 [(.int .i64 0), (.str []), (.int .i64 0), (.int .i64 0), (.bool false)] (.t 38), none, 90136, [2, 0, 1]⟩])
 (.seq
 (.region 12 false [
 ⟨(some 39), .copy (.t 0), none, 98304, []⟩,
 ⟨(some 40), .copy (.t 5), none, 98312, []⟩,
 ⟨(some 41), .slsl 5 (.t 39) none (some (.t 40)) none, none, 98320, [0, 1]⟩,
 ⟨(some 4), .copy (.t 41), none, 98328, [2, 0, 1]⟩])
 .ret))))))
theorem vf65 : VF Try.prog 65 = some (42, vc65, [.tmp 4]) := by kernel_rfl
theorem els_at {zs : List LockL} {i : Nat} {x : LockL} {k : Nat} (h : zs[i]? = some x) (hk : k = i) : (blkV 5 (zs.map encL)).els[k]? = some (encL x) := by
  subst hk
  show (zs.map encL)[k]? = _
  rw [List.getElem?_map, h]; rfl
def nO (o : Int) (y : LockL) : Bool := !ownE o y
def delK (o : Int) (xs : List LockL) : List LockL := xs.filter (nO o) ++ List.replicate (xs.length - (xs.filter (nO o)).length) zL
theorem l_del {hf : HF} {xs : List LockL} {N : Nat} (hN : N = xs.length) (h : hf ⟨0, 0⟩ = some (blkV 5 (xs.map encL))) : lendVs hf [⟨0, 1⟩] [.own ⟨0, 0⟩ N 0 N, .fn 64 [.ptr ⟨0, 1⟩ 1 0 0]] = some ([⟨0, 0⟩], [.sh false (xs.map encL), .fn 64 [.ptr ⟨0, 0⟩ 1 0 0]]) := by
  subst hN
  have h2 := content_full h
  rw [List.length_map] at h2
  simp [lendVs, lendV, lendS, lendCell, lendCells, idxB, closeCell, h2]
theorem idx_some {o : Int} {xs : List LockL} (h : xs.any (ownE o) = true) : xs.findIdx (ownE o) < xs.length ∧ (xs.take (xs.findIdx (ownE o) + 1)).filter (nO o) = xs.take (xs.findIdx (ownE o)) := by
  have hlt : xs.findIdx (ownE o) < xs.length := List.findIdx_lt_length_of_exists (by simpa using h)
  refine ⟨hlt, ?_⟩
  have hx := List.findIdx_getElem (w := hlt)
  rw [List.take_add_one, List.getElem?_eq_getElem hlt]
  simp only [Option.toList, List.filter_append]
  have h1 : (xs.take (xs.findIdx (ownE o))).filter (nO o) = xs.take (xs.findIdx (ownE o)) := by
    refine List.filter_eq_self.2 fun y hy => ?_
    obtain ⟨k, hk, rfl⟩ := List.mem_iff_getElem.1 hy
    rw [List.getElem_take]
    have hk2 : k < xs.findIdx (ownE o) := by have h5 := hk; rw [List.length_take] at h5; omega
    have := List.not_of_lt_findIdx hk2
    simpa [nO] using this
  rw [h1]
  simp [nO, hx]
set_option maxHeartbeats 1000000 in
theorem del_vc {N : Nat} (o : Int) (xs : List LockL) (hN : xs.length = N) (hm : N ≤ 60000) :
    VC Try.prog 65 [.own ⟨0, 0⟩ N 0 N, (.fn 64 [.ptr ⟨0, 1⟩ 1 0 0])] [blkV 5 (xs.map encL), bxO o] (.own ⟨0, 0⟩ N 0 (xs.filter (nO o)).length) [blkV 5 ((delK o xs).map encL), bxO o] := by
  refine vc_of vf65 ?_ (Nat.le_of_ble_eq_true rfl) (by intro vs h; cases h)
  have hidx := idxO_vc (l := xs) (by omega) o
  by_cases hany : xs.any (ownE o) = true
  case neg =>
    have hi : idxI (ownE o) xs = -1 := by unfold idxI; rw [if_neg hany]
    have hf : xs.filter (nO o) = xs := List.filter_eq_self.2 fun y hy => by
      have : ∀ y ∈ xs, (ownE o) y = false := by simpa using hany
      simp [nO, this y hy]
    rw [hi] at hidx
    repeat first | refine o_copy ?_ | refine nl ?_ | refine ct_seq ?_ | refine rg ?_ | refine ct_block ?_ | refine bq ?_ | refine clr (lent := [⟨0, 1⟩]) hidx (h3 := by exact l_del (by omega) rfl) ?_ | refine o_iaddr ?_ | refine o_iaddrO ?_ | refine o_iaddrR ?_ | refine o_add ?_ | refine o_cat ?_ | refine o_bin ?_ | refine o_lenq ?_ | refine o_len ?_ | refine o_loadsA ?_ | refine o_loadpA ?_ | refine o_alloc ?_ | refine o_store ?_ | refine o_not ?_
    refine cndt ?_
    repeat first | refine o_copy ?_ | refine nl ?_ | refine ct_seq ?_ | refine rg ?_ | refine ct_block ?_ | refine bq ?_ | refine o_iaddr ?_ | refine o_iaddrO ?_ | refine o_iaddrR ?_ | refine o_add ?_ | refine o_cat ?_ | refine o_bin ?_ | refine o_lenq ?_ | refine o_len ?_ | refine o_loadsA ?_ | refine o_loadpA ?_ | refine o_alloc ?_ | refine o_store ?_ | refine o_not ?_
    have hd : delK o xs = xs := by unfold delK; rw [hf]; simp
    rw [hf, hd, hN]
    exact ct_ret ⟨.inr rfl, oG [] (v' := .own ⟨0, 0⟩ N 0 N)⟩
  obtain ⟨hlt, hfl⟩ := idx_some hany
  have hi : idxI (ownE o) xs = (xs.findIdx (ownE o) : Nat) := by unfold idxI; rw [if_pos hany]
  rw [hi] at hidx
  generalize xs.findIdx (ownE o) = i0 at *
  repeat first | refine o_copy ?_ | refine nl ?_ | refine ct_seq ?_ | refine rg ?_ | refine ct_block ?_ | refine bq ?_ | refine clr (lent := [⟨0, 1⟩]) hidx (h3 := by exact l_del (by omega) rfl) ?_ | refine o_iaddr ?_ | refine o_iaddrO ?_ | refine o_iaddrR ?_ | refine o_add ?_ | refine o_cat ?_ | refine o_bin ?_ | refine o_lenq ?_ | refine o_len ?_ | refine o_loadsA ?_ | refine o_loadpA ?_ | refine o_alloc ?_ | refine o_store ?_ | refine o_not ?_
  refine cndf (ct_skip ?_) rfl (by simp)
  repeat first | refine o_copy ?_ | refine nl ?_ | refine ct_seq ?_ | refine rg ?_ | refine ct_block ?_ | refine bq ?_ | refine o_iaddr ?_ | refine o_iaddrO ?_ | refine o_iaddrR ?_ | refine o_add ?_ | refine o_cat ?_ | refine o_bin ?_ | refine o_lenq ?_ | refine o_len ?_ | refine o_loadsA ?_ | refine o_loadpA ?_ | refine o_alloc ?_ | refine o_store ?_ | refine o_not ?_
  refine ct_loopG (fun (g : Nat × Nat × List LockL) => [(0, .own ⟨0, 0⟩ N 0 N), (1, (.fn 64 [.ptr ⟨0, 1⟩ 1 0 0])), (5, .int .i64 g.1), (6, .int .i64 (g.2.1 : Nat))])
    (fun g => [(⟨0, 0⟩, blkV 5 (g.2.2.map encL)), (⟨0, 1⟩, bxO o)]) (fun g => N - g.2.1)
    (fun g => g.1 < g.2.1 ∧ g.2.1 ≤ N ∧ g.2.2.length = N ∧ g.2.2.take g.1 = (xs.take g.2.1).filter (nO o) ∧ g.2.2.drop g.2.1 = xs.drop g.2.1) (i0, i0 + 1, xs) goesD ⟨by simp, by simp only; omega, hN, hfl.symm, rfl⟩ ?_
  rintro ⟨i, j, zs⟩ ⟨hij, hjN, hzl, h1, h2⟩
  dsimp only at hij hjN hzl h1 h2 ⊢
  have hil : i = ((xs.take j).filter (nO o)).length := by rw [← h1, List.length_take]; omega
  repeat first | refine o_copy ?_ | refine nl ?_ | refine ct_seq ?_ | refine rg ?_ | refine ct_block ?_ | refine bq ?_ | refine o_iaddr ?_ | refine o_iaddrO ?_ | refine o_iaddrR ?_ | refine o_add ?_ | refine o_cat ?_ | refine o_bin ?_ | refine o_lenq ?_ | refine o_len ?_ | refine o_loadsA ?_ | refine o_loadpA ?_ | refine o_alloc ?_ | refine o_store ?_ | refine o_not ?_
  refine cnd (fun h => ct_skip ?_) (fun h => ct_exit ?_)
  · have hlt : j < N := by have h' := of_decide_eq_true h; omega
    obtain ⟨x, hx⟩ : ∃ x, xs[j]? = some x := ⟨_, List.getElem?_eq_getElem (by omega)⟩
    have hzx : zs[j]? = some x := by have h3 := congrArg (fun l => l[0]?) h2; simpa [hx] using h3
    have hze := els_at (k := 0 + (j : Int).toNat) hzx (by omega)
    have hk1 : 0 + (i : Int).toNat = i := by omega
    have htk : (xs.take (j + 1)).filter (nO o) = (xs.take j).filter (nO o) ++ (if (nO o) x = true then [x] else []) := by
      rw [List.take_add_one, hx, Option.toList, List.filter_append]
      by_cases hn : (nO o) x = true <;> simp [hn]
    have hdr : zs.drop (j + 1) = xs.drop (j + 1) := by rw [← List.drop_drop, ← List.drop_drop, h2]
    repeat first | refine o_copy ?_ | refine nl ?_ | refine ct_seq ?_ | refine rg ?_ | refine ct_block ?_ | refine bq ?_ | refine o_iaddrG ?_ | refine cl (lent := [⟨0, 1⟩]) (own_vc o x) ?_ | refine o_iaddr ?_ | refine o_iaddrO ?_ | refine o_iaddrR ?_ | refine o_add ?_ | refine o_cat ?_ | refine o_bin ?_ | refine o_lenq ?_ | refine o_len ?_ | refine o_loadsA ?_ | refine o_loadpA ?_ | refine o_alloc ?_ | refine o_store ?_ | refine o_not ?_
    refine cnd (fun hc => ?_) (fun hc => ct_skip ?_)
    · rw [if_pos (show (nO o) x = true from hc)] at htk
      repeat first | refine o_copy ?_ | refine nl ?_ | refine ct_seq ?_ | refine rg ?_ | refine ct_block ?_ | refine bq ?_ | refine o_iaddrG ?_ | refine o_v (vst encL x) ?_ | refine o_iaddr ?_ | refine o_iaddrO ?_ | refine o_iaddrR ?_ | refine o_add ?_ | refine o_cat ?_ | refine o_bin ?_ | refine o_lenq ?_ | refine o_len ?_ | refine o_loadsA ?_ | refine o_loadpA ?_ | refine o_alloc ?_ | refine o_store ?_ | refine o_not ?_
      refine agn (i + 1, j + 1, zs.set (0 + (i : Int).toNat) x) ⟨by simp only; omega, by simp only; omega, by simpa only [List.length_set] using hzl, ?_, ?_⟩ goesD
      · simp only [hk1]
        rw [htk, ← h1, List.take_add_one, List.take_set, List.set_eq_of_length_le (by simp; omega)]
        simp [show i < zs.length by omega]
      · simp only [hk1]
        rw [List.drop_set, if_pos (by omega)]
        exact hdr
    · rw [if_neg (show ¬ (nO o) x = true by simpa [nO] using hc)] at htk
      repeat first | refine o_copy ?_ | refine nl ?_ | refine ct_seq ?_ | refine rg ?_ | refine ct_block ?_ | refine bq ?_ | refine o_iaddr ?_ | refine o_iaddrO ?_ | refine o_iaddrR ?_ | refine o_add ?_ | refine o_cat ?_ | refine o_bin ?_ | refine o_lenq ?_ | refine o_len ?_ | refine o_loadsA ?_ | refine o_loadpA ?_ | refine o_alloc ?_ | refine o_store ?_ | refine o_not ?_
      exact agn (i, j + 1, zs) ⟨by simp only; omega, by simp only; omega, hzl, by simp only; rw [htk, h1]; simp, hdr⟩ goesD
  · have hj : j = N := by have h' := of_decide_eq_false h; omega
    subst hj
    have htN : xs.take j = xs := List.take_of_length_le (by omega)
    rw [htN] at h1 hil
    repeat first | refine o_copy ?_ | refine nl ?_ | refine ct_seq ?_ | refine rg ?_ | refine ct_block ?_ | refine bq ?_ | refine o_slslO ?_ | refine o_v (vclr encL zL) ?_ | refine o_iaddr ?_ | refine o_iaddrO ?_ | refine o_iaddrR ?_ | refine o_add ?_ | refine o_cat ?_ | refine o_bin ?_ | refine o_lenq ?_ | refine o_len ?_ | refine o_loadsA ?_ | refine o_loadpA ?_ | refine o_alloc ?_ | refine o_store ?_ | refine o_not ?_
    refine o_slslO ?_ (hc0 := by simp; omega)
    repeat first | refine o_copy ?_ | refine nl ?_ | refine ct_seq ?_ | refine rg ?_ | refine ct_block ?_ | refine bq ?_ | refine o_iaddr ?_ | refine o_iaddrO ?_ | refine o_iaddrR ?_ | refine o_add ?_ | refine o_cat ?_ | refine o_bin ?_ | refine o_lenq ?_ | refine o_len ?_ | refine o_loadsA ?_ | refine o_loadpA ?_ | refine o_alloc ?_ | refine o_store ?_ | refine o_not ?_
    have e1 : 0 + (i : Int).toNat = i := by omega
    have e2 : (j : Int).toNat - (i : Int).toNat = j - i := by omega
    have e3 : (zs.take (0 + (i : Int).toNat) ++ List.replicate ((j : Int).toNat - (i : Int).toNat) zL ++ zs.drop (0 + (i : Int).toNat + ((j : Int).toNat - (i : Int).toNat))) = delK o xs := by
      rw [e1, e2, h1, List.drop_of_length_le (by omega)]
      unfold delK
      rw [hN, ← hil, List.append_nil]
    refine ct_ret ⟨.inr rfl, ?_⟩
    refine oG [] (v' := .own ⟨0, 0⟩ j 0 ((i : Int).toNat - Int.toNat 0)) (hout' := [blkV 5 ((zs.take (0 + (i : Int).toNat) ++ List.replicate ((j : Int).toNat - (i : Int).toNat) zL ++ zs.drop (0 + (i : Int).toNat + ((j : Int).toNat - (i : Int).toNat))).map encL), bxO o]) (hv := ?_) (he := ?_)
    · rw [← hil]
      exact congrArg (fun z => PV.own ⟨0, 0⟩ j 0 z) (by omega)
    · rw [e3]
end Go.Proofs
open Go.V Go.Pu
set_option linter.unusedVariables false
set_option linter.unusedSimpArgs false
set_option maxRecDepth 20000
namespace Go.Proofs
theorem nO_others (o : Int) (xs : List LockL) : xs.filter (nO o) = othersL xs o := rfl
theorem delK_take (o : Int) (xs : List LockL) : (((delK o xs).map encL).drop 0).take (othersL xs o).length = (othersL xs o).map encL := by
  unfold delK
  rw [nO_others, List.drop_zero, List.map_append, List.take_append_of_le_length (by simp), List.take_of_length_le (by simp)]
theorem delK_len (o : Int) (xs : List LockL) : (delK o xs).length = xs.length := by
  unfold delK
  have := List.length_filter_le (nO o) xs
  simp only [List.length_append, List.length_replicate]
  omega
theorem l_two {hf : HF} {a b : Bid} {o : Int} {xs ys : List LockL} {N M : Nat} (hN : N = xs.length) (hM : M = ys.length) (ha : hf a = some (blkV 5 ((delK o xs).map encL))) (hb : hf b = some (blkV 5 ((delK o ys).map encL))) :
    lendVs hf [] [.own a N 0 (othersL xs o).length, .own b M 0 (othersL ys o).length] = some ([a, b], [.sh false ((othersL xs o).map encL), .sh false ((othersL ys o).map encL)]) := by
  have e1 : ((delK o xs).map encL).length = N := by rw [List.length_map, delK_len, hN]
  have e2 : ((delK o ys).map encL).length = M := by rw [List.length_map, delK_len, hM]
  have h1 := l_part (hf := hf) (off := 0) (len := (othersL xs o).length) ha (by rw [List.length_map, delK_len]; have := (othersL_sub xs o).length_le; omega)
  have h2 := l_part (hf := hf) (off := 0) (len := (othersL ys o).length) hb (by rw [List.length_map, delK_len]; have := (othersL_sub ys o).length_le; omega)
  rw [e1, delK_take] at h1
  rw [e2, delK_take] at h2
  simp only [lendVs]
  rw [h1, h2]
  rfl
set_option maxHeartbeats 2000000 in
theorem leave_vc {l : LocksL} (hl : l.held.length + l.waits.length ≤ 10000) (o : Int) : VC Try.prog 51 [.agg (encLs l), .int .i64 o] [] (.tup [.agg (encLs (leaveG pmt l o).l), .sh false ((leaveG pmt l o).g.map encL)]) [] := by
  have c1 := clone_vc (q := .sh false (l.held.map encL)) (xs := l.held) Sl.sh (by omega)
  have c2 := clone_vc (q := .sh false (l.waits.map encL)) (xs := l.waits) Sl.sh (by omega)
  have n1 := (othersL_sub l.held o).length_le
  have n2 := (othersL_sub l.waits o).length_le
  have hg := pgr_vc (l := ⟨othersL l.held o, othersL l.waits o⟩) (by simp only; omega)
  have d1 := del_vc (N := (l.held.map encL).length) o l.held (by simp) (by simp; omega)
  have d2 := del_vc (N := (l.waits.map encL).length) o l.waits (by simp) (by simp; omega)
  refine vc_of vf51 ?_ (Nat.le_of_ble_eq_true rfl) (by intro vs h; cases h; simp)
  repeat first | refine o_copy ?_ | refine nl ?_ | refine ct_seq ?_ | refine rg ?_ | refine ct_block ?_ | refine bq ?_ | refine cv c1 ?_ | refine o_loads ?_ | refine o_loadp ?_ | refine o_faddr ?_ | refine o_box ?_ | refine o_alloc ?_ | refine o_store ?_ | refine o_extract ?_ | refine o_fn ?_
  refine cl (lent := [⟨1, 16400⟩, ⟨1, 8⟩]) d1 ?_
  repeat first | refine o_copy ?_ | refine nl ?_ | refine ct_seq ?_ | refine rg ?_ | refine ct_block ?_ | refine bq ?_ | refine cv c2 ?_ | refine o_loads ?_ | refine o_loadp ?_ | refine o_faddr ?_ | refine o_box ?_ | refine o_alloc ?_ | refine o_store ?_ | refine o_extract ?_ | refine o_fn ?_
  refine cl (lent := [⟨1, 16440⟩, ⟨1, 8⟩]) d2 ?_
  repeat first | refine o_copy ?_ | refine nl ?_ | refine ct_seq ?_ | refine rg ?_ | refine ct_block ?_ | refine bq ?_ | refine cf hg (h3 := by exact l_two (by simp) (by simp) rfl rfl) ?_ | refine o_loads ?_ | refine o_loadp ?_ | refine o_faddr ?_ | refine o_box ?_ | refine o_alloc ?_ | refine o_store ?_ | refine o_extract ?_ | refine o_fn ?_
  exact ct_ret ⟨.inr rfl, oAny rfl⟩
end Go.Proofs
open Go.V Go.Pu
set_option linter.unusedVariables false
set_option linter.unusedSimpArgs false
set_option maxRecDepth 20000
namespace Go.Proofs
abbrev encS (s : SpanL) : List PV := [.str s.lo, .str s.hi]
/-- downspout/span.Prefix -/
def vc42 : VCode :=
 (.seq
 (.region 0 false [
 ⟨(some 2), .alloc [(.str []), (.str [])], none, 0, []⟩])
 (.seq
 (.region 1 false [
 ⟨(some 4), .copy (.t 0), none, 8192, []⟩,
 ⟨(some 5), .s2b (.t 4), none, 8200, [0]⟩,
 ⟨(some 3), .copy (.t 5), none, 8208, [1, 0]⟩])
 (.seq
 (.block 0
 (.loop
 (.seq
 (.seq
 (.region 2 false [
 ⟨(some 6), .copy (.t 3), none, 16384, []⟩,
 ⟨(some 7), .len (.t 6), none, 16392, [0]⟩,
 ⟨(some 8), .bin .gtr (.t 7) (.c (.int .i64 0)), none, 16400, [1, 0]⟩,
 ⟨(some 9), .copy (.t 8), none, 16408, [2, 1, 0]⟩,
 ⟨(some 10), .copy (.t 3), (some (3, 9, true)), 16416, [3, 2, 1, 0]⟩,
 ⟨(some 11), .copy (.t 3), (some (3, 9, true)), 16424, [3, 2, 1, 0]⟩,
 ⟨(some 12), .len (.t 11), (some (3, 9, true)), 16432, [5, 3, 2, 1, 0]⟩,
 ⟨(some 13), .bin .sub (.t 12) (.c (.int .i64 1)), (some (3, 9, true)), 16440, [6, 5, 3, 2, 1, 0]⟩,
 ⟨(some 14), .iaddr 1 (.t 10) (.t 13), (some (3, 9, true)), 16448, [4, 3, 2, 1, 0, 7, 6, 5]⟩,
 ⟨(some 15), .load false 1 (.t 14), (some (3, 9, true)), 16456, [8, 4, 3, 2, 1, 0, 7, 6, 5]⟩,
 ⟨(some 16), .bin .eql (.t 15) (.c (.int .u8 255)), (some (3, 9, true)), 16464, [9, 8, 4, 3, 2, 1, 0, 7, 6, 5]⟩,
 ⟨(some 17), .pick (.t 9) (.t 16) (.c (.bool false)), none, 16472, [3, 2, 1, 0, 10, 9, 8, 4, 7, 6, 5]⟩])
 (.cond (.t 17)
 .skip
 (.exit 0)))
 (.block 1
 (.region 3 false [
 ⟨(some 18), .copy (.t 3), none, 24576, []⟩,
 ⟨(some 19), .copy (.t 3), none, 24584, []⟩,
 ⟨(some 20), .len (.t 19), none, 24592, [1]⟩,
 ⟨(some 21), .bin .sub (.t 20) (.c (.int .i64 1)), none, 24600, [2, 1]⟩,
 ⟨(some 22), .slsl 1 (.t 18) none (some (.t 21)) none, none, 24608, [0, 3, 2, 1]⟩,
 ⟨(some 3), .copy (.t 22), none, 24616, [4, 0, 3, 2, 1]⟩])))))
 (.seq
 (.seq
 (.region 4 false [
 ⟨(some 23), .copy (.t 3), none, 32768, []⟩,
 ⟨(some 24), .len (.t 23), none, 32776, [0]⟩,
 ⟨(some 25), .bin .gtr (.t 24) (.c (.int .i64 0)), none, 32784, [1, 0]⟩])
 (.cond (.t 25)
 (.region 5 false [
 ⟨(some 26), .copy (.t 3), none, 40960, []⟩,
 ⟨(some 27), .copy (.t 3), none, 40968, []⟩,
 ⟨(some 28), .len (.t 27), none, 40976, [1]⟩,
 ⟨(some 29), .bin .sub (.t 28) (.c (.int .i64 1)), none, 40984, [2, 1]⟩,
 ⟨(some 30), .iaddr 1 (.t 26) (.t 29), none, 40992, [0, 3, 2, 1]⟩,
 ⟨(some 31), .load false 1 (.t 30), none, 41000, [4, 0, 3, 2, 1]⟩,
 ⟨(some 32), .bin .add (.t 31) (.c (.int .u8 1)), none, 41008, [5, 4, 0, 3, 2, 1]⟩,
 ⟨(some 33), .iaddr 1 (.t 26) (.t 29), none, 41016, [0, 3, 2, 1, 4, 5, 6]⟩,
 ⟨none, .store 1 (.t 33) (.t 32), none, 41024, [7, 0, 3, 2, 1, 4, 5, 6]⟩])
 .skip))
 (.seq
 (.region 6 false [
 ⟨(some 34), .copy (.t 0), none, 49152, []⟩,
 ⟨(some 35), .copy (.t 3), none, 49160, []⟩,
 ⟨(some 36), .b2s (.t 35), none, 49168, [1]⟩,
 ⟨(some 37), .build [(.str []), (.str [])] [(0, 1, (.t 34)), (1, 1, (.t 36))], none, 49176, [0, 2, 1]⟩,
 ⟨none, .store 2 (.t 2) (.t 37), none, 49184, [3, 0, 2, 1]⟩])
 .ret)))))
theorem vf42 : VF Try.prog 42 = some (38, vc42, [.cell true 2 2]) := by kernel_rfl
/-- downspout/span.Has -/
def vc44 : VCode :=
 (.seq
 (.region 0 false [
 ⟨(some 2), .box (.t 0), none, 0, []⟩,
 ⟨(some 4), .copy (.c (.bool false)), none, 8, []⟩])
 (.seq
 (.region 1 false [
 ⟨(some 5), .copy (.t 1), none, 8192, []⟩,
 ⟨(some 6), .faddr 0 (.t 2), none, 8200, []⟩,
 ⟨(some 7), .load false 1 (.t 6), none, 8208, [1]⟩,
 ⟨(some 8), .bin .geq (.t 5) (.t 7), none, 8216, [0, 2, 1]⟩,
 ⟨(some 9), .copy (.t 8), none, 8224, [3, 0, 2, 1]⟩,
 ⟨(some 10), .faddr 1 (.t 2), (some (4, 9, true)), 8232, [4, 3, 0, 2, 1]⟩,
 ⟨(some 11), .load false 1 (.t 10), (some (4, 9, true)), 8240, [5, 4, 3, 0, 2, 1]⟩,
 ⟨(some 12), .bin .eql (.t 11) (.c (.str [])), (some (4, 9, true)), 8248, [6, 5, 4, 3, 0, 2, 1]⟩,
 ⟨(some 13), .copy (.t 12), (some (4, 9, true)), 8256, [7, 6, 5, 4, 3, 0, 2, 1]⟩,
 ⟨(some 14), .copy (.t 1), (some (8, 13, false)), 8264, [8, 7, 6, 5, 4, 3, 0, 2, 1]⟩,
 ⟨(some 15), .faddr 1 (.t 2), (some (8, 13, false)), 8272, [8, 7, 6, 5, 4, 3, 0, 2, 1]⟩,
 ⟨(some 16), .load false 1 (.t 15), (some (8, 13, false)), 8280, [10, 8, 7, 6, 5, 4, 3, 0, 2, 1]⟩,
 ⟨(some 17), .bin .lss (.t 14) (.t 16), (some (8, 13, false)), 8288, [9, 8, 7, 6, 5, 4, 3, 0, 2, 1, 11, 10]⟩,
 ⟨(some 18), .pick (.t 13) (.c (.bool true)) (.t 17), (some (4, 9, true)), 8296, [8, 7, 6, 5, 4, 3, 0, 2, 1, 12, 9, 11, 10]⟩,
 ⟨(some 19), .pick (.t 9) (.t 18) (.c (.bool false)), none, 8304, [4, 3, 0, 2, 1, 13, 8, 7, 6, 5, 12, 9, 11, 10]⟩,
 ⟨(some 4), .copy (.t 19), none, 8312, [14, 4, 3, 0, 2, 1, 13, 8, 7, 6, 5, 12, 9, 11, 10]⟩])
 .ret))
theorem vf44 : VF Try.prog 44 = some (20, vc44, [.tmp 4]) := by kernel_rfl
/-- downspout/span.Moved -/
def vc45 : VCode :=
 (.seq
 (.region 0 false [
 ⟨(some 6), .copy (.c (.str [])), none, 0, []⟩,
 ⟨(some 7), .copy (.c (.bool false)), none, 8, [0]⟩])
 (.seq
 (.region 1 false [
 ⟨(some 11), .copy (.t 0), none, 8192, []⟩,
 ⟨(some 12), .copy (.t 1), none, 8200, []⟩,
 ⟨(some 13), .call (.c (.fn 63 [])) [(.t 11), (.t 12)], none, 8208, [0, 1]⟩,
 ⟨(some 10), .copy (.t 13), none, 8216, [2, 0, 1]⟩,
 ⟨(some 14), .extract (.t 10) 0, none, 8224, [3, 2, 0, 1]⟩,
 ⟨(some 15), .extract (.t 10) 1, none, 8232, [3, 2, 0, 1]⟩,
 ⟨(some 8), .copy (.t 14), none, 8240, [4, 3, 2, 0, 1]⟩,
 ⟨(some 9), .copy (.t 15), none, 8248, [5, 3, 2, 0, 1, 6, 4]⟩])
 (.seq
 (.seq
 (.region 2 false [
 ⟨(some 16), .copy (.t 9), none, 16384, []⟩,
 ⟨(some 17), .not (.t 16), none, 16392, [0]⟩])
 (.cond (.t 17)
 (.seq
 (.region 3 false [
 ⟨(some 6), .copy (.c (.str [])), none, 24576, []⟩,
 ⟨(some 7), .copy (.c (.bool false)), none, 24584, [0]⟩])
 .ret)
 .skip))
 (.seq
 (.region 4 false [
 ⟨(some 18), .copy (.t 2), none, 32768, []⟩,
 ⟨(some 19), .copy (.t 8), none, 32776, []⟩,
 ⟨(some 20), .bin .add (.t 18) (.t 19), none, 32784, [0, 1]⟩,
 ⟨(some 6), .copy (.t 20), none, 32792, [2, 0, 1]⟩,
 ⟨(some 7), .copy (.c (.bool true)), none, 32800, [3, 2, 0, 1]⟩])
 .ret))))
theorem vf45 : VF Try.prog 45 = some (21, vc45, [.tmp 6, .tmp 7]) := by kernel_rfl
/-- strings.CutPrefix -/
def vc63 : VCode :=
 (.seq
 (.region 0 false [
 ⟨(some 4), .copy (.c (.str [])), none, 0, []⟩,
 ⟨(some 5), .copy (.c (.bool false)), none, 8, [0]⟩])
 (.seq
 (.region 1 false [
 ⟨(some 6), .copy (.t 0), none, 8192, []⟩,
 ⟨(some 7), .copy (.t 1), none, 8200, []⟩,
 ⟨(some 8), .call (.c (.fn 70 [])) [(.t 6), (.t 7)], none, 8208, [0, 1]⟩,
 ⟨(some 9), .extract (.t 8) 0, none, 8216, [2, 0, 1]⟩,
 ⟨(some 10), .extract (.t 8) 1, none, 8224, [2, 0, 1]⟩,
 ⟨(some 4), .copy (.t 9), none, 8232, [3, 2, 0, 1, 4]⟩,
 ⟨(some 5), .copy (.t 10), none, 8240, [4, 2, 0, 1, 5, 3]⟩])
 .ret))
theorem vf63 : VF Try.prog 63 = some (11, vc63, [.tmp 4, .tmp 5]) := by kernel_rfl
/-- internal/stringslite.CutPrefix -/
def vc70 : VCode :=
 (.seq
 (.region 0 false [
 ⟨(some 4), .copy (.c (.str [])), none, 0, []⟩,
 ⟨(some 5), .copy (.c (.bool false)), none, 8, [0]⟩])
 (.seq
 (.seq
 (.region 1 false [
 ⟨(some 6), .copy (.t 0), none, 8192, []⟩,
 ⟨(some 7), .copy (.t 1), none, 8200, []⟩,
 ⟨(some 8), .call (.c (.fn 72 [])) [(.t 6), (.t 7)], none, 8208, [0, 1]⟩,
 ⟨(some 9), .not (.t 8), none, 8216, [2, 0, 1]⟩])
 (.cond (.t 9)
 (.seq
 (.region 2 false [
 ⟨(some 10), .copy (.t 0), none, 16384, []⟩,
 ⟨(some 4), .copy (.t 10), none, 16392, [0]⟩,
 ⟨(some 5), .copy (.c (.bool false)), none, 16400, [1, 0]⟩])
 .ret)
 .skip))
 (.seq
 (.region 3 false [
 ⟨(some 11), .copy (.t 0), none, 24576, []⟩,
 ⟨(some 12), .copy (.t 1), none, 24584, []⟩,
 ⟨(some 13), .lenS (.t 12), none, 24592, [1]⟩,
 ⟨(some 14), .slstr (.t 11) (some (.t 13)) none, none, 24600, [0, 2, 1]⟩,
 ⟨(some 4), .copy (.t 14), none, 24608, [3, 0, 2, 1]⟩,
 ⟨(some 5), .copy (.c (.bool true)), none, 24616, [4, 3, 0, 2, 1]⟩])
 .ret)))
theorem vf70 : VF Try.prog 70 = some (15, vc70, [.tmp 4, .tmp 5]) := by kernel_rfl
/-- internal/stringslite.HasPrefix -/
def vc72 : VCode :=
 (.seq
 (.region 0 false [
 ⟨(some 4), .copy (.c (.bool false)), none, 0, []⟩])
 (.seq
 (.region 1 false [
 ⟨(some 5), .copy (.t 0), none, 8192, []⟩,
 ⟨(some 6), .lenS (.t 5), none, 8200, [0]⟩,
 ⟨(some 7), .copy (.t 1), none, 8208, []⟩,
 ⟨(some 8), .lenS (.t 7), none, 8216, [2]⟩,
 ⟨(some 9), .bin .geq (.t 6) (.t 8), none, 8224, [1, 0, 3, 2]⟩,
 ⟨(some 10), .copy (.t 9), none, 8232, [4, 1, 0, 3, 2]⟩,
 ⟨(some 11), .copy (.t 0), (some (5, 10, true)), 8240, [5, 4, 1, 0, 3, 2]⟩,
 ⟨(some 12), .copy (.t 1), (some (5, 10, true)), 8248, [5, 4, 1, 0, 3, 2]⟩,
 ⟨(some 13), .lenS (.t 12), (some (5, 10, true)), 8256, [7, 5, 4, 1, 0, 3, 2]⟩,
 ⟨(some 14), .slstr (.t 11) none (some (.t 13)), (some (5, 10, true)), 8264, [6, 5, 4, 1, 0, 3, 2, 8, 7]⟩,
 ⟨(some 15), .copy (.t 1), (some (5, 10, true)), 8272, [5, 4, 1, 0, 3, 2]⟩,
 ⟨(some 16), .bin .eql (.t 14) (.t 15), (some (5, 10, true)), 8280, [9, 6, 5, 4, 1, 0, 3, 2, 8, 7, 10]⟩,
 ⟨(some 17), .pick (.t 10) (.t 16) (.c (.bool false)), none, 8288, [5, 4, 1, 0, 3, 2, 11, 9, 6, 8, 7, 10]⟩,
 ⟨(some 4), .copy (.t 17), none, 8296, [12, 5, 4, 1, 0, 3, 2, 11, 9, 6, 8, 7, 10]⟩])
 .ret))
theorem vf72 : VF Try.prog 72 = some (18, vc72, [.tmp 4]) := by kernel_rfl
theorem shas_vc (s : SpanL) (k : Str) : VC Try.prog 44 [.agg (encS s), .str k] [] (.bool (hasL s k)) [] := by
  refine vc_of vf44 ?_ (Nat.le_of_ble_eq_true rfl) (by intro vs h; cases h)
  repeat' first | refine o_copy ?_ | refine nl ?_ | refine ct_seq ?_ | refine rg ?_ | refine ct_block ?_ | refine bq ?_ | refine ct_skip ?_ | refine ct_exit ?_ | refine rt_next ?_ | refine cndt ?_ | refine cndf ?_ | refine o_copy ?_ | refine o_loads ?_ | refine o_loadp ?_ | refine o_faddr ?_ | refine o_bin ?_ | refine o_box ?_ | refine o_pickt ?_ | refine o_pickf ?_ | refine skF ?_ | refine skU ?_ | refine ct_ret ⟨.inr rfl, ?_⟩ | refine cnd (fun _ => ?_) (fun _ => ?_) | (refine glook (fun _ => ?_) (fun _ => ?_) <;> first | refine o_copy ?_ | refine o_loads ?_ | refine o_loadp ?_ | refine o_faddr ?_ | refine o_bin ?_ | refine o_box ?_ | refine o_pickt ?_ | refine o_pickf ?_ | refine skF ?_ | refine skU ?_)
  all_goals refine oB ?_
  all_goals simp_all [hasL]
theorem hasPrefix_vc (k p : Str) (hk : k.length ≤ 1000000000) (hp : p.length ≤ 1000000000) : VC Try.prog 72 [.str k, .str p] [] (.bool (beginsL k p)) [] := by
  refine vc_of vf72 ?_ (Nat.le_of_ble_eq_true rfl) (by intro vs h; cases h)
  repeat' first | refine o_copy ?_ | refine nl ?_ | refine ct_seq ?_ | refine rg ?_ | refine ct_block ?_ | refine bq ?_ | refine ct_skip ?_ | refine ct_exit ?_ | refine rt_next ?_ | refine cndt ?_ | refine cndf ?_ | refine o_slstr ?_ | refine o_copy ?_ | refine o_bin ?_ | refine o_pickt ?_ | refine o_pickf ?_ | refine o_lenS ?_ | refine skF ?_ | refine skU ?_ | refine ct_ret ⟨.inr rfl, ?_⟩ | refine cnd (fun _ => ?_) (fun _ => ?_) | (refine glook (fun _ => ?_) (fun _ => ?_) <;> first | refine o_slstr ?_ | refine o_copy ?_ | refine o_bin ?_ | refine o_pickt ?_ | refine o_pickf ?_ | refine o_lenS ?_ | refine skF ?_ | refine skU ?_)
  all_goals refine oB ?_
  all_goals simp_all [beginsL]
  all_goals omega
theorem cut_vc0 (k p : Str) (hk : k.length ≤ 1000000000) (hp : p.length ≤ 1000000000) : VC Try.prog 70 [.str k, .str p] [] (.tup [.str (if beginsL k p = true then k.drop p.length else k), .bool (beginsL k p)]) [] := by
  refine vc_of vf70 ?_ (Nat.le_of_ble_eq_true rfl) (by intro vs h; cases h; intro p hp q; rcases List.mem_cons.1 hp with rfl | hp <;> simp_all)
  have hl : beginsL k p = true → p.length ≤ k.length := fun h => by simp [beginsL] at h; exact h.1
  repeat' first | refine o_copy ?_ | refine nl ?_ | refine ct_seq ?_ | refine rg ?_ | refine ct_block ?_ | refine bq ?_ | refine ct_skip ?_ | refine ct_exit ?_ | refine rt_next ?_ | refine cndt ?_ | refine cndf ?_ | refine cv0 (hasPrefix_vc k p hk hp) ?_ | refine o_slstr ?_ | refine o_copy ?_ | refine o_not ?_ | refine o_lenS ?_ | refine ct_ret ⟨.inr rfl, ?_⟩ | refine cnd (fun _ => ?_) (fun _ => ?_) | (refine glook (fun _ => ?_) (fun _ => ?_) <;> first | refine cv0 (hasPrefix_vc k p hk hp) ?_ | refine o_slstr ?_ | refine o_copy ?_ | refine o_not ?_ | refine o_lenS ?_)
  all_goals refine oSB ?_
  all_goals simp_all
  all_goals (rw [List.take_of_length_le (by simp)])
theorem cut_vc (k p : Str) (hk : k.length ≤ 1000000000) (hp : p.length ≤ 1000000000) : VC Try.prog 63 [.str k, .str p] [] (.tup [.str (if beginsL k p = true then k.drop p.length else k), .bool (beginsL k p)]) [] := by
  refine vc_of vf63 ?_ (Nat.le_of_ble_eq_true rfl) (by intro vs h; cases h; intro p hp q; rcases List.mem_cons.1 hp with rfl | hp <;> simp_all)
  repeat' first | refine o_copy ?_ | refine nl ?_ | refine ct_seq ?_ | refine rg ?_ | refine ct_block ?_ | refine bq ?_ | refine ct_skip ?_ | refine ct_exit ?_ | refine rt_next ?_ | refine cndt ?_ | refine cndf ?_ | refine cv0 (cut_vc0 k p hk hp) ?_ | refine o_copy ?_ | refine o_extract ?_ | refine ct_ret ⟨.inr rfl, ?_⟩ | refine cnd (fun _ => ?_) (fun _ => ?_) | (refine glook (fun _ => ?_) (fun _ => ?_) <;> first | refine cv0 (cut_vc0 k p hk hp) ?_ | refine o_copy ?_ | refine o_extract ?_)
  all_goals exact oSB rfl
theorem smoved_vc (k f t : Str) (hk : k.length ≤ 1000000000) (hf : f.length ≤ 1000000000) (ht : t.length ≤ 1000000000) : VC Try.prog 45 [.str k, .str f, .str t] [] (.tup [.str (movedL k f t).1, .bool (movedL k f t).2]) [] := by
  refine vc_of vf45 ?_ (Nat.le_of_ble_eq_true rfl) (by intro vs h; cases h; intro p hp q; rcases List.mem_cons.1 hp with rfl | hp <;> simp_all)
  by_cases hb : beginsL k f = true
  · have hc := cut_vc k f hk hf
    rw [if_pos hb] at hc
    have hl : (k.drop f.length).length ≤ 1000000000 := by simp; omega
    repeat' first | refine o_copy ?_ | refine nl ?_ | refine ct_seq ?_ | refine rg ?_ | refine ct_block ?_ | refine bq ?_ | refine ct_skip ?_ | refine ct_exit ?_ | refine rt_next ?_ | refine cndt ?_ | refine cndf ?_ | refine cv0 hc ?_ | refine o_copy ?_ | refine o_add ?_ | refine o_cat ?_ | refine o_bin ?_ | refine o_not ?_ | refine o_extract ?_ | refine ct_ret ⟨.inr rfl, ?_⟩ | refine cnd (fun _ => ?_) (fun _ => ?_) | (refine glook (fun _ => ?_) (fun _ => ?_) <;> first | refine cv0 hc ?_ | refine o_copy ?_ | refine o_add ?_ | refine o_cat ?_ | refine o_bin ?_ | refine o_not ?_ | refine o_extract ?_)
    all_goals refine oSB ?_
    all_goals simp_all [movedL]
  · have hc := cut_vc k f hk hf
    rw [if_neg hb] at hc
    repeat' first | refine o_copy ?_ | refine nl ?_ | refine ct_seq ?_ | refine rg ?_ | refine ct_block ?_ | refine bq ?_ | refine ct_skip ?_ | refine ct_exit ?_ | refine rt_next ?_ | refine cndt ?_ | refine cndf ?_ | refine cv0 hc ?_ | refine o_copy ?_ | refine o_add ?_ | refine o_cat ?_ | refine o_bin ?_ | refine o_not ?_ | refine o_extract ?_ | refine ct_ret ⟨.inr rfl, ?_⟩ | refine cnd (fun _ => ?_) (fun _ => ?_) | (refine glook (fun _ => ?_) (fun _ => ?_) <;> first | refine cv0 hc ?_ | refine o_copy ?_ | refine o_add ?_ | refine o_cat ?_ | refine o_bin ?_ | refine o_not ?_ | refine o_extract ?_)
    all_goals refine oSB ?_
    all_goals simp_all [movedL]
theorem set_take {p : Str} {n : Nat} {c : UInt8} (h : n < p.length) : (p.set n c).take (n + 1) = p.take n ++ [c] := by
  rw [List.take_add_one, List.take_set, List.set_eq_of_length_le (by simp; omega)]
  simp [h]
set_option maxHeartbeats 1000000 in
theorem prefix_vc (p : Str) (hp : p.length ≤ 1000000000) : VC Try.prog 42 [.str p] [] (.agg (encS (prefixL p))) [] := by
  refine vc_of vf42 ?_ (Nat.le_of_ble_eq_true rfl) (by intro vs h; cases h)
  repeat first | refine o_copy ?_ | refine nl ?_ | refine ct_seq ?_ | refine rg ?_ | refine ct_block ?_ | refine bq ?_ | refine o_loads ?_ | refine o_loadp ?_ | refine o_iaddr ?_ | refine o_iaddrO ?_ | refine o_iaddrR ?_ | refine o_b2sR ?_ | refine o_add ?_ | refine o_sub ?_ | refine o_cat ?_ | refine o_bin ?_ | refine o_lenq ?_ | refine o_len ?_ | refine o_alloc ?_ | refine o_s2b ?_ | refine o_store ?_ | refine o_pickt ?_ | refine o_pickf ?_ | refine o_build ?_ | refine skF ?_ | refine skU ?_
  refine ct_loopG (fun (g : Nat) => [(0, .str p), (2, .ptr ⟨1, 0⟩ 1 0 0), (3, .own ⟨1, 8200⟩ (p.map encB).length 0 g)])
    (fun g => [(⟨1, 0⟩, ⟨true, false, 2, [[.str [], .str []]]⟩), (⟨1, 8200⟩, blkV 1 (p.map encB))]) (fun g => g)
    (fun g => g ≤ p.length ∧ stripN p g = stripN p p.length) p.length (goes (h1 := by refine ⟨rfl, rfl, ?_, trivial⟩; simp; rfl)) ⟨Nat.le_refl _, rfl⟩ ?_
  rintro n ⟨hn, hs⟩
  (try dsimp only)
  have hel : (p.map encB).length = p.length := List.length_map ..
  repeat first | refine o_copy ?_ | refine nl ?_ | refine ct_seq ?_ | refine rg ?_ | refine ct_block ?_ | refine bq ?_ | refine o_loads ?_ | refine o_loadp ?_ | refine o_iaddr ?_ | refine o_iaddrO ?_ | refine o_iaddrR ?_ | refine o_b2sR ?_ | refine o_add ?_ | refine o_sub ?_ | refine o_cat ?_ | refine o_bin ?_ | refine o_lenq ?_ | refine o_len ?_ | refine o_alloc ?_ | refine o_s2b ?_ | refine o_store ?_ | refine o_pickt ?_ | refine o_pickf ?_ | refine o_build ?_ | refine skF ?_ | refine skU ?_
  refine glook (fun hg => ?_) (fun hg => ?_)
  · have hpos : 0 < n := by have := of_decide_eq_true hg; omega
    obtain ⟨m, rfl⟩ : ∃ m, n = m + 1 := ⟨n - 1, by omega⟩
    obtain ⟨c, hc⟩ : ∃ c, p[m]? = some c := ⟨_, List.getElem?_eq_getElem (by omega)⟩
    have hce : (blkV 1 (p.map encB)).els[0 + (((m + 1 : Nat) : Int) - 1).toNat]? = some (encB c) := by
      rw [show 0 + (((m + 1 : Nat) : Int) - 1).toNat = m by omega]
      show (p.map encB)[m]? = _
      rw [List.getElem?_map, hc]; rfl
    repeat first | refine o_copy ?_ | refine nl ?_ | refine ct_seq ?_ | refine rg ?_ | refine ct_block ?_ | refine bq ?_ | refine o_iaddrG ?_ | refine o_loads ?_ | refine o_loadp ?_ | refine o_iaddr ?_ | refine o_iaddrO ?_ | refine o_iaddrR ?_ | refine o_b2sR ?_ | refine o_add ?_ | refine o_sub ?_ | refine o_cat ?_ | refine o_bin ?_ | refine o_lenq ?_ | refine o_len ?_ | refine o_alloc ?_ | refine o_s2b ?_ | refine o_store ?_ | refine o_pickt ?_ | refine o_pickf ?_ | refine o_build ?_ | refine skF ?_ | refine skU ?_
    refine cnd (fun h => ct_skip ?_) (fun h => ct_exit ?_)
    · have hc255 : p[m]? = some 255 := by
        rw [hc]; congr 1
        have : (c.toNat : Int) = 255 := by simpa using h
        exact UInt8.toNat_inj.1 (by show c.toNat = 255; omega)
      repeat first | refine o_copy ?_ | refine nl ?_ | refine ct_seq ?_ | refine rg ?_ | refine ct_block ?_ | refine bq ?_ | refine o_slslO ?_ | refine o_loads ?_ | refine o_loadp ?_ | refine o_iaddr ?_ | refine o_iaddrO ?_ | refine o_iaddrR ?_ | refine o_b2sR ?_ | refine o_add ?_ | refine o_sub ?_ | refine o_cat ?_ | refine o_bin ?_ | refine o_lenq ?_ | refine o_len ?_ | refine o_alloc ?_ | refine o_s2b ?_ | refine o_store ?_ | refine o_pickt ?_ | refine o_pickf ?_ | refine o_build ?_ | refine skF ?_ | refine skU ?_
      refine agn m ⟨by omega, ?_⟩ (goes (h1 := by refine ⟨rfl, rfl, congrArg (fun x => some (PV.own ⟨1, 8200⟩ (p.map encB).length 0 x)) (?_ : (((m + 1 : Nat) : Int) - 1).toNat - Int.toNat 0 = m), trivial⟩; omega))
      rw [← hs, stripN, if_pos hc255]
    · have hne : ¬ p[m]? = some 255 := by
        rw [hc]
        intro e
        cases e
        exact absurd h (by decide)
      have hst : stripN p (m + 1) = m + 1 := by rw [stripN, if_neg hne]
      repeat first | refine o_copy ?_ | refine nl ?_ | refine ct_seq ?_ | refine rg ?_ | refine ct_block ?_ | refine bq ?_ | refine o_loads ?_ | refine o_loadp ?_ | refine o_iaddr ?_ | refine o_iaddrO ?_ | refine o_iaddrR ?_ | refine o_b2sR ?_ | refine o_add ?_ | refine o_sub ?_ | refine o_cat ?_ | refine o_bin ?_ | refine o_lenq ?_ | refine o_len ?_ | refine o_alloc ?_ | refine o_s2b ?_ | refine o_store ?_ | refine o_pickt ?_ | refine o_pickf ?_ | refine o_build ?_ | refine skF ?_ | refine skU ?_
      refine cndt ?_ rfl (decide_eq_true (by omega))
      have hw := wrap_u8_add c
      have hset := set_take (p := p) (n := m) (c := c + 1) (by omega)
      have hmm : 0 + (((m + 1 : Nat) : Int) - 1).toNat = m := by omega
      have hb2 : (((p.set (0 + (((m + 1 : Nat) : Int) - 1).toNat) (c + 1)).map encB).drop 0).take (m + 1) = (p.take m ++ [c + 1]).map encB := by rw [hmm, List.drop_zero, ← List.map_take, hset]
      repeat first | refine o_copy ?_ | refine nl ?_ | refine ct_seq ?_ | refine rg ?_ | refine ct_block ?_ | refine bq ?_ | refine o_iaddrG ?_ | refine o_addE ?_ | refine o_v (vst encB (c + 1)) ?_ | refine o_b2sO hb2 ?_ | refine o_loads ?_ | refine o_loadp ?_ | refine o_iaddr ?_ | refine o_iaddrO ?_ | refine o_iaddrR ?_ | refine o_b2sR ?_ | refine o_add ?_ | refine o_sub ?_ | refine o_cat ?_ | refine o_bin ?_ | refine o_lenq ?_ | refine o_len ?_ | refine o_alloc ?_ | refine o_s2b ?_ | refine o_store ?_ | refine o_pickt ?_ | refine o_pickf ?_ | refine o_build ?_ | refine skF ?_ | refine skU ?_
      refine ct_ret ⟨.inr rfl, oC ?_⟩
      have : upL p = p.take m ++ [c + 1] := by
        unfold upL
        rw [← hs, hst]
        simp [List.getD, hc]
      rw [show prefixL p = ⟨p, upL p⟩ from rfl, this]
      rfl
  · have h0 : n = 0 := by have := of_decide_eq_false hg; omega
    subst h0
    repeat first | refine o_copy ?_ | refine nl ?_ | refine ct_seq ?_ | refine rg ?_ | refine ct_block ?_ | refine bq ?_ | refine o_loads ?_ | refine o_loadp ?_ | refine o_iaddr ?_ | refine o_iaddrO ?_ | refine o_iaddrR ?_ | refine o_b2sR ?_ | refine o_add ?_ | refine o_sub ?_ | refine o_cat ?_ | refine o_bin ?_ | refine o_lenq ?_ | refine o_len ?_ | refine o_alloc ?_ | refine o_s2b ?_ | refine o_store ?_ | refine o_pickt ?_ | refine o_pickf ?_ | refine o_build ?_ | refine skF ?_ | refine skU ?_
    refine cndf (ct_exit ?_)
    repeat first | refine o_copy ?_ | refine nl ?_ | refine ct_seq ?_ | refine rg ?_ | refine ct_block ?_ | refine bq ?_ | refine o_loads ?_ | refine o_loadp ?_ | refine o_iaddr ?_ | refine o_iaddrO ?_ | refine o_iaddrR ?_ | refine o_b2sR ?_ | refine o_add ?_ | refine o_sub ?_ | refine o_cat ?_ | refine o_bin ?_ | refine o_lenq ?_ | refine o_len ?_ | refine o_alloc ?_ | refine o_s2b ?_ | refine o_store ?_ | refine o_pickt ?_ | refine o_pickf ?_ | refine o_build ?_ | refine skF ?_ | refine skU ?_
    refine cndf (ct_skip ?_) rfl (by simp)
    have hb2 : (((p.map encB).drop 0).take 0) = ([] : Str).map encB := rfl
    repeat first | refine o_copy ?_ | refine nl ?_ | refine ct_seq ?_ | refine rg ?_ | refine ct_block ?_ | refine bq ?_ | refine o_b2sO hb2 ?_ | refine o_loads ?_ | refine o_loadp ?_ | refine o_iaddr ?_ | refine o_iaddrO ?_ | refine o_iaddrR ?_ | refine o_b2sR ?_ | refine o_add ?_ | refine o_sub ?_ | refine o_cat ?_ | refine o_bin ?_ | refine o_lenq ?_ | refine o_len ?_ | refine o_alloc ?_ | refine o_s2b ?_ | refine o_store ?_ | refine o_pickt ?_ | refine o_pickf ?_ | refine o_build ?_ | refine skF ?_ | refine skU ?_
    refine ct_ret ⟨.inr rfl, oC ?_⟩
    have : upL p = [] := by
      unfold upL
      rw [← hs]
      rfl
    rw [show prefixL p = ⟨p, upL p⟩ from rfl, this]
    rfl
end Go.Proofs
open Go.V Go.Pu
set_option linter.unusedVariables false
set_option linter.unusedSimpArgs false
set_option maxRecDepth 20000
namespace Go.Proofs
/-- downspout/lock.Moved$1 -/
def vc43 : VCode :=
 (.seq
 (.region 0 false [
 ⟨(some 5), .copy (.c .nils), none, 0, []⟩])
 (.seq
 (.region 1 false [
 ⟨(some 6), .copy (.c .nils), none, 8192, []⟩])
 (.seq
 (.seq
 (.region 2 false [
 ⟨(some 11), .copy (.t 0), none, 16384, []⟩,
 ⟨(some 12), .len (.t 11), none, 16392, [0]⟩,
 ⟨(some 13), .copy (.c (.int .i64 0)), none, 16400, []⟩])
 (.block 0
 (.loop
 (.seq
 (.region 3 false [
 ⟨(some 14), .bin .lss (.t 13) (.t 12), none, 24576, []⟩])
 (.seq
 (.cond (.t 14)
 .skip
 (.exit 0))
 (.seq
 (.block 1
 (.seq
 (.region 4 false [
 ⟨(some 15), .iaddr 5 (.t 11) (.t 13), none, 32768, []⟩,
 ⟨(some 16), .load true 5 (.t 15), none, 32776, [0]⟩,
 ⟨(some 8), .alloc [(.int .i64 0), (.str []), (.int .i64 0), (.int .i64 0), (.bool false)], none, 32784, []⟩,
 ⟨none, .store 5 (.t 8) (.t 16), none, 32792, [2, 1, 0]⟩])
 (.seq
 (.seq
 (.region 5 false [
 ⟨(some 17), .load true 2 (.t 1), none, 40960, []⟩,
 ⟨(some 18), .faddr 1 (.t 8), none, 40968, []⟩,
 ⟨(some 19), .load false 1 (.t 18), none, 40976, [1]⟩,
 ⟨(some 20), .call (.c (.fn 44 [])) [(.t 17), (.t 19)], none, 40984, [0, 2, 1]⟩])
 (.cond (.t 20)
 (.exit 1)
 .skip))
 (.seq
 (.seq
 (.region 6 false [
 ⟨(some 22), .faddr 1 (.t 8), none, 49152, []⟩,
 ⟨(some 23), .load false 1 (.t 22), none, 49160, [0]⟩,
 ⟨(some 24), .load false 1 (.t 2), none, 49168, []⟩,
 ⟨(some 25), .load false 1 (.t 3), none, 49176, []⟩,
 ⟨(some 26), .call (.c (.fn 45 [])) [(.t 23), (.t 24), (.t 25)], none, 49184, [1, 0, 2, 3]⟩,
 ⟨(some 21), .copy (.t 26), none, 49192, [4, 1, 0, 2, 3]⟩,
 ⟨(some 27), .extract (.t 21) 0, none, 49200, [5, 4, 1, 0, 2, 3]⟩,
 ⟨(some 28), .extract (.t 21) 1, none, 49208, [5, 4, 1, 0, 2, 3]⟩,
 ⟨(some 9), .copy (.t 27), none, 49216, [6, 5, 4, 1, 0, 2, 3]⟩,
 ⟨(some 10), .copy (.t 28), none, 49224, [7, 5, 4, 1, 0, 2, 3, 8, 6]⟩])
 (.seq
 (.region 7 false [
 ⟨(some 29), .copy (.t 10), none, 57344, []⟩])
 (.cond (.t 29)
 (.region 8 false [
 ⟨(some 30), .copy (.t 9), none, 65536, []⟩,
 ⟨(some 31), .faddr 1 (.t 8), none, 65544, [0]⟩,
 ⟨none, .store 1 (.t 31) (.t 30), none, 65552, [1, 0]⟩])
 .skip)))
 (.region 9 false [
 ⟨(some 32), .copy (.t 6), none, 73728, []⟩,
 ⟨(some 33), .load true 5 (.t 8), none, 73736, []⟩,
 ⟨(some 34), .bslice 5 [(.int .i64 0), (.str []), (.int .i64 0), (.int .i64 0), (.bool false)] 1 [(0, (.t 33))], none, 73744, [1]⟩,
 ⟨(some 35), .append 5 48 [(.int .i64 0), (.str []), (.int .i64 0), (.int .i64 0), (.bool false)] (.t 32) (.t 34), none, 73752, [0, 2, 1]⟩,
 ⟨(some 6), .copy (.t 35), none, 73760, [3, 0, 2, 1]⟩])))))
 (.region 10 false [
 ⟨(some 36), .bin .add (.t 13) (.c (.int .i64 1)), none, 81920, []⟩,
 ⟨(some 13), .copy (.t 36), none, 81928, [0]⟩])))))))
 (.seq
 (.region 11 false [
 ⟨(some 37), .copy (.t 6), none, 90112, []⟩,
 ⟨(some 5), .copy (.t 37), none, 90120, [0]⟩])
 .ret))))
theorem vf43 : VF Try.prog 43 = some (38, vc43, [.tmp 5]) := by kernel_rfl
/-- downspout/lock.Moved -/
def vc20 : VCode :=
 (.seq
 (.region 0 false [
 ⟨(some 3), .box (.t 0), none, 0, []⟩,
 ⟨(some 4), .box (.t 1), none, 8, []⟩,
 ⟨(some 5), .box (.t 2), none, 16, []⟩,
 ⟨(some 6), .alloc [.nils, .nils], none, 24, []⟩])
 (.seq
 (.region 1 false [
 ⟨(some 11), .load false 1 (.t 5), none, 8192, []⟩,
 ⟨(some 12), .call (.c (.fn 42 [])) [(.t 11)], none, 8200, [0]⟩,
 ⟨(some 7), .alloc [(.str []), (.str [])], none, 8208, []⟩,
 ⟨none, .store 2 (.t 7) (.t 12), none, 8216, [2, 1, 0]⟩])
 (.seq
 (.region 2 false [
 ⟨(some 13), .fn 43 [(.t 7), (.t 4), (.t 5)], none, 16384, []⟩,
 ⟨(some 8), .copy (.t 13), none, 16392, [0]⟩])
 (.seq
 (.region 3 true [
 ⟨(some 15), .copy (.t 8), none, 24576, []⟩,
 ⟨(some 16), .faddr 0 (.t 3), none, 24584, []⟩,
 ⟨(some 17), .load false 1 (.t 16), none, 24592, [1]⟩,
 ⟨(some 18), .call (.t 15) [(.t 17)], none, 24600, [0, 2, 1]⟩,
 ⟨(some 19), .copy (.t 8), none, 24608, []⟩,
 ⟨(some 20), .faddr 1 (.t 3), none, 24616, []⟩,
 ⟨(some 21), .load false 1 (.t 20), none, 24624, [5]⟩,
 ⟨(some 22), .call (.t 19) [(.t 21)], none, 24632, [4, 6, 5, 3, 0, 2, 1]⟩,
 ⟨(some 23), .call (.c (.fn 46 [])) [(.t 18), (.t 22)], none, 24640, [3, 0, 2, 1, 7, 4, 6, 5]⟩,
 ⟨(some 14), .copy (.t 23), none, 24648, [8, 3, 0, 2, 1, 7, 4, 6, 5]⟩,
 ⟨(some 24), .extract (.t 14) 0, none, 24656, [9, 8, 3, 0, 2, 1, 7, 4, 6, 5]⟩,
 ⟨(some 25), .extract (.t 14) 1, none, 24664, [9, 8, 3, 0, 2, 1, 7, 4, 6, 5]⟩,
 ⟨(some 9), .alloc [.nils, .nils], none, 24672, []⟩,
 ⟨none, .store 2 (.t 9) (.t 24), none, 24680, [12, 10, 9, 8, 3, 0, 2, 1, 7, 4, 6, 5]⟩,
 ⟨(some 10), .copy (.t 25), none, 24688, [11, 9, 8, 3, 0, 2, 1, 7, 4, 6, 5, 13, 12, 10]⟩])
 (.seq
 (.region 4 false [
 ⟨(some 26), .load true 2 (.t 9), none, 32768, []⟩,
 ⟨none, .store 2 (.t 6) (.t 26), none, 32776, [0]⟩])
 .ret)))))
theorem vf20 : VF Try.prog 20 = some (27, vc20, [.cell true 2 6]) := by kernel_rfl
abbrev bxS (s : SpanL) : Blk := ⟨true, false, 2, [encS s]⟩
abbrev bxT (s : Str) : Blk := ⟨true, false, 1, [[.str s]]⟩
set_option maxHeartbeats 2000000 in
theorem ren_vc {l : List LockL} (hl : l.length ≤ 20000) (f t : Str) (hp : lenP l 100000000) (hf : f.length ≤ 100000000) (ht : t.length ≤ 100000000) :
    VC Try.prog 43 [.sh false (l.map encL), .ptr ⟨0, 0⟩ 1 0 0, .ptr ⟨0, 1⟩ 1 0 0, .ptr ⟨0, 2⟩ 1 0 0] [bxS (prefixL t), bxT f, bxT t] (ownV ⟨0, 3⟩ ((renL l f t).map encL)) [bxS (prefixL t), bxT f, bxT t, blkV 5 ((renL l f t).map encL)] := by
  refine vc_of vf43 ?_ (Nat.le_of_ble_eq_true rfl) (by intro vs h; cases h)
  refine ct_seq (rg ?_)
  repeat first | refine o_copy ?_ | refine o_loads ?_ | refine o_loadp ?_ | refine o_faddr ?_ | refine o_iaddr ?_ | refine o_iaddrO ?_ | refine o_iaddrR ?_ | refine o_add ?_ | refine o_cat ?_ | refine o_bin ?_ | refine o_lenq ?_ | refine o_len ?_ | refine o_loadsA ?_ | refine o_loadpA ?_ | refine o_alloc ?_ | refine o_bslice ?_ | refine o_store ?_ | refine o_extract ?_
  refine nl ?_
  refine ct_seq (rg ?_)
  repeat first | refine o_copy ?_ | refine o_loads ?_ | refine o_loadp ?_ | refine o_faddr ?_ | refine o_iaddr ?_ | refine o_iaddrO ?_ | refine o_iaddrR ?_ | refine o_add ?_ | refine o_cat ?_ | refine o_bin ?_ | refine o_lenq ?_ | refine o_len ?_ | refine o_loadsA ?_ | refine o_loadpA ?_ | refine o_alloc ?_ | refine o_bslice ?_ | refine o_store ?_ | refine o_extract ?_
  refine nl ?_
  refine ct_imp (Imp.nil (t := 6) (b := ⟨1, 9⟩) (esz := 5) rfl rfl (by decide)) ?_
  repeat first | refine o_copy ?_ | refine nl ?_ | refine ct_seq ?_ | refine rg ?_ | refine ct_block ?_ | refine bq ?_ | refine o_loads ?_ | refine o_loadp ?_ | refine o_faddr ?_ | refine o_iaddr ?_ | refine o_iaddrO ?_ | refine o_iaddrR ?_ | refine o_add ?_ | refine o_cat ?_ | refine o_bin ?_ | refine o_lenq ?_ | refine o_len ?_ | refine o_loadsA ?_ | refine o_loadpA ?_ | refine o_alloc ?_ | refine o_bslice ?_ | refine o_store ?_ | refine o_extract ?_
  refine ct_loopG (fun (g : Nat × List LockL) => [(1, .ptr ⟨0, 0⟩ 1 0 0), (2, .ptr ⟨0, 1⟩ 1 0 0), (3, .ptr ⟨0, 2⟩ 1 0 0), (6, ownV ⟨1, 9⟩ (g.2.map encL)), (11, .sh false (l.map encL)), (12, .int .i64 (l.map encL).length), (13, .int .i64 g.1)])
    (fun g => [(⟨0, 0⟩, bxS (prefixL t)), (⟨0, 1⟩, bxT f), (⟨0, 2⟩, bxT t), (⟨1, 9⟩, blkV 5 (g.2.map encL))]) (fun g => l.length - g.1)
    (fun g => g.1 ≤ l.length ∧ g.2 = renL (l.take g.1) f t) (0, []) goesD ⟨Nat.zero_le _, rfl⟩ ?_
  rintro ⟨i, ys⟩ ⟨hi, hv⟩
  dsimp only at hi hv ⊢
  repeat first | refine o_copy ?_ | refine nl ?_ | refine ct_seq ?_ | refine rg ?_ | refine ct_block ?_ | refine bq ?_ | refine o_loads ?_ | refine o_loadp ?_ | refine o_faddr ?_ | refine o_iaddr ?_ | refine o_iaddrO ?_ | refine o_iaddrR ?_ | refine o_add ?_ | refine o_cat ?_ | refine o_bin ?_ | refine o_lenq ?_ | refine o_len ?_ | refine o_loadsA ?_ | refine o_loadpA ?_ | refine o_alloc ?_ | refine o_bslice ?_ | refine o_store ?_ | refine o_extract ?_
  refine cnd (fun h => ct_skip ?_) (fun h => ct_exit ?_)
  · have hlt : i < l.length := by have h' := of_decide_eq_true h; simp only [List.length_map] at h'; omega
    obtain ⟨x, hx⟩ : ∃ y, l[i]? = some y := ⟨_, List.getElem?_eq_getElem hlt⟩
    have hxe := gm (enc := encL) (n := (i : Int)) hx (by omega)
    have hxp := hp x (List.mem_of_getElem? hx)
    have hyl : ys.length ≤ l.length := by
      rw [hv]
      exact Nat.le_trans (ren_len _ _ _) (by simp; omega)
    have hst := ren_step hx f t
    have hb := shas_vc (prefixL t) x.path
    rw [prefix_has] at hb
    have hm := smoved_vc x.path f t (by omega) (by omega) (by omega)
    cases hbt : beginsL x.path t with
    | true =>
      rw [hbt, if_pos rfl] at hst
      rw [hbt] at hb
      repeat first | refine o_copy ?_ | refine nl ?_ | refine ct_seq ?_ | refine rg ?_ | refine ct_block ?_ | refine bq ?_ | refine cv0 hb ?_ | refine o_loads ?_ | refine o_loadp ?_ | refine o_faddr ?_ | refine o_iaddr ?_ | refine o_iaddrO ?_ | refine o_iaddrR ?_ | refine o_add ?_ | refine o_cat ?_ | refine o_bin ?_ | refine o_lenq ?_ | refine o_len ?_ | refine o_loadsA ?_ | refine o_loadpA ?_ | refine o_alloc ?_ | refine o_bslice ?_ | refine o_store ?_ | refine o_extract ?_
      refine cndt (ct_exit ?_)
      repeat first | refine o_copy ?_ | refine nl ?_ | refine ct_seq ?_ | refine rg ?_ | refine ct_block ?_ | refine bq ?_ | refine o_loads ?_ | refine o_loadp ?_ | refine o_faddr ?_ | refine o_iaddr ?_ | refine o_iaddrO ?_ | refine o_iaddrR ?_ | refine o_add ?_ | refine o_cat ?_ | refine o_bin ?_ | refine o_lenq ?_ | refine o_len ?_ | refine o_loadsA ?_ | refine o_loadpA ?_ | refine o_alloc ?_ | refine o_bslice ?_ | refine o_store ?_ | refine o_extract ?_
      exact agn (Q := fun _ _ => True) (i + 1, ys) ⟨by simp only; omega, by simp only; rw [hst, hv]; simp⟩ goesD
    | false =>
      rw [hbt, if_neg (by simp)] at hst
      rw [hbt] at hb
      cases hbf : beginsL x.path f with
      | true =>
        rw [hbf, if_pos rfl] at hst
        have hm2 : (movedL x.path f t).2 = true := by simp [movedL, hbf]
        rw [hm2] at hm
        repeat first | refine o_copy ?_ | refine nl ?_ | refine ct_seq ?_ | refine rg ?_ | refine ct_block ?_ | refine bq ?_ | refine cv0 hb ?_ | refine o_loads ?_ | refine o_loadp ?_ | refine o_faddr ?_ | refine o_iaddr ?_ | refine o_iaddrO ?_ | refine o_iaddrR ?_ | refine o_add ?_ | refine o_cat ?_ | refine o_bin ?_ | refine o_lenq ?_ | refine o_len ?_ | refine o_loadsA ?_ | refine o_loadpA ?_ | refine o_alloc ?_ | refine o_bslice ?_ | refine o_store ?_ | refine o_extract ?_
        refine cndf (ct_skip ?_)
        repeat first | refine o_copy ?_ | refine nl ?_ | refine ct_seq ?_ | refine rg ?_ | refine ct_block ?_ | refine bq ?_ | refine cv0 hm ?_ | refine o_loads ?_ | refine o_loadp ?_ | refine o_faddr ?_ | refine o_iaddr ?_ | refine o_iaddrO ?_ | refine o_iaddrR ?_ | refine o_add ?_ | refine o_cat ?_ | refine o_bin ?_ | refine o_lenq ?_ | refine o_len ?_ | refine o_loadsA ?_ | refine o_loadpA ?_ | refine o_alloc ?_ | refine o_bslice ?_ | refine o_store ?_ | refine o_extract ?_
        refine cndt ?_
        repeat first | refine o_copy ?_ | refine nl ?_ | refine ct_seq ?_ | refine rg ?_ | refine ct_block ?_ | refine bq ?_ | refine o_v (vap encL { x with path := (movedL x.path f t).1 }) ?_ | refine o_loads ?_ | refine o_loadp ?_ | refine o_faddr ?_ | refine o_iaddr ?_ | refine o_iaddrO ?_ | refine o_iaddrR ?_ | refine o_add ?_ | refine o_cat ?_ | refine o_bin ?_ | refine o_lenq ?_ | refine o_len ?_ | refine o_loadsA ?_ | refine o_loadpA ?_ | refine o_alloc ?_ | refine o_bslice ?_ | refine o_store ?_ | refine o_extract ?_
        exact agn (Q := fun _ _ => True) (i + 1, ys ++ [{ x with path := (movedL x.path f t).1 }]) ⟨by simp only; omega, by simp only; rw [hst, hv]⟩ goesD
      | false =>
        rw [hbf, if_neg (by simp)] at hst
        have hm2 : (movedL x.path f t).2 = false := by simp [movedL, hbf]
        rw [hm2] at hm
        repeat first | refine o_copy ?_ | refine nl ?_ | refine ct_seq ?_ | refine rg ?_ | refine ct_block ?_ | refine bq ?_ | refine cv0 hb ?_ | refine o_loads ?_ | refine o_loadp ?_ | refine o_faddr ?_ | refine o_iaddr ?_ | refine o_iaddrO ?_ | refine o_iaddrR ?_ | refine o_add ?_ | refine o_cat ?_ | refine o_bin ?_ | refine o_lenq ?_ | refine o_len ?_ | refine o_loadsA ?_ | refine o_loadpA ?_ | refine o_alloc ?_ | refine o_bslice ?_ | refine o_store ?_ | refine o_extract ?_
        refine cndf (ct_skip ?_)
        repeat first | refine o_copy ?_ | refine nl ?_ | refine ct_seq ?_ | refine rg ?_ | refine ct_block ?_ | refine bq ?_ | refine cv0 hm ?_ | refine o_loads ?_ | refine o_loadp ?_ | refine o_faddr ?_ | refine o_iaddr ?_ | refine o_iaddrO ?_ | refine o_iaddrR ?_ | refine o_add ?_ | refine o_cat ?_ | refine o_bin ?_ | refine o_lenq ?_ | refine o_len ?_ | refine o_loadsA ?_ | refine o_loadpA ?_ | refine o_alloc ?_ | refine o_bslice ?_ | refine o_store ?_ | refine o_extract ?_
        refine cndf (ct_skip ?_)
        repeat first | refine o_copy ?_ | refine nl ?_ | refine ct_seq ?_ | refine rg ?_ | refine ct_block ?_ | refine bq ?_ | refine o_v (vap encL x) ?_ | refine o_loads ?_ | refine o_loadp ?_ | refine o_faddr ?_ | refine o_iaddr ?_ | refine o_iaddrO ?_ | refine o_iaddrR ?_ | refine o_add ?_ | refine o_cat ?_ | refine o_bin ?_ | refine o_lenq ?_ | refine o_len ?_ | refine o_loadsA ?_ | refine o_loadpA ?_ | refine o_alloc ?_ | refine o_bslice ?_ | refine o_store ?_ | refine o_extract ?_
        exact agn (Q := fun _ _ => True) (i + 1, ys ++ [x]) ⟨by simp only; omega, by simp only; rw [hst, hv]⟩ goesD
  · have hge : i = l.length := by have h' := of_decide_eq_false h; simp only [List.length_map] at h'; omega
    subst hge
    rw [List.take_length] at hv
    subst hv
    repeat first | refine o_copy ?_ | refine nl ?_ | refine ct_seq ?_ | refine rg ?_ | refine ct_block ?_ | refine bq ?_ | refine o_loads ?_ | refine o_loadp ?_ | refine o_faddr ?_ | refine o_iaddr ?_ | refine o_iaddrO ?_ | refine o_iaddrR ?_ | refine o_add ?_ | refine o_cat ?_ | refine o_bin ?_ | refine o_lenq ?_ | refine o_len ?_ | refine o_loadsA ?_ | refine o_loadpA ?_ | refine o_alloc ?_ | refine o_bslice ?_ | refine o_store ?_ | refine o_extract ?_
    refine ct_ret ⟨.inr rfl, ?_⟩
    exact oG [⟨1, 9⟩] (v' := ownV ⟨0, 3⟩ ((renL l f t).map encL)) (hout' := [bxS (prefixL t), bxT f, bxT t, blkV 5 ((renL l f t).map encL)])
theorem l_two' {hf : HF} {a b : Bid} {h w : List LockL} (ha : hf a = some (blkV 5 (h.map encL))) (hb : hf b = some (blkV 5 (w.map encL))) :
    lendVs hf [] [ownV a (h.map encL), ownV b (w.map encL)] = some ([a, b], [.sh false (h.map encL), .sh false (w.map encL)]) := by
  have h1 : lendV hf [] (ownV a (h.map encL)) = some ([a], .sh false (h.map encL)) := l_own ha rfl
  have h2 : lendV hf [] (ownV b (w.map encL)) = some ([b], .sh false (w.map encL)) := l_own hb rfl
  simp only [lendVs]
  rw [h1, h2]
  rfl
set_option maxHeartbeats 2000000 in
theorem pmoved_vc {l : LocksL} (hl : l.held.length + l.waits.length ≤ 20000) (f t : Str) (h1 : lenP l.held 100000000) (h2 : lenP l.waits 100000000) (hf : f.length ≤ 100000000) (ht : t.length ≤ 100000000) : VC Try.prog 20 [.agg (encLs l), .str f, .str t] [] (.agg (encLs (movedG pmt l f t))) [] := by
  have c1 := ren_vc (l := l.held) (by omega) f t h1 hf ht
  have c2 := ren_vc (l := l.waits) (by omega) f t h2 hf ht
  have n1 := ren_len l.held f t
  have n2 := ren_len l.waits f t
  have hg := pgr_vc (l := ⟨renL l.held f t, renL l.waits f t⟩) (by simp only; omega)
  have hpf := prefix_vc t (by omega)
  refine vc_of vf20 ?_ (Nat.le_of_ble_eq_true rfl) (by intro vs h; cases h)
  repeat first | refine o_copy ?_ | refine nl ?_ | refine ct_seq ?_ | refine rg ?_ | refine ct_block ?_ | refine bq ?_ | refine cv0 hpf ?_ | refine o_loads ?_ | refine o_loadp ?_ | refine o_faddr ?_ | refine o_loadsA ?_ | refine o_loadpA ?_ | refine o_box ?_ | refine o_alloc ?_ | refine o_store ?_ | refine o_extract ?_ | refine o_fn ?_
  refine cl (lent := [⟨1, 8208⟩, ⟨1, 8⟩, ⟨1, 16⟩]) c1 ?_
  repeat first | refine o_copy ?_ | refine nl ?_ | refine ct_seq ?_ | refine rg ?_ | refine ct_block ?_ | refine bq ?_ | refine o_loads ?_ | refine o_loadp ?_ | refine o_faddr ?_ | refine o_loadsA ?_ | refine o_loadpA ?_ | refine o_box ?_ | refine o_alloc ?_ | refine o_store ?_ | refine o_extract ?_ | refine o_fn ?_
  refine cl (lent := [⟨1, 8208⟩, ⟨1, 8⟩, ⟨1, 16⟩]) c2 ?_
  repeat first | refine o_copy ?_ | refine nl ?_ | refine ct_seq ?_ | refine rg ?_ | refine ct_block ?_ | refine bq ?_ | refine cf hg (h3 := by exact l_two' rfl rfl) ?_ | refine o_loads ?_ | refine o_loadp ?_ | refine o_faddr ?_ | refine o_loadsA ?_ | refine o_loadpA ?_ | refine o_box ?_ | refine o_alloc ?_ | refine o_store ?_ | refine o_extract ?_ | refine o_fn ?_
  exact ct_ret ⟨.inr rfl, oAny rfl⟩
end Go.Proofs
open Go.V Go.Pu
set_option linter.unusedVariables false
set_option linter.unusedSimpArgs false
set_option maxRecDepth 20000
namespace Go.Proofs
/-- downspout/lock.circle$1 -/
def vc67 : VCode :=
 (.seq
 (.region 0 false [
 ⟨(some 6), .copy (.c (.bool false)), none, 0, []⟩])
 (.seq
 (.seq
 (.region 1 false [
 ⟨(some 11), .faddr 1 (.t 1), none, 8192, []⟩,
 ⟨(some 12), .load false 1 (.t 11), none, 8200, [0]⟩,
 ⟨(some 13), .len (.t 12), none, 8208, [1, 0]⟩,
 ⟨(some 14), .copy (.c (.int .i64 0)), none, 8216, []⟩])
 (.block 0
 (.loop
 (.seq
 (.region 2 false [
 ⟨(some 15), .bin .lss (.t 14) (.t 13), none, 16384, []⟩])
 (.seq
 (.cond (.t 15)
 .skip
 (.exit 0))
 (.seq
 (.block 1
 (.seq
 (.region 3 false [
 ⟨(some 16), .copy (.t 14), none, 24576, []⟩,
 ⟨(some 17), .iaddr 5 (.t 12) (.t 14), none, 24584, []⟩,
 ⟨(some 18), .load true 5 (.t 17), none, 24592, [1]⟩,
 ⟨(some 8), .alloc [(.int .i64 0), (.str []), (.int .i64 0), (.int .i64 0), (.bool false)], none, 24600, []⟩,
 ⟨(some 7), .copy (.t 16), none, 24608, [0, 1, 2, 3]⟩,
 ⟨none, .store 5 (.t 8) (.t 18), none, 24616, [3, 2, 1, 4, 0]⟩])
 (.seq
 (.seq
 (.region 4 false [
 ⟨(some 19), .faddr 0 (.t 8), none, 32768, []⟩,
 ⟨(some 20), .load false 1 (.t 19), none, 32776, [0]⟩,
 ⟨(some 21), .copy (.t 0), none, 32784, []⟩,
 ⟨(some 22), .bin .neq (.t 20) (.t 21), none, 32792, [1, 0, 2]⟩])
 (.cond (.t 22)
 (.exit 1)
 .skip))
 (.seq
 (.region 5 true [
 ⟨(some 23), .faddr 0 (.t 1), none, 40960, []⟩,
 ⟨(some 24), .load false 1 (.t 23), none, 40968, [0]⟩,
 ⟨(some 25), .faddr 1 (.t 1), none, 40976, []⟩,
 ⟨(some 26), .load false 1 (.t 25), none, 40984, [2]⟩,
 ⟨(some 27), .copy (.t 7), none, 40992, []⟩,
 ⟨(some 28), .slsl 5 (.t 26) none (some (.t 27)) none, none, 41000, [3, 2, 4]⟩,
 ⟨(some 29), .bslice 1 [.nils] 2 [(0, (.t 24)), (1, (.t 28))], none, 41008, [1, 0, 5, 3, 2, 4]⟩,
 ⟨(some 30), .call (.c (.fn 66 [])) [(.t 29)], none, 41016, [6, 1, 0, 5, 3, 2, 4]⟩,
 ⟨(some 31), .len (.t 30), none, 41024, [7, 6, 1, 0, 5, 3, 2, 4]⟩,
 ⟨(some 32), .copy (.c (.int .i64 0)), none, 41032, []⟩])
 (.block 2
 (.loop
 (.seq
 (.region 6 false [
 ⟨(some 33), .bin .lss (.t 32) (.t 31), none, 49152, []⟩])
 (.seq
 (.cond (.t 33)
 .skip
 (.exit 2))
 (.seq
 (.block 3
 (.seq
 (.region 7 false [
 ⟨(some 34), .iaddr 5 (.t 30) (.t 32), none, 57344, []⟩,
 ⟨(some 35), .load true 5 (.t 34), none, 57352, [0]⟩,
 ⟨(some 10), .alloc [(.int .i64 0), (.str []), (.int .i64 0), (.int .i64 0), (.bool false)], none, 57360, []⟩,
 ⟨none, .store 5 (.t 10) (.t 35), none, 57368, [2, 1, 0]⟩])
 (.seq
 (.seq
 (.region 8 false [
 ⟨(some 36), .load true 5 (.t 8), none, 65536, []⟩,
 ⟨(some 37), .load true 5 (.t 10), none, 65544, []⟩,
 ⟨(some 38), .call (.c (.fn 59 [])) [(.t 36), (.t 37)], none, 65552, [0, 1]⟩,
 ⟨(some 39), .not (.t 38), none, 65560, [2, 0, 1]⟩,
 ⟨(some 40), .copy (.t 39), none, 65568, [3, 2, 0, 1]⟩,
 ⟨(some 41), .load false 1 (.t 2), (some (4, 40, false)), 65576, [4, 3, 2, 0, 1]⟩,
 ⟨(some 42), .faddr 0 (.t 10), (some (4, 40, false)), 65584, [4, 3, 2, 0, 1]⟩,
 ⟨(some 43), .load false 1 (.t 42), (some (4, 40, false)), 65592, [6, 4, 3, 2, 0, 1]⟩,
 ⟨(some 44), .mlook 1 (.bool false) false (.t 41) (.t 43), (some (4, 40, false)), 65600, [5, 4, 3, 2, 0, 1, 7, 6]⟩,
 ⟨(some 45), .pick (.t 40) (.c (.bool true)) (.t 44), none, 65608, [4, 3, 2, 0, 1, 8, 5, 7, 6]⟩])
 (.cond (.t 45)
 (.exit 3)
 .skip))
 (.seq
 (.seq
 (.region 9 false [
 ⟨(some 46), .faddr 0 (.t 10), none, 73728, []⟩,
 ⟨(some 47), .load false 1 (.t 46), none, 73736, [0]⟩,
 ⟨(some 48), .load false 1 (.t 3), none, 73744, []⟩,
 ⟨(some 49), .bin .eql (.t 47) (.t 48), none, 73752, [1, 0, 2]⟩])
 (.cond (.t 49)
 (.seq
 (.region 10 false [
 ⟨(some 6), .copy (.c (.bool true)), none, 81920, []⟩])
 .ret)
 .skip))
 (.seq
 (.region 11 false [
 ⟨(some 50), .load false 1 (.t 2), none, 90112, []⟩,
 ⟨(some 51), .faddr 0 (.t 10), none, 90120, []⟩,
 ⟨(some 52), .load false 1 (.t 51), none, 90128, [1]⟩,
 ⟨none, .mset 1 (.t 50) (.t 52) (.c (.bool true)), none, 90136, [0, 2, 1]⟩])
 (.seq
 (.region 12 false [
 ⟨(some 53), .load false 1 (.t 4), none, 98304, []⟩,
 ⟨(some 54), .faddr 0 (.t 10), none, 98312, []⟩,
 ⟨(some 55), .load false 1 (.t 54), none, 98320, [1]⟩,
 ⟨(some 56), .call (.t 53) [(.t 55)], none, 98328, [0, 2, 1]⟩])
 (.cond (.t 56)
 (.seq
 (.region 13 false [
 ⟨(some 6), .copy (.c (.bool true)), none, 106496, []⟩])
 .ret)
 .skip)))))))
 (.region 14 false [
 ⟨(some 57), .bin .add (.t 32) (.c (.int .i64 1)), none, 114688, []⟩,
 ⟨(some 32), .copy (.t 57), none, 114696, [0]⟩]))))))))))
 (.region 15 false [
 ⟨(some 58), .bin .add (.t 14) (.c (.int .i64 1)), none, 122880, []⟩,
 ⟨(some 14), .copy (.t 58), none, 122888, [0]⟩])))))))
 (.seq
 (.region 16 false [
 ⟨(some 6), .copy (.c (.bool false)), none, 131072, []⟩])
 .ret)))
theorem vf67 : VF Try.prog 67 = some (59, vc67, [.tmp 6]) := by kernel_rfl
/-- downspout/lock.circle -/
def vc57 : VCode :=
 (.seq
 (.region 0 false [
 ⟨(some 2), .box (.t 0), none, 0, []⟩,
 ⟨(some 3), .box (.t 1), none, 8, []⟩,
 ⟨(some 4), .copy (.c (.bool false)), none, 16, []⟩])
 (.seq
 (.region 1 false [
 ⟨(some 7), .mkmap, none, 8192, []⟩,
 ⟨(some 5), .alloc [.nilm], none, 8200, []⟩,
 ⟨none, .store 1 (.t 5) (.t 7), none, 8208, [1, 0]⟩])
 (.seq
 (.region 2 false [
 ⟨(some 6), .alloc [.nilf], none, 16384, []⟩])
 (.seq
 (.region 3 false [
 ⟨(some 8), .fn 67 [(.t 2), (.t 5), (.t 3), (.t 6)], none, 24576, []⟩,
 ⟨none, .store 1 (.t 6) (.t 8), none, 24584, [0]⟩])
 (.seq
 (.region 4 false [
 ⟨(some 9), .load false 1 (.t 6), none, 32768, []⟩,
 ⟨(some 10), .load false 1 (.t 3), none, 32776, []⟩,
 ⟨(some 11), .call (.t 9) [(.t 10)], none, 32784, [0, 1]⟩,
 ⟨(some 4), .copy (.t 11), none, 32792, [2, 0, 1]⟩])
 .ret)))))
theorem vf57 : VF Try.prog 57 = some (12, vc57, [.tmp 4]) := by kernel_rfl
abbrev bxLs (l : LocksL) : Blk := ⟨true, false, 2, [encLs l]⟩
abbrev bxM (b : Bid) : Blk := ⟨true, false, 1, [[.mapr b]]⟩
abbrev bxR (a b c d : Bid) : Blk := ⟨true, false, 1, [[.fn 67 [.ptr a 1 0 0, .ptr b 1 0 0, .ptr c 1 0 0, .ptr d 1 0 0]]]⟩
abbrev five (l : LocksL) (o : Int) (ks : List Int) : List Blk := [bxLs l, bxM ⟨0, 4⟩, bxO o, bxR ⟨0, 0⟩ ⟨0, 1⟩ ⟨0, 2⟩ ⟨0, 3⟩, mapBlk (ks.map encK)]
abbrev fiveH (l : LocksL) (o : Int) (ks : List Int) : Heap := [(⟨0, 0⟩, bxLs l), (⟨0, 1⟩, bxM ⟨0, 4⟩), (⟨0, 2⟩, bxO o), (⟨0, 3⟩, bxR ⟨0, 0⟩ ⟨0, 1⟩ ⟨0, 2⟩ ⟨0, 3⟩), (⟨0, 4⟩, mapBlk (ks.map encK))]
abbrev fiveT (who : Int) : Tmps := [(0, .int .i64 who), (1, .ptr ⟨0, 0⟩ 1 0 0), (2, .ptr ⟨0, 1⟩ 1 0 0), (3, .ptr ⟨0, 2⟩ 1 0 0), (4, .ptr ⟨0, 3⟩ 1 0 0)]
abbrev reachA (who : Int) : List PV := [.int .i64 who, .ptr ⟨0, 0⟩ 1 0 0, .ptr ⟨0, 1⟩ 1 0 0, .ptr ⟨0, 2⟩ 1 0 0, .ptr ⟨0, 3⟩ 1 0 0]
theorem oG5 {rs : List RV} {s : St} {l : LocksL} {o : Int} {ks : List Int} {b : Bool} (h : rdT (tget s.tmps) (hget s.heap) rs = some [.bool b])
    (hh : (hget s.heap ⟨0, 0⟩, hget s.heap ⟨0, 1⟩, hget s.heap ⟨0, 2⟩, hget s.heap ⟨0, 3⟩, hget s.heap ⟨0, 4⟩) = (some (bxLs l), some (bxM ⟨0, 4⟩), some (bxO o), some (bxR ⟨0, 0⟩ ⟨0, 1⟩ ⟨0, 2⟩ ⟨0, 3⟩), some (mapBlk (ks.map encK)))) : Out rs 5 (.bool b) (five l o ks) s := by
  simp only [Prod.mk.injEq] at hh
  obtain ⟨h0, h1, h2, h3, h4⟩ := hh
  have ho : outH (renOut 5 []) (five l o ks).length s.heap 0 (five l o ks) := by
    refine ⟨h0, ?_, h1, ?_, h2, ?_, h3, ?_, h4, ?_, trivial⟩
    all_goals (intro _; simp [mapBlk, okS, okN])
  exact oG [] (v' := .bool b) (hout' := five l o ks) (h := h) (ho := ho)
set_option maxHeartbeats 8000000 in
theorem reach_vc {l : LocksL} (hl : l.held.length + l.waits.length ≤ 10000) (o : Int) : ∀ (n : Nat) (ks : List Int) (who : Int), unk (ownersL l) ks < n → o ∉ ks → VC Try.prog 67 (reachA who) (five l o ks) (.bool (reachF l o n ks who).1) (five l o (reachF l o n ks who).2)
  | 0, ks, who, h, _ => by omega
  | n + 1, ks, who, hu, hno => by
    have ih := reach_vc hl o n
    have hR : ∀ b ks', outerF (reachF l o n) l.held o who [] l.waits ks = (b, ks') → VC Try.prog 67 (reachA who) (five l o ks) (.bool b) (five l o ks') := by
      intro b ks' hfin
      refine vc_of vf67 ?_ (Nat.le_of_ble_eq_true rfl) (by intro vs h; cases h)
      repeat first | refine o_copy ?_ | refine nl ?_ | refine ct_seq ?_ | refine rg ?_ | refine ct_block ?_ | refine bq ?_ | refine o_loads ?_ | refine o_loadp ?_ | refine o_faddr ?_ | refine o_iaddr ?_ | refine o_iaddrO ?_ | refine o_iaddrR ?_ | refine o_add ?_ | refine o_cat ?_ | refine o_bin ?_ | refine o_lenq ?_ | refine o_len ?_ | refine o_loadsA ?_ | refine o_loadpA ?_ | refine o_alloc ?_ | refine o_bslice ?_ | refine o_store ?_ | refine o_not ?_ | refine o_pickt ?_ | refine o_pickf ?_ | refine skF ?_ | refine skU ?_
      refine ct_loopG (fun (g : Nat × List Int) => fiveT who ++ [(12, .sh false (l.waits.map encL)), (13, .int .i64 (l.waits.map encL).length), (14, .int .i64 g.1)]) (fun g => fiveH l o g.2) (fun g => l.waits.length - g.1)
        (fun g => g.1 ≤ l.waits.length ∧ (unk (ownersL l) g.2 < n + 1 ∧ o ∉ g.2) ∧ outerF (reachF l o n) l.held o who (l.waits.take g.1) (l.waits.drop g.1) g.2 = (b, ks')) (0, ks) goesD ⟨Nat.zero_le _, ⟨hu, hno⟩, hfin⟩ ?_
      rintro ⟨i, kc⟩ ⟨hi, huc, hv⟩
      dsimp only at hi huc hv ⊢
      repeat first | refine o_copy ?_ | refine nl ?_ | refine ct_seq ?_ | refine rg ?_ | refine ct_block ?_ | refine bq ?_ | refine o_loads ?_ | refine o_loadp ?_ | refine o_faddr ?_ | refine o_iaddr ?_ | refine o_iaddrO ?_ | refine o_iaddrR ?_ | refine o_add ?_ | refine o_cat ?_ | refine o_bin ?_ | refine o_lenq ?_ | refine o_len ?_ | refine o_loadsA ?_ | refine o_loadpA ?_ | refine o_alloc ?_ | refine o_bslice ?_ | refine o_store ?_ | refine o_not ?_ | refine o_pickt ?_ | refine o_pickf ?_ | refine skF ?_ | refine skU ?_
      refine cnd (fun hh => ct_skip ?_) (fun hh => ct_exit ?_)
      · have hlt : i < l.waits.length := by have h' := of_decide_eq_true hh; simp only [List.length_map] at h'; omega
        obtain ⟨x, hx⟩ : ∃ y, l.waits[i]? = some y := ⟨_, List.getElem?_eq_getElem hlt⟩
        have hxe := gm (enc := encL) (n := (i : Int)) hx (by omega)
        have htk : l.waits.take (i + 1) = l.waits.take i ++ [x] := by rw [List.take_add_one, hx]; rfl
        rw [drop_get hx, outerF, ← htk] at hv
        repeat first | refine o_copy ?_ | refine nl ?_ | refine ct_seq ?_ | refine rg ?_ | refine ct_block ?_ | refine bq ?_ | refine o_loads ?_ | refine o_loadp ?_ | refine o_faddr ?_ | refine o_iaddr ?_ | refine o_iaddrO ?_ | refine o_iaddrR ?_ | refine o_add ?_ | refine o_cat ?_ | refine o_bin ?_ | refine o_lenq ?_ | refine o_len ?_ | refine o_loadsA ?_ | refine o_loadpA ?_ | refine o_alloc ?_ | refine o_bslice ?_ | refine o_store ?_ | refine o_not ?_ | refine o_pickt ?_ | refine o_pickf ?_ | refine skF ?_ | refine skU ?_
        refine cnd (fun h2 => ct_exit ?_) (fun h2 => ct_skip ?_)
        · have h2 : ¬ x.own = who := by simpa using h2
          rw [if_neg h2] at hv
          repeat first | refine o_copy ?_ | refine nl ?_ | refine ct_seq ?_ | refine rg ?_ | refine ct_block ?_ | refine bq ?_ | refine o_loads ?_ | refine o_loadp ?_ | refine o_faddr ?_ | refine o_iaddr ?_ | refine o_iaddrO ?_ | refine o_iaddrR ?_ | refine o_add ?_ | refine o_cat ?_ | refine o_bin ?_ | refine o_lenq ?_ | refine o_len ?_ | refine o_loadsA ?_ | refine o_loadpA ?_ | refine o_alloc ?_ | refine o_bslice ?_ | refine o_store ?_ | refine o_not ?_ | refine o_pickt ?_ | refine o_pickf ?_ | refine skF ?_ | refine skU ?_
          exact agn (Q := fun _ _ => True) (i + 1, kc) ⟨by simp only; omega, huc, hv⟩ goesD
        · have h2 : x.own = who := by simpa using h2
          rw [if_pos h2] at hv
          have h1 : (l.waits.take i).length ≤ l.waits.length := by rw [List.length_take]; omega
          have hc := concat_vc (q := .sh false ([l.held, l.waits.take i].map encLL)) (ls := [l.held, l.waits.take i]) Sl.sh (by simp) (by simp [totL]; omega)
          have hfl : [l.held, l.waits.take i].flatten = l.held ++ l.waits.take i := by simp
          rw [hfl] at hc
          have hbl : (l.held ++ l.waits.take i).length ≤ 20000 := by rw [List.length_append]; omega
          refine ct_seq (rg ?_)
          repeat first | refine o_copy ?_ | refine o_v (slL l.waits 0 i (Nat.zero_le _) (by omega)) ?_ | refine cv hc ?_ | refine o_loads ?_ | refine o_loadp ?_ | refine o_faddr ?_ | refine o_iaddr ?_ | refine o_iaddrO ?_ | refine o_iaddrR ?_ | refine o_add ?_ | refine o_cat ?_ | refine o_bin ?_ | refine o_lenq ?_ | refine o_len ?_ | refine o_loadsA ?_ | refine o_loadpA ?_ | refine o_alloc ?_ | refine o_bslice ?_ | refine o_store ?_ | refine o_not ?_ | refine o_pickt ?_ | refine o_pickf ?_ | refine skF ?_ | refine skU ?_
          refine nl ?_
          repeat first | refine o_copy ?_ | refine nl ?_ | refine ct_seq ?_ | refine rg ?_ | refine ct_block ?_ | refine bq ?_ | refine o_loads ?_ | refine o_loadp ?_ | refine o_faddr ?_ | refine o_iaddr ?_ | refine o_iaddrO ?_ | refine o_iaddrR ?_ | refine o_add ?_ | refine o_cat ?_ | refine o_bin ?_ | refine o_lenq ?_ | refine o_len ?_ | refine o_loadsA ?_ | refine o_loadpA ?_ | refine o_alloc ?_ | refine o_bslice ?_ | refine o_store ?_ | refine o_not ?_ | refine o_pickt ?_ | refine o_pickf ?_ | refine skF ?_ | refine skU ?_
          refine ct_loopG (fun (g : Nat × List Int) => fiveT who ++ [(8, .ptr ⟨1, 24600⟩ 1 0 0), (12, .sh false (l.waits.map encL)), (13, .int .i64 (l.waits.map encL).length), (14, .int .i64 i), (30, ownV ⟨1, 41016⟩ ((l.held ++ l.waits.take i).map encL)), (31, .int .i64 ((l.held ++ l.waits.take i).map encL).length), (32, .int .i64 g.1)])
            (fun g => fiveH l o g.2 ++ [(⟨1, 24600⟩, bxL x), (⟨1, 41016⟩, blkV 5 ((l.held ++ l.waits.take i).map encL))]) (fun g => (l.held ++ l.waits.take i).length - g.1)
            (fun g => g.1 ≤ (l.held ++ l.waits.take i).length ∧ (unk (ownersL l) g.2 < n + 1 ∧ o ∉ g.2) ∧ (match innerF (reachF l o n) o x ((l.held ++ l.waits.take i).drop g.1) g.2 with | (true, k) => (true, k) | (false, k) => outerF (reachF l o n) l.held o who (l.waits.take (i + 1)) (l.waits.drop (i + 1)) k) = (b, ks')) (0, kc) goesD ⟨Nat.zero_le _, huc, hv⟩ ?_
          rintro ⟨j, kd⟩ ⟨hj, hud, hw⟩
          dsimp only at hj hud hw ⊢
          repeat first | refine o_copy ?_ | refine nl ?_ | refine ct_seq ?_ | refine rg ?_ | refine ct_block ?_ | refine bq ?_ | refine o_loads ?_ | refine o_loadp ?_ | refine o_faddr ?_ | refine o_iaddr ?_ | refine o_iaddrO ?_ | refine o_iaddrR ?_ | refine o_add ?_ | refine o_cat ?_ | refine o_bin ?_ | refine o_lenq ?_ | refine o_len ?_ | refine o_loadsA ?_ | refine o_loadpA ?_ | refine o_alloc ?_ | refine o_bslice ?_ | refine o_store ?_ | refine o_not ?_ | refine o_pickt ?_ | refine o_pickf ?_ | refine skF ?_ | refine skU ?_
          refine cnd (fun h3 => ct_skip ?_) (fun h3 => ct_exit ?_)
          · have hlt2 : j < (l.held ++ l.waits.take i).length := by have h' := of_decide_eq_true h3; simp only [List.length_map] at h'; omega
            obtain ⟨y, hy⟩ : ∃ y, (l.held ++ l.waits.take i)[j]? = some y := ⟨_, List.getElem?_eq_getElem hlt2⟩
            have hye := gm (enc := encL) (n := (j : Int)) hy (by omega)
            have hlt3 : (j : Int) < (((l.held ++ l.waits.take i).map encL).length : Nat) := by rw [List.length_map]; omega
            rw [drop_get hy, innerF] at hw
            have hcf := conf_vc x y
            cases hA : confL x y with
            | false =>
              rw [if_pos (.inl hA)] at hw
              rw [hA] at hcf
              repeat first | refine o_copy ?_ | refine nl ?_ | refine ct_seq ?_ | refine rg ?_ | refine ct_block ?_ | refine bq ?_ | refine cv0 hcf ?_ | refine o_loads ?_ | refine o_loadp ?_ | refine o_faddr ?_ | refine o_iaddr ?_ | refine o_iaddrO ?_ | refine o_iaddrR ?_ | refine o_add ?_ | refine o_cat ?_ | refine o_bin ?_ | refine o_lenq ?_ | refine o_len ?_ | refine o_loadsA ?_ | refine o_loadpA ?_ | refine o_alloc ?_ | refine o_bslice ?_ | refine o_store ?_ | refine o_not ?_ | refine o_pickt ?_ | refine o_pickf ?_ | refine skF ?_ | refine skU ?_
              refine cndt (ct_exit ?_)
              repeat first | refine o_copy ?_ | refine nl ?_ | refine ct_seq ?_ | refine rg ?_ | refine ct_block ?_ | refine bq ?_ | refine o_loads ?_ | refine o_loadp ?_ | refine o_faddr ?_ | refine o_iaddr ?_ | refine o_iaddrO ?_ | refine o_iaddrR ?_ | refine o_add ?_ | refine o_cat ?_ | refine o_bin ?_ | refine o_lenq ?_ | refine o_len ?_ | refine o_loadsA ?_ | refine o_loadpA ?_ | refine o_alloc ?_ | refine o_bslice ?_ | refine o_store ?_ | refine o_not ?_ | refine o_pickt ?_ | refine o_pickf ?_ | refine skF ?_ | refine skU ?_
              exact agn (Q := fun _ _ => True) (j + 1, kd) ⟨by simp only; omega, hud, hw⟩ goesD
            | true =>
              rw [hA] at hcf
              cases hK : kd.contains y.own with
              | true =>
                rw [if_pos (.inr hK)] at hw
                repeat first | refine o_copy ?_ | refine nl ?_ | refine ct_seq ?_ | refine rg ?_ | refine ct_block ?_ | refine bq ?_ | refine cv0 hcf ?_ | refine o_v vmpL ?_ | refine o_loads ?_ | refine o_loadp ?_ | refine o_faddr ?_ | refine o_iaddr ?_ | refine o_iaddrO ?_ | refine o_iaddrR ?_ | refine o_add ?_ | refine o_cat ?_ | refine o_bin ?_ | refine o_lenq ?_ | refine o_len ?_ | refine o_loadsA ?_ | refine o_loadpA ?_ | refine o_alloc ?_ | refine o_bslice ?_ | refine o_store ?_ | refine o_not ?_ | refine o_pickt ?_ | refine o_pickf ?_ | refine skF ?_ | refine skU ?_
                refine cndt (ct_exit ?_)
                repeat first | refine o_copy ?_ | refine nl ?_ | refine ct_seq ?_ | refine rg ?_ | refine ct_block ?_ | refine bq ?_ | refine o_loads ?_ | refine o_loadp ?_ | refine o_faddr ?_ | refine o_iaddr ?_ | refine o_iaddrO ?_ | refine o_iaddrR ?_ | refine o_add ?_ | refine o_cat ?_ | refine o_bin ?_ | refine o_lenq ?_ | refine o_len ?_ | refine o_loadsA ?_ | refine o_loadpA ?_ | refine o_alloc ?_ | refine o_bslice ?_ | refine o_store ?_ | refine o_not ?_ | refine o_pickt ?_ | refine o_pickf ?_ | refine skF ?_ | refine skU ?_
                exact agn (Q := fun _ _ => True) (j + 1, kd) ⟨by simp only; omega, hud, hw⟩ goesD
              | false =>
                rw [if_neg (by rw [hA, hK]; simp)] at hw
                repeat first | refine o_copy ?_ | refine nl ?_ | refine ct_seq ?_ | refine rg ?_ | refine ct_block ?_ | refine bq ?_ | refine cv0 hcf ?_ | refine o_v vmpL ?_ | refine o_loads ?_ | refine o_loadp ?_ | refine o_faddr ?_ | refine o_iaddr ?_ | refine o_iaddrO ?_ | refine o_iaddrR ?_ | refine o_add ?_ | refine o_cat ?_ | refine o_bin ?_ | refine o_lenq ?_ | refine o_len ?_ | refine o_loadsA ?_ | refine o_loadpA ?_ | refine o_alloc ?_ | refine o_bslice ?_ | refine o_store ?_ | refine o_not ?_ | refine o_pickt ?_ | refine o_pickf ?_ | refine skF ?_ | refine skU ?_
                refine cndf (ct_skip ?_)
                have hE : Go.Pu.Edge pconf l who y.own := ⟨i, x, y, hx, h2, List.mem_of_getElem? hy, hA, rfl⟩
                have hlt4 := unk_lt (edge_owner hE) hK
                by_cases hO : y.own = o
                · rw [if_pos hO] at hw
                  simp only [Prod.mk.injEq] at hw
                  obtain ⟨rfl, rfl⟩ := hw
                  have gO : (y.own == o) = true := by simpa using hO
                  repeat first | refine o_copy ?_ | refine nl ?_ | refine ct_seq ?_ | refine rg ?_ | refine ct_block ?_ | refine bq ?_ | refine o_loads ?_ | refine o_loadp ?_ | refine o_faddr ?_ | refine o_iaddr ?_ | refine o_iaddrO ?_ | refine o_iaddrR ?_ | refine o_add ?_ | refine o_cat ?_ | refine o_bin ?_ | refine o_lenq ?_ | refine o_len ?_ | refine o_loadsA ?_ | refine o_loadpA ?_ | refine o_alloc ?_ | refine o_bslice ?_ | refine o_store ?_ | refine o_not ?_ | refine o_pickt ?_ | refine o_pickf ?_ | refine skF ?_ | refine skU ?_
                  refine cndt ?_
                  repeat first | refine o_copy ?_ | refine nl ?_ | refine ct_seq ?_ | refine rg ?_ | refine ct_block ?_ | refine bq ?_ | refine o_loads ?_ | refine o_loadp ?_ | refine o_faddr ?_ | refine o_iaddr ?_ | refine o_iaddrO ?_ | refine o_iaddrR ?_ | refine o_add ?_ | refine o_cat ?_ | refine o_bin ?_ | refine o_lenq ?_ | refine o_len ?_ | refine o_loadsA ?_ | refine o_loadpA ?_ | refine o_alloc ?_ | refine o_bslice ?_ | refine o_store ?_ | refine o_not ?_ | refine o_pickt ?_ | refine o_pickf ?_ | refine skF ?_ | refine skU ?_
                  exact ct_ret ⟨.inr rfl, oG5 rfl rfl⟩
                · rw [if_neg hO] at hw
                  have gO : (y.own == o) = false := by simpa using hO
                  have hih := ih (kd ++ [y.own]) y.own (by have := hud.1; omega) (by simp; exact ⟨hud.2, fun e => hO e.symm⟩)
                  repeat first | refine o_copy ?_ | refine nl ?_ | refine ct_seq ?_ | refine rg ?_ | refine ct_block ?_ | refine bq ?_ | refine o_loads ?_ | refine o_loadp ?_ | refine o_faddr ?_ | refine o_iaddr ?_ | refine o_iaddrO ?_ | refine o_iaddrR ?_ | refine o_add ?_ | refine o_cat ?_ | refine o_bin ?_ | refine o_lenq ?_ | refine o_len ?_ | refine o_loadsA ?_ | refine o_loadpA ?_ | refine o_alloc ?_ | refine o_bslice ?_ | refine o_store ?_ | refine o_not ?_ | refine o_pickt ?_ | refine o_pickf ?_ | refine skF ?_ | refine skU ?_
                  refine cndf (ct_skip ?_)
                  repeat first | refine o_copy ?_ | refine nl ?_ | refine ct_seq ?_ | refine rg ?_ | refine ct_block ?_ | refine bq ?_ | refine o_v vmpS ?_ | refine o_loads ?_ | refine o_loadp ?_ | refine o_faddr ?_ | refine o_iaddr ?_ | refine o_iaddrO ?_ | refine o_iaddrR ?_ | refine o_add ?_ | refine o_cat ?_ | refine o_bin ?_ | refine o_lenq ?_ | refine o_len ?_ | refine o_loadsA ?_ | refine o_loadpA ?_ | refine o_alloc ?_ | refine o_bslice ?_ | refine o_store ?_ | refine o_not ?_ | refine o_pickt ?_ | refine o_pickf ?_ | refine skF ?_ | refine skU ?_
                  rcases hr : reachF l o n (kd ++ [y.own]) y.own with ⟨rb, rk⟩
                  have hsp := reach_spec l o n (kd ++ [y.own]) y.own (by have := hud.1; omega) (by simp; exact ⟨hud.2, fun e => hO e.symm⟩)
                  rw [hr] at hih hw hsp
                  repeat first | refine o_copy ?_ | refine nl ?_ | refine ct_seq ?_ | refine rg ?_ | refine ct_block ?_ | refine bq ?_ | refine cl (lent := [⟨0, 0⟩, ⟨0, 1⟩, ⟨0, 2⟩, ⟨0, 3⟩, ⟨0, 4⟩]) hih ?_ | refine o_loads ?_ | refine o_loadp ?_ | refine o_faddr ?_ | refine o_iaddr ?_ | refine o_iaddrO ?_ | refine o_iaddrR ?_ | refine o_add ?_ | refine o_cat ?_ | refine o_bin ?_ | refine o_lenq ?_ | refine o_len ?_ | refine o_loadsA ?_ | refine o_loadpA ?_ | refine o_alloc ?_ | refine o_bslice ?_ | refine o_store ?_ | refine o_not ?_ | refine o_pickt ?_ | refine o_pickf ?_ | refine skF ?_ | refine skU ?_
                  cases rb with
                  | true =>
                    simp only [Prod.mk.injEq] at hw
                    obtain ⟨rfl, rfl⟩ := hw
                    refine cndt ?_
                    repeat first | refine o_copy ?_ | refine nl ?_ | refine ct_seq ?_ | refine rg ?_ | refine ct_block ?_ | refine bq ?_ | refine o_loads ?_ | refine o_loadp ?_ | refine o_faddr ?_ | refine o_iaddr ?_ | refine o_iaddrO ?_ | refine o_iaddrR ?_ | refine o_add ?_ | refine o_cat ?_ | refine o_bin ?_ | refine o_lenq ?_ | refine o_len ?_ | refine o_loadsA ?_ | refine o_loadpA ?_ | refine o_alloc ?_ | refine o_bslice ?_ | refine o_store ?_ | refine o_not ?_ | refine o_pickt ?_ | refine o_pickf ?_ | refine skF ?_ | refine skU ?_
                    exact ct_ret ⟨.inr rfl, oG5 rfl rfl⟩
                  | false =>
                    obtain ⟨s1, _⟩ := hsp.2 rfl
                    have hm := unk_mono (os := ownersL l) s1.1
                    refine cndf (ct_skip ?_)
                    repeat first | refine o_copy ?_ | refine nl ?_ | refine ct_seq ?_ | refine rg ?_ | refine ct_block ?_ | refine bq ?_ | refine o_loads ?_ | refine o_loadp ?_ | refine o_faddr ?_ | refine o_iaddr ?_ | refine o_iaddrO ?_ | refine o_iaddrR ?_ | refine o_add ?_ | refine o_cat ?_ | refine o_bin ?_ | refine o_lenq ?_ | refine o_len ?_ | refine o_loadsA ?_ | refine o_loadpA ?_ | refine o_alloc ?_ | refine o_bslice ?_ | refine o_store ?_ | refine o_not ?_ | refine o_pickt ?_ | refine o_pickf ?_ | refine skF ?_ | refine skU ?_
                    exact agn (Q := fun _ _ => True) (j + 1, rk) ⟨by simp only; omega, ⟨by have := hud.1; simp only at hm ⊢; omega, s1.2.1⟩, hw⟩ goesD
          · have hge : j = (l.held ++ l.waits.take i).length := by have h' := of_decide_eq_false h3; simp only [List.length_map] at h'; omega
            subst hge
            simp only [List.drop_length, innerF] at hw
            repeat first | refine o_copy ?_ | refine nl ?_ | refine ct_seq ?_ | refine rg ?_ | refine ct_block ?_ | refine bq ?_ | refine o_loads ?_ | refine o_loadp ?_ | refine o_faddr ?_ | refine o_iaddr ?_ | refine o_iaddrO ?_ | refine o_iaddrR ?_ | refine o_add ?_ | refine o_cat ?_ | refine o_bin ?_ | refine o_lenq ?_ | refine o_len ?_ | refine o_loadsA ?_ | refine o_loadpA ?_ | refine o_alloc ?_ | refine o_bslice ?_ | refine o_store ?_ | refine o_not ?_ | refine o_pickt ?_ | refine o_pickf ?_ | refine skF ?_ | refine skU ?_
            exact agn (Q := fun _ _ => True) (i + 1, kd) ⟨by simp only; omega, hud, hw⟩ goesD
      · have hge : i = l.waits.length := by have h' := of_decide_eq_false hh; simp only [List.length_map] at h'; omega
        subst hge
        simp only [List.drop_length, outerF, Prod.mk.injEq] at hv
        obtain ⟨rfl, rfl⟩ := hv
        repeat first | refine o_copy ?_ | refine nl ?_ | refine ct_seq ?_ | refine rg ?_ | refine ct_block ?_ | refine bq ?_ | refine o_loads ?_ | refine o_loadp ?_ | refine o_faddr ?_ | refine o_iaddr ?_ | refine o_iaddrO ?_ | refine o_iaddrR ?_ | refine o_add ?_ | refine o_cat ?_ | refine o_bin ?_ | refine o_lenq ?_ | refine o_len ?_ | refine o_loadsA ?_ | refine o_loadpA ?_ | refine o_alloc ?_ | refine o_bslice ?_ | refine o_store ?_ | refine o_not ?_ | refine o_pickt ?_ | refine o_pickf ?_ | refine skF ?_ | refine skU ?_
        exact ct_ret ⟨.inr rfl, oG5 rfl rfl⟩
    exact hR _ _ rfl
end Go.Proofs
open Go.V Go.Pu
set_option linter.unusedVariables false
set_option linter.unusedSimpArgs false
set_option maxRecDepth 20000
namespace Go.Proofs
theorem circle_vc {l : LocksL} (hl : l.held.length + l.waits.length ≤ 10000) (o : Int) : VC Try.prog 57 [.agg (encLs l), .int .i64 o] [] (.bool (cycB pconf l o)) [] := by
  have hr := reach_vc hl o (unk (ownersL l) [] + 1) [] o (by omega) (by simp)
  rw [reach_cyc] at hr
  refine vc_of vf57 ?_ (Nat.le_of_ble_eq_true rfl) (by intro vs h; cases h)
  repeat first | refine o_copy ?_ | refine nl ?_ | refine ct_seq ?_ | refine rg ?_ | refine ct_block ?_ | refine bq ?_ | refine o_v vmpN ?_ | refine o_loads ?_ | refine o_loadp ?_ | refine o_box ?_ | refine o_alloc ?_ | refine o_store ?_ | refine o_fn ?_
  refine cl (lent := [⟨1, 0⟩, ⟨1, 8200⟩, ⟨1, 8⟩, ⟨1, 16384⟩, ⟨1, 8192⟩]) hr ?_
  repeat first | refine o_copy ?_ | refine nl ?_ | refine ct_seq ?_ | refine rg ?_ | refine ct_block ?_ | refine bq ?_ | refine o_loads ?_ | refine o_loadp ?_ | refine o_box ?_ | refine o_alloc ?_ | refine o_store ?_ | refine o_fn ?_
  exact ct_ret ⟨.inr rfl, oB rfl⟩
end Go.Proofs
open Go.V Go.Pu
set_option linter.unusedVariables false
set_option linter.unusedSimpArgs false
set_option maxRecDepth 20000
namespace Go.Proofs
/-- downspout/lock.Take -/
def vc37 : VCode :=
 (.seq
 (.region 0 false [
 ⟨(some 2), .box (.t 0), none, 0, []⟩,
 ⟨(some 3), .box (.t 1), none, 8, []⟩,
 ⟨(some 4), .alloc [.nils, .nils], none, 16, []⟩,
 ⟨(some 5), .copy (.c (.bool false)), none, 24, []⟩,
 ⟨(some 6), .copy (.c (.int .i64 0)), none, 32, [3]⟩])
 (.seq
 (.block 0
 (.seq
 (.region 1 false [
 ⟨(some 9), .load true 5 (.t 3), none, 8192, []⟩,
 ⟨(some 10), .call (.c (.fn 38 [])) [(.t 9)], none, 8200, [0]⟩,
 ⟨(some 11), .not (.t 10), none, 8208, [1, 0]⟩,
 ⟨(some 8), .copy (.t 11), none, 8216, [2, 1, 0]⟩])
 (.cond (.t 8)
 (.seq
 (.region 2 false [
 ⟨(some 12), .load true 2 (.t 2), none, 16384, []⟩,
 ⟨none, .store 2 (.t 4) (.t 12), none, 16392, [0]⟩,
 ⟨(some 5), .copy (.c (.bool false)), none, 16400, [1, 0]⟩,
 ⟨(some 6), .copy (.c (.int .i64 1)), none, 16408, [2, 1, 0]⟩])
 .ret)
 (.seq
 (.region 3 false [
 ⟨(some 14), .faddr 0 (.t 2), none, 24576, []⟩,
 ⟨(some 15), .load false 1 (.t 14), none, 24584, [0]⟩,
 ⟨(some 16), .len (.t 15), none, 24592, [1, 0]⟩,
 ⟨(some 17), .faddr 1 (.t 2), none, 24600, []⟩,
 ⟨(some 18), .load false 1 (.t 17), none, 24608, [3]⟩,
 ⟨(some 19), .len (.t 18), none, 24616, [4, 3]⟩,
 ⟨(some 20), .bin .add (.t 16) (.t 19), none, 24624, [2, 1, 0, 5, 4, 3]⟩,
 ⟨(some 21), .bin .geq (.t 20) (.c (.int .i64 32)), none, 24632, [6, 2, 1, 0, 5, 4, 3]⟩,
 ⟨(some 13), .copy (.t 21), none, 24640, [7, 6, 2, 1, 0, 5, 4, 3]⟩])
 (.cond (.t 13)
 (.seq
 (.region 4 false [
 ⟨(some 22), .load true 2 (.t 2), none, 32768, []⟩,
 ⟨none, .store 2 (.t 4) (.t 22), none, 32776, [0]⟩,
 ⟨(some 5), .copy (.c (.bool false)), none, 32784, [1, 0]⟩,
 ⟨(some 6), .copy (.c (.int .i64 322)), none, 32792, [2, 1, 0]⟩])
 .ret)
 (.seq
 (.region 5 false [
 ⟨(some 24), .load true 2 (.t 2), none, 40960, []⟩,
 ⟨(some 25), .load true 5 (.t 3), none, 40968, []⟩,
 ⟨(some 26), .call (.c (.fn 16 [])) [(.t 24), (.t 25)], none, 40976, [0, 1]⟩,
 ⟨(some 23), .copy (.t 26), none, 40984, [2, 0, 1]⟩])
 (.cond (.t 23)
 (.seq
 (.region 6 true [
 ⟨(some 27), .faddr 0 (.t 2), none, 49152, []⟩,
 ⟨(some 28), .load false 1 (.t 27), none, 49160, [0]⟩,
 ⟨(some 29), .call (.c (.fn 56 [])) [(.t 28)], none, 49168, [1, 0]⟩,
 ⟨(some 30), .load true 5 (.t 3), none, 49176, []⟩,
 ⟨(some 31), .bslice 5 [(.int .i64 0), (.str []), (.int .i64 0), (.int .i64 0), (.bool false)] 1 [(0, (.t 30))], none, 49184, [3]⟩,
 ⟨(some 32), .append 5 48 [(.int .i64 0), (.str []), (.int .i64 0), (.int .i64 0), (.bool false)] (.t 29) (.t 31), none, 49192, [2, 1, 0, 4, 3]⟩,
 ⟨(some 33), .faddr 1 (.t 2), none, 49200, []⟩,
 ⟨(some 34), .load false 1 (.t 33), none, 49208, [6]⟩,
 ⟨(some 35), .build [.nils, .nils] [(0, 1, (.t 32)), (1, 1, (.t 34))], none, 49216, [5, 2, 1, 0, 4, 3, 7, 6]⟩,
 ⟨none, .store 2 (.t 4) (.t 35), none, 49224, [8, 5, 2, 1, 0, 4, 3, 7, 6]⟩,
 ⟨(some 5), .copy (.c (.bool true)), none, 49232, [9, 8, 5, 2, 1, 0, 4, 3, 7, 6]⟩,
 ⟨(some 6), .copy (.c (.int .i64 0)), none, 49240, [10, 9, 8, 5, 2, 1, 0, 4, 3, 7, 6]⟩])
 .ret)
 .skip)))))))
 (.seq
 (.region 7 true [
 ⟨(some 36), .faddr 0 (.t 2), none, 57344, []⟩,
 ⟨(some 37), .load false 1 (.t 36), none, 57352, [0]⟩,
 ⟨(some 38), .faddr 1 (.t 2), none, 57360, []⟩,
 ⟨(some 39), .load false 1 (.t 38), none, 57368, [2]⟩,
 ⟨(some 40), .call (.c (.fn 56 [])) [(.t 39)], none, 57376, [3, 2]⟩,
 ⟨(some 41), .load true 5 (.t 3), none, 57384, []⟩,
 ⟨(some 42), .bslice 5 [(.int .i64 0), (.str []), (.int .i64 0), (.int .i64 0), (.bool false)] 1 [(0, (.t 41))], none, 57392, [5]⟩,
 ⟨(some 43), .append 5 48 [(.int .i64 0), (.str []), (.int .i64 0), (.int .i64 0), (.bool false)] (.t 40) (.t 42), none, 57400, [4, 3, 2, 6, 5]⟩,
 ⟨(some 44), .build [.nils, .nils] [(0, 1, (.t 37)), (1, 1, (.t 43))], none, 57408, [1, 0, 7, 4, 3, 2, 6, 5]⟩,
 ⟨(some 7), .alloc [.nils, .nils], none, 57416, []⟩,
 ⟨none, .store 2 (.t 7) (.t 44), none, 57424, [9, 8, 1, 0, 7, 4, 3, 2, 6, 5]⟩])
 (.seq
 (.seq
 (.region 8 false [
 ⟨(some 45), .load true 2 (.t 7), none, 65536, []⟩,
 ⟨(some 46), .faddr 0 (.t 3), none, 65544, []⟩,
 ⟨(some 47), .load false 1 (.t 46), none, 65552, [1]⟩,
 ⟨(some 48), .call (.c (.fn 57 [])) [(.t 45), (.t 47)], none, 65560, [0, 2, 1]⟩])
 (.cond (.t 48)
 (.seq
 (.region 9 false [
 ⟨(some 49), .load true 2 (.t 2), none, 73728, []⟩,
 ⟨none, .store 2 (.t 4) (.t 49), none, 73736, [0]⟩,
 ⟨(some 5), .copy (.c (.bool false)), none, 73744, [1, 0]⟩,
 ⟨(some 6), .copy (.c (.int .i64 321)), none, 73752, [2, 1, 0]⟩])
 .ret)
 .skip))
 (.seq
 (.region 10 false [
 ⟨(some 50), .load true 2 (.t 7), none, 81920, []⟩,
 ⟨none, .store 2 (.t 4) (.t 50), none, 81928, [0]⟩,
 ⟨(some 5), .copy (.c (.bool false)), none, 81936, [1, 0]⟩,
 ⟨(some 6), .copy (.c (.int .i64 0)), none, 81944, [2, 1, 0]⟩])
 .ret)))))
theorem vf37 : VF Try.prog 37 = some (51, vc37, [.cell true 2 4, .tmp 5, .tmp 6]) := by kernel_rfl
noncomputable abbrev ptakeL : LocksL → LockL → LocksL × Bool × Int := takeG allowsL (cycB pconf)
abbrev encK (t : LocksL × Bool × Int) : List PV := [.agg (encLs t.1), .bool t.2.1, .int .i64 t.2.2]
theorem l_tk1 {hf : HF} {a : Bid} {h w : List LockL} {t : Bool} {e : Int} (ha : hf a = some (blkV 5 (h.map encL))) :
    lendVs hf [] [.agg [ownV a (h.map encL), .sh false (w.map encL)], .bool t, .int .i64 e] = some ([a], encK (⟨h, w⟩, t, e)) := by
  have h1 : lendS hf [] (ownV a (h.map encL)) = some ([a], .sh false (h.map encL)) := l_own ha rfl
  have h2 : lendS hf [] (.sh false (w.map encL)) = some ([], .sh false (w.map encL)) := l_c rfl
  simp only [lendVs, lendV, lendSs]
  rw [h1, h2]
  rfl
theorem l_tk2 {hf : HF} {a : Bid} {h w : List LockL} {t : Bool} {e : Int} (ha : hf a = some (blkV 5 (w.map encL))) :
    lendVs hf [] [.agg [.sh false (h.map encL), ownV a (w.map encL)], .bool t, .int .i64 e] = some ([a], encK (⟨h, w⟩, t, e)) := by
  have h1 : lendS hf [] (ownV a (w.map encL)) = some ([a], .sh false (w.map encL)) := l_own ha rfl
  have h2 : lendS hf [] (.sh false (h.map encL)) = some ([], .sh false (h.map encL)) := l_c rfl
  simp only [lendVs, lendV, lendSs]
  rw [h1, h2]
  rfl
theorem l_lsY {hf : HF} {b : Bid} {h w : List LockL} {q : PV} (hq : closed q = true) (hb : hf b = some (blkV 5 (w.map encL))) :
    lendVs hf [] [.agg [.sh false (h.map encL), ownV b (w.map encL)], q] = some ([b], [.agg (encLs ⟨h, w⟩), q]) := by
  have h1 : lendS hf [] (.sh false (h.map encL)) = some ([], .sh false (h.map encL)) := l_c rfl
  have h2 : lendS hf [] (ownV b (w.map encL)) = some ([b], .sh false (w.map encL)) := l_own hb rfl
  have h3 : lendV hf [] q = some ([], q) := l_closed hq
  rw [lendVs, lendVs, h3]
  simp only [lendV, lendSs]
  rw [h1, h2]
  rfl
set_option maxHeartbeats 4000000 in
theorem take_vc {l : LocksL} (hl : l.held.length + l.waits.length ≤ 9000) (x : LockL) : VC Try.prog 37 [.agg (encLs l), .agg (encL x)] [] (.tup (encK (ptakeL l x))) [] := by
  have hr := right_vc x
  have hwh : (l.held.map encL).length = l.held.length := List.length_map _
  have hww : (l.waits.map encL).length = l.waits.length := List.length_map _
  cases h0 : rightL x with
  | false =>
    have e : ptakeL l x = (l, false, 1) := by unfold ptakeL takeG; rw [if_pos h0]
    rw [e]
    rw [h0] at hr
    refine vc_of vf37 ?_ (Nat.le_of_ble_eq_true rfl) (by intro vs h; cases h; simp)
    repeat first | refine o_copy ?_ | refine nl ?_ | refine ct_seq ?_ | refine rg ?_ | refine ct_block ?_ | refine bq ?_ | refine cv0 hr ?_ | refine o_loads ?_ | refine o_loadp ?_ | refine o_faddr ?_ | refine o_add ?_ | refine o_cat ?_ | refine o_bin ?_ | refine o_lenq ?_ | refine o_len ?_ | refine o_loadsA ?_ | refine o_loadpA ?_ | refine o_box ?_ | refine o_alloc ?_ | refine o_bslice ?_ | refine o_store ?_ | refine o_not ?_ | refine o_build ?_
    refine cndt ?_
    repeat first | refine o_copy ?_ | refine nl ?_ | refine ct_seq ?_ | refine rg ?_ | refine ct_block ?_ | refine bq ?_ | refine o_loads ?_ | refine o_loadp ?_ | refine o_faddr ?_ | refine o_add ?_ | refine o_cat ?_ | refine o_bin ?_ | refine o_lenq ?_ | refine o_len ?_ | refine o_loadsA ?_ | refine o_loadpA ?_ | refine o_box ?_ | refine o_alloc ?_ | refine o_bslice ?_ | refine o_store ?_ | refine o_not ?_ | refine o_build ?_
    exact ct_ret ⟨.inr rfl, oAny rfl⟩
  | true =>
  rw [h0] at hr
  by_cases h1 : 32 ≤ l.held.length + l.waits.length
  · have e : ptakeL l x = (l, false, 322) := by unfold ptakeL takeG; rw [if_neg (by simp [h0]), if_pos h1]
    rw [e]
    have g1 : decide (((l.held.map encL).length : Int) + ((l.waits.map encL).length : Int) ≥ 32) = true := by rw [hwh, hww]; simp; omega
    refine vc_of vf37 ?_ (Nat.le_of_ble_eq_true rfl) (by intro vs h; cases h; simp)
    repeat first | refine o_copy ?_ | refine nl ?_ | refine ct_seq ?_ | refine rg ?_ | refine ct_block ?_ | refine bq ?_ | refine cv0 hr ?_ | refine o_loads ?_ | refine o_loadp ?_ | refine o_faddr ?_ | refine o_add ?_ | refine o_cat ?_ | refine o_bin ?_ | refine o_lenq ?_ | refine o_len ?_ | refine o_loadsA ?_ | refine o_loadpA ?_ | refine o_box ?_ | refine o_alloc ?_ | refine o_bslice ?_ | refine o_store ?_ | refine o_not ?_ | refine o_build ?_
    refine cndf ?_
    repeat first | refine o_copy ?_ | refine nl ?_ | refine ct_seq ?_ | refine rg ?_ | refine ct_block ?_ | refine bq ?_ | refine o_loads ?_ | refine o_loadp ?_ | refine o_faddr ?_ | refine o_add ?_ | refine o_cat ?_ | refine o_bin ?_ | refine o_lenq ?_ | refine o_len ?_ | refine o_loadsA ?_ | refine o_loadpA ?_ | refine o_box ?_ | refine o_alloc ?_ | refine o_bslice ?_ | refine o_store ?_ | refine o_not ?_ | refine o_build ?_
    refine cndt ?_
    repeat first | refine o_copy ?_ | refine nl ?_ | refine ct_seq ?_ | refine rg ?_ | refine ct_block ?_ | refine bq ?_ | refine o_loads ?_ | refine o_loadp ?_ | refine o_faddr ?_ | refine o_add ?_ | refine o_cat ?_ | refine o_bin ?_ | refine o_lenq ?_ | refine o_len ?_ | refine o_loadsA ?_ | refine o_loadpA ?_ | refine o_box ?_ | refine o_alloc ?_ | refine o_bslice ?_ | refine o_store ?_ | refine o_not ?_ | refine o_build ?_
    exact ct_ret ⟨.inr rfl, oAny rfl⟩
  have g1 : decide (((l.held.map encL).length : Int) + ((l.waits.map encL).length : Int) ≥ 32) = false := by rw [hwh, hww]; simp; omega
  have ha := allows_vc (l := l) (by omega) (by omega) x
  have hch := clone_vc (q := .sh false (l.held.map encL)) (xs := l.held) Sl.sh (by omega)
  have hcw := clone_vc (q := .sh false (l.waits.map encL)) (xs := l.waits) Sl.sh (by omega)
  cases h2 : allowsL l x with
  | true =>
    have e : ptakeL l x = (⟨l.held ++ [x], l.waits⟩, true, 0) := by unfold ptakeL takeG; rw [if_neg (by simp [h0]), if_neg h1, if_pos h2]
    rw [e]
    rw [h2] at ha
    refine vc_closeT (hout := [blkV 5 ((l.held ++ [x]).map encL)]) (vs := [.agg [ownV ⟨0, 0⟩ ((l.held ++ [x]).map encL), .sh false (l.waits.map encL)], .bool true, .int .i64 0]) ?_ (l_tk1 rfl) (by simp) (by simp)
    refine vc_of vf37 ?_ (Nat.le_of_ble_eq_true rfl) (by intro vs h; cases h; simp)
    repeat first | refine o_copy ?_ | refine nl ?_ | refine ct_seq ?_ | refine rg ?_ | refine ct_block ?_ | refine bq ?_ | refine cv0 hr ?_ | refine o_loads ?_ | refine o_loadp ?_ | refine o_faddr ?_ | refine o_add ?_ | refine o_cat ?_ | refine o_bin ?_ | refine o_lenq ?_ | refine o_len ?_ | refine o_loadsA ?_ | refine o_loadpA ?_ | refine o_box ?_ | refine o_alloc ?_ | refine o_bslice ?_ | refine o_store ?_ | refine o_not ?_ | refine o_build ?_
    refine cndf ?_
    repeat first | refine o_copy ?_ | refine nl ?_ | refine ct_seq ?_ | refine rg ?_ | refine ct_block ?_ | refine bq ?_ | refine o_loads ?_ | refine o_loadp ?_ | refine o_faddr ?_ | refine o_add ?_ | refine o_cat ?_ | refine o_bin ?_ | refine o_lenq ?_ | refine o_len ?_ | refine o_loadsA ?_ | refine o_loadpA ?_ | refine o_box ?_ | refine o_alloc ?_ | refine o_bslice ?_ | refine o_store ?_ | refine o_not ?_ | refine o_build ?_
    refine cndf ?_
    repeat first | refine o_copy ?_ | refine nl ?_ | refine ct_seq ?_ | refine rg ?_ | refine ct_block ?_ | refine bq ?_ | refine cv0 ha ?_ | refine o_loads ?_ | refine o_loadp ?_ | refine o_faddr ?_ | refine o_add ?_ | refine o_cat ?_ | refine o_bin ?_ | refine o_lenq ?_ | refine o_len ?_ | refine o_loadsA ?_ | refine o_loadpA ?_ | refine o_box ?_ | refine o_alloc ?_ | refine o_bslice ?_ | refine o_store ?_ | refine o_not ?_ | refine o_build ?_
    refine cndt ?_
    repeat first | refine o_copy ?_ | refine nl ?_ | refine ct_seq ?_ | refine rg ?_ | refine ct_block ?_ | refine bq ?_ | refine cv hch ?_ | refine o_v (vap encL x) ?_ | refine o_loads ?_ | refine o_loadp ?_ | refine o_faddr ?_ | refine o_add ?_ | refine o_cat ?_ | refine o_bin ?_ | refine o_lenq ?_ | refine o_len ?_ | refine o_loadsA ?_ | refine o_loadpA ?_ | refine o_box ?_ | refine o_alloc ?_ | refine o_bslice ?_ | refine o_store ?_ | refine o_not ?_ | refine o_build ?_
    refine ct_ret ⟨.inr rfl, ?_⟩
    exact oG [⟨1, 49168⟩] (v' := .tup [.agg [ownV ⟨0, 0⟩ ((l.held ++ [x]).map encL), .sh false (l.waits.map encL)], .bool true, .int .i64 0])
  | false =>
  rw [h2] at ha
  have hcc := circle_vc (l := ⟨l.held, l.waits ++ [x]⟩) (by simp; omega) x.own
  cases h3 : cycB pconf ⟨l.held, l.waits ++ [x]⟩ x.own with
  | true =>
    have e : ptakeL l x = (l, false, 321) := by unfold ptakeL takeG; rw [if_neg (by simp [h0]), if_neg h1, if_neg (by simp [h2]), if_pos h3]
    rw [e]
    rw [h3] at hcc
    refine vc_of vf37 ?_ (Nat.le_of_ble_eq_true rfl) (by intro vs h; cases h; simp)
    repeat first | refine o_copy ?_ | refine nl ?_ | refine ct_seq ?_ | refine rg ?_ | refine ct_block ?_ | refine bq ?_ | refine cv0 hr ?_ | refine o_loads ?_ | refine o_loadp ?_ | refine o_faddr ?_ | refine o_add ?_ | refine o_cat ?_ | refine o_bin ?_ | refine o_lenq ?_ | refine o_len ?_ | refine o_loadsA ?_ | refine o_loadpA ?_ | refine o_box ?_ | refine o_alloc ?_ | refine o_bslice ?_ | refine o_store ?_ | refine o_not ?_ | refine o_build ?_
    refine cndf ?_
    repeat first | refine o_copy ?_ | refine nl ?_ | refine ct_seq ?_ | refine rg ?_ | refine ct_block ?_ | refine bq ?_ | refine o_loads ?_ | refine o_loadp ?_ | refine o_faddr ?_ | refine o_add ?_ | refine o_cat ?_ | refine o_bin ?_ | refine o_lenq ?_ | refine o_len ?_ | refine o_loadsA ?_ | refine o_loadpA ?_ | refine o_box ?_ | refine o_alloc ?_ | refine o_bslice ?_ | refine o_store ?_ | refine o_not ?_ | refine o_build ?_
    refine cndf ?_
    repeat first | refine o_copy ?_ | refine nl ?_ | refine ct_seq ?_ | refine rg ?_ | refine ct_block ?_ | refine bq ?_ | refine cv0 ha ?_ | refine o_loads ?_ | refine o_loadp ?_ | refine o_faddr ?_ | refine o_add ?_ | refine o_cat ?_ | refine o_bin ?_ | refine o_lenq ?_ | refine o_len ?_ | refine o_loadsA ?_ | refine o_loadpA ?_ | refine o_box ?_ | refine o_alloc ?_ | refine o_bslice ?_ | refine o_store ?_ | refine o_not ?_ | refine o_build ?_
    refine cndf (ct_skip ?_)
    repeat first | refine o_copy ?_ | refine nl ?_ | refine ct_seq ?_ | refine rg ?_ | refine ct_block ?_ | refine bq ?_ | refine cv hcw ?_ | refine o_v (vap encL x) ?_ | refine cv0 hcc (h3 := by exact l_lsY rfl rfl) ?_ | refine o_loads ?_ | refine o_loadp ?_ | refine o_faddr ?_ | refine o_add ?_ | refine o_cat ?_ | refine o_bin ?_ | refine o_lenq ?_ | refine o_len ?_ | refine o_loadsA ?_ | refine o_loadpA ?_ | refine o_box ?_ | refine o_alloc ?_ | refine o_bslice ?_ | refine o_store ?_ | refine o_not ?_ | refine o_build ?_
    refine cndt ?_
    repeat first | refine o_copy ?_ | refine nl ?_ | refine ct_seq ?_ | refine rg ?_ | refine ct_block ?_ | refine bq ?_ | refine o_loads ?_ | refine o_loadp ?_ | refine o_faddr ?_ | refine o_add ?_ | refine o_cat ?_ | refine o_bin ?_ | refine o_lenq ?_ | refine o_len ?_ | refine o_loadsA ?_ | refine o_loadpA ?_ | refine o_box ?_ | refine o_alloc ?_ | refine o_bslice ?_ | refine o_store ?_ | refine o_not ?_ | refine o_build ?_
    exact ct_ret ⟨.inr rfl, oAny rfl⟩
  | false =>
    have e : ptakeL l x = (⟨l.held, l.waits ++ [x]⟩, false, 0) := by unfold ptakeL takeG; rw [if_neg (by simp [h0]), if_neg h1, if_neg (by simp [h2]), if_neg (by simp [h3])]
    rw [e]
    rw [h3] at hcc
    refine vc_closeT (hout := [blkV 5 ((l.waits ++ [x]).map encL)]) (vs := [.agg [.sh false (l.held.map encL), ownV ⟨0, 0⟩ ((l.waits ++ [x]).map encL)], .bool false, .int .i64 0]) ?_ (l_tk2 rfl) (by simp) (by simp)
    refine vc_of vf37 ?_ (Nat.le_of_ble_eq_true rfl) (by intro vs h; cases h; simp)
    repeat first | refine o_copy ?_ | refine nl ?_ | refine ct_seq ?_ | refine rg ?_ | refine ct_block ?_ | refine bq ?_ | refine cv0 hr ?_ | refine o_loads ?_ | refine o_loadp ?_ | refine o_faddr ?_ | refine o_add ?_ | refine o_cat ?_ | refine o_bin ?_ | refine o_lenq ?_ | refine o_len ?_ | refine o_loadsA ?_ | refine o_loadpA ?_ | refine o_box ?_ | refine o_alloc ?_ | refine o_bslice ?_ | refine o_store ?_ | refine o_not ?_ | refine o_build ?_
    refine cndf ?_
    repeat first | refine o_copy ?_ | refine nl ?_ | refine ct_seq ?_ | refine rg ?_ | refine ct_block ?_ | refine bq ?_ | refine o_loads ?_ | refine o_loadp ?_ | refine o_faddr ?_ | refine o_add ?_ | refine o_cat ?_ | refine o_bin ?_ | refine o_lenq ?_ | refine o_len ?_ | refine o_loadsA ?_ | refine o_loadpA ?_ | refine o_box ?_ | refine o_alloc ?_ | refine o_bslice ?_ | refine o_store ?_ | refine o_not ?_ | refine o_build ?_
    refine cndf ?_
    repeat first | refine o_copy ?_ | refine nl ?_ | refine ct_seq ?_ | refine rg ?_ | refine ct_block ?_ | refine bq ?_ | refine cv0 ha ?_ | refine o_loads ?_ | refine o_loadp ?_ | refine o_faddr ?_ | refine o_add ?_ | refine o_cat ?_ | refine o_bin ?_ | refine o_lenq ?_ | refine o_len ?_ | refine o_loadsA ?_ | refine o_loadpA ?_ | refine o_box ?_ | refine o_alloc ?_ | refine o_bslice ?_ | refine o_store ?_ | refine o_not ?_ | refine o_build ?_
    refine cndf (ct_skip ?_)
    repeat first | refine o_copy ?_ | refine nl ?_ | refine ct_seq ?_ | refine rg ?_ | refine ct_block ?_ | refine bq ?_ | refine cv hcw ?_ | refine o_v (vap encL x) ?_ | refine cv0 hcc (h3 := by exact l_lsY rfl rfl) ?_ | refine o_loads ?_ | refine o_loadp ?_ | refine o_faddr ?_ | refine o_add ?_ | refine o_cat ?_ | refine o_bin ?_ | refine o_lenq ?_ | refine o_len ?_ | refine o_loadsA ?_ | refine o_loadpA ?_ | refine o_box ?_ | refine o_alloc ?_ | refine o_bslice ?_ | refine o_store ?_ | refine o_not ?_ | refine o_build ?_
    refine cndf (ct_skip ?_)
    repeat first | refine o_copy ?_ | refine nl ?_ | refine ct_seq ?_ | refine rg ?_ | refine ct_block ?_ | refine bq ?_ | refine o_loads ?_ | refine o_loadp ?_ | refine o_faddr ?_ | refine o_add ?_ | refine o_cat ?_ | refine o_bin ?_ | refine o_lenq ?_ | refine o_len ?_ | refine o_loadsA ?_ | refine o_loadpA ?_ | refine o_box ?_ | refine o_alloc ?_ | refine o_bslice ?_ | refine o_store ?_ | refine o_not ?_ | refine o_build ?_
    refine ct_ret ⟨.inr rfl, ?_⟩
    exact oG [⟨1, 57376⟩] (v' := .tup [.agg [.sh false (l.held.map encL), ownV ⟨0, 0⟩ ((l.waits ++ [x]).map encL)], .bool false, .int .i64 0])
end Go.Proofs
open Go.V Go.Pu
set_option linter.unusedVariables false
set_option linter.unusedSimpArgs false
set_option maxRecDepth 20000
namespace Go.Proofs
/-- downspout/downspoutlaw32.take -/
def vc15 : VCode :=
 (.seq
 (.region 0 false [
 ⟨(some 2), .box (.t 0), none, 0, []⟩,
 ⟨(some 3), .box (.t 1), none, 8, []⟩,
 ⟨(some 4), .alloc [.nils, .nils, (.bool false), (.int .i64 0)], none, 16, []⟩])
 (.seq
 (.region 1 false [
 ⟨(some 9), .load true 2 (.t 2), none, 8192, []⟩,
 ⟨(some 10), .load true 5 (.t 3), none, 8200, []⟩,
 ⟨(some 11), .call (.c (.fn 37 [])) [(.t 9), (.t 10)], none, 8208, [0, 1]⟩,
 ⟨(some 8), .copy (.t 11), none, 8216, [2, 0, 1]⟩,
 ⟨(some 12), .extract (.t 8) 0, none, 8224, [3, 2, 0, 1]⟩,
 ⟨(some 13), .extract (.t 8) 1, none, 8232, [3, 2, 0, 1]⟩,
 ⟨(some 14), .extract (.t 8) 2, none, 8240, [3, 2, 0, 1]⟩,
 ⟨(some 5), .alloc [.nils, .nils], none, 8248, []⟩,
 ⟨none, .store 2 (.t 5) (.t 12), none, 8256, [7, 4, 3, 2, 0, 1]⟩,
 ⟨(some 6), .copy (.t 13), none, 8264, [5, 3, 2, 0, 1, 8, 7, 4]⟩,
 ⟨(some 7), .copy (.t 14), none, 8272, [6, 3, 2, 0, 1, 9, 5, 8, 7, 4]⟩])
 (.seq
 (.region 2 false [
 ⟨(some 15), .load true 2 (.t 5), none, 16384, []⟩,
 ⟨(some 16), .copy (.t 6), none, 16392, []⟩,
 ⟨(some 17), .copy (.t 7), none, 16400, []⟩,
 ⟨(some 18), .build [.nils, .nils, (.bool false), (.int .i64 0)] [(0, 2, (.t 15)), (2, 1, (.t 16)), (3, 1, (.t 17))], none, 16408, [0, 1, 2]⟩,
 ⟨none, .store 4 (.t 4) (.t 18), none, 16416, [3, 0, 1, 2]⟩])
 .ret)))
theorem vf15 : VF Try.prog 15 = some (19, vc15, [.cell true 4 4]) := by kernel_rfl
/-- downspout/downspoutlaw32.drop -/
def vc13 : VCode :=
 (.seq
 (.region 0 false [
 ⟨(some 2), .box (.t 0), none, 0, []⟩,
 ⟨(some 3), .box (.t 1), none, 8, []⟩,
 ⟨(some 4), .alloc [.nils, .nils, .nils, (.int .i64 0)], none, 16, []⟩])
 (.seq
 (.region 1 false [
 ⟨(some 9), .load true 2 (.t 2), none, 8192, []⟩,
 ⟨(some 10), .load true 5 (.t 3), none, 8200, []⟩,
 ⟨(some 11), .call (.c (.fn 35 [])) [(.t 9), (.t 10)], none, 8208, [0, 1]⟩,
 ⟨(some 8), .copy (.t 11), none, 8216, [2, 0, 1]⟩,
 ⟨(some 12), .extract (.t 8) 0, none, 8224, [3, 2, 0, 1]⟩,
 ⟨(some 13), .extract (.t 8) 1, none, 8232, [3, 2, 0, 1]⟩,
 ⟨(some 14), .extract (.t 8) 2, none, 8240, [3, 2, 0, 1]⟩,
 ⟨(some 5), .alloc [.nils, .nils], none, 8248, []⟩,
 ⟨none, .store 2 (.t 5) (.t 12), none, 8256, [7, 4, 3, 2, 0, 1]⟩,
 ⟨(some 6), .copy (.t 13), none, 8264, [5, 3, 2, 0, 1, 8, 7, 4]⟩,
 ⟨(some 7), .copy (.t 14), none, 8272, [6, 3, 2, 0, 1, 9, 5, 8, 7, 4]⟩])
 (.seq
 (.region 2 false [
 ⟨(some 15), .load true 2 (.t 5), none, 16384, []⟩,
 ⟨(some 16), .copy (.t 6), none, 16392, []⟩,
 ⟨(some 17), .copy (.t 7), none, 16400, []⟩,
 ⟨(some 18), .build [.nils, .nils, .nils, (.int .i64 0)] [(0, 2, (.t 15)), (2, 1, (.t 16)), (3, 1, (.t 17))], none, 16408, [0, 1, 2]⟩,
 ⟨none, .store 4 (.t 4) (.t 18), none, 16416, [3, 0, 1, 2]⟩])
 .ret)))
theorem vf13 : VF Try.prog 13 = some (19, vc13, [.cell true 4 4]) := by kernel_rfl
/-- downspout/downspoutlaw32.leave -/
def vc28 : VCode :=
 (.seq
 (.region 0 false [
 ⟨(some 2), .box (.t 0), none, 0, []⟩,
 ⟨(some 4), .alloc [.nils, .nils, .nils, (.int .i64 0)], none, 8, []⟩])
 (.seq
 (.region 1 false [
 ⟨(some 8), .load true 2 (.t 2), none, 8192, []⟩,
 ⟨(some 9), .copy (.t 1), none, 8200, []⟩,
 ⟨(some 10), .call (.c (.fn 51 [])) [(.t 8), (.t 9)], none, 8208, [0, 1]⟩,
 ⟨(some 7), .copy (.t 10), none, 8216, [2, 0, 1]⟩,
 ⟨(some 11), .extract (.t 7) 0, none, 8224, [3, 2, 0, 1]⟩,
 ⟨(some 12), .extract (.t 7) 1, none, 8232, [3, 2, 0, 1]⟩,
 ⟨(some 5), .alloc [.nils, .nils], none, 8240, []⟩,
 ⟨none, .store 2 (.t 5) (.t 11), none, 8248, [6, 4, 3, 2, 0, 1]⟩,
 ⟨(some 6), .copy (.t 12), none, 8256, [5, 3, 2, 0, 1, 7, 6, 4]⟩])
 (.seq
 (.region 2 false [
 ⟨(some 13), .load true 2 (.t 5), none, 16384, []⟩,
 ⟨(some 14), .copy (.t 6), none, 16392, []⟩,
 ⟨(some 15), .build [.nils, .nils, .nils, (.int .i64 0)] [(0, 2, (.t 13)), (2, 1, (.t 14))], none, 16400, [0, 1]⟩,
 ⟨none, .store 4 (.t 4) (.t 15), none, 16408, [2, 0, 1]⟩])
 .ret)))
theorem vf28 : VF Try.prog 28 = some (16, vc28, [.cell true 4 4]) := by kernel_rfl
/-- downspout/downspoutlaw32.same -/
def vc25 : VCode :=
 (.seq
 (.region 0 false [
 ⟨(some 2), .box (.t 0), none, 0, []⟩,
 ⟨(some 3), .box (.t 1), none, 8, []⟩,
 ⟨(some 4), .copy (.c (.bool false)), none, 16, []⟩])
 (.seq
 (.region 1 false [
 ⟨(some 5), .faddr 0 (.t 2), none, 8192, []⟩,
 ⟨(some 6), .load true 2 (.t 5), none, 8200, [0]⟩,
 ⟨(some 7), .faddr 0 (.t 3), none, 8208, []⟩,
 ⟨(some 8), .load true 2 (.t 7), none, 8216, [2]⟩,
 ⟨(some 9), .call (.c (.fn 19 [])) [(.t 6), (.t 8)], none, 8224, [1, 0, 3, 2]⟩,
 ⟨(some 10), .copy (.t 9), none, 8232, [4, 1, 0, 3, 2]⟩,
 ⟨(some 11), .faddr 2 (.t 2), (some (5, 10, true)), 8240, [5, 4, 1, 0, 3, 2]⟩,
 ⟨(some 12), .load false 1 (.t 11), (some (5, 10, true)), 8248, [6, 5, 4, 1, 0, 3, 2]⟩,
 ⟨(some 13), .faddr 2 (.t 3), (some (5, 10, true)), 8256, [5, 4, 1, 0, 3, 2]⟩,
 ⟨(some 14), .load false 1 (.t 13), (some (5, 10, true)), 8264, [8, 5, 4, 1, 0, 3, 2]⟩,
 ⟨(some 15), .call (.c (.fn 17 [])) [(.t 12), (.t 14)], (some (5, 10, true)), 8272, [7, 6, 5, 4, 1, 0, 3, 2, 9, 8]⟩,
 ⟨(some 16), .pick (.t 10) (.t 15) (.c (.bool false)), none, 8280, [5, 4, 1, 0, 3, 2, 10, 7, 6, 9, 8]⟩,
 ⟨(some 17), .copy (.t 16), none, 8288, [11, 5, 4, 1, 0, 3, 2, 10, 7, 6, 9, 8]⟩,
 ⟨(some 18), .faddr 3 (.t 2), (some (12, 17, true)), 8296, [12, 11, 5, 4, 1, 0, 3, 2, 10, 7, 6, 9, 8]⟩,
 ⟨(some 19), .load false 1 (.t 18), (some (12, 17, true)), 8304, [13, 12, 11, 5, 4, 1, 0, 3, 2, 10, 7, 6, 9, 8]⟩,
 ⟨(some 20), .faddr 3 (.t 3), (some (12, 17, true)), 8312, [12, 11, 5, 4, 1, 0, 3, 2, 10, 7, 6, 9, 8]⟩,
 ⟨(some 21), .load false 1 (.t 20), (some (12, 17, true)), 8320, [15, 12, 11, 5, 4, 1, 0, 3, 2, 10, 7, 6, 9, 8]⟩,
 ⟨(some 22), .bin .eql (.t 19) (.t 21), (some (12, 17, true)), 8328, [14, 13, 12, 11, 5, 4, 1, 0, 3, 2, 10, 7, 6, 9, 8, 16, 15]⟩,
 ⟨(some 23), .pick (.t 17) (.t 22) (.c (.bool false)), none, 8336, [12, 11, 5, 4, 1, 0, 3, 2, 10, 7, 6, 9, 8, 17, 14, 13, 16, 15]⟩,
 ⟨(some 4), .copy (.t 23), none, 8344, [18, 12, 11, 5, 4, 1, 0, 3, 2, 10, 7, 6, 9, 8, 17, 14, 13, 16, 15]⟩])
 .ret))
theorem vf25 : VF Try.prog 25 = some (24, vc25, [.tmp 4]) := by kernel_rfl
theorem htake_vc {l : LocksL} (hl : l.held.length + l.waits.length ≤ 9000) (x : LockL) : VC Try.prog 15 [.agg (encLs l), .agg (encL x)] [] (.agg (encT (ptakeL l x))) [] := by
  have h := take_vc hl x
  generalize ptakeL l x = t at h ⊢
  obtain ⟨⟨a, b⟩, c, d⟩ := t
  refine vc_of vf15 ?_ (Nat.le_of_ble_eq_true rfl) (by intro vs h; cases h)
  repeat first | refine o_copy ?_ | refine nl ?_ | refine ct_seq ?_ | refine rg ?_ | refine ct_block ?_ | refine bq ?_ | refine cf h ?_ | refine o_loadsA ?_ | refine o_loadpA ?_ | refine o_box ?_ | refine o_alloc ?_ | refine o_store ?_ | refine o_build ?_ | refine o_extract ?_
  exact ct_ret ⟨.inr rfl, oAny rfl⟩
theorem hdrop_vc {l : LocksL} (hl : l.held.length + l.waits.length ≤ 9000) (x : LockL) : VC Try.prog 13 [.agg (encLs l), .agg (encL x)] [] (.agg (encGr (dropG pmt l x))) [] := by
  have h := drop_vc (l := l) (by omega) x
  generalize dropG pmt l x = t at h ⊢
  obtain ⟨⟨a, b⟩, c, d⟩ := t
  refine vc_of vf13 ?_ (Nat.le_of_ble_eq_true rfl) (by intro vs h; cases h)
  repeat first | refine o_copy ?_ | refine nl ?_ | refine ct_seq ?_ | refine rg ?_ | refine ct_block ?_ | refine bq ?_ | refine cf h ?_ | refine o_loadsA ?_ | refine o_loadpA ?_ | refine o_box ?_ | refine o_alloc ?_ | refine o_store ?_ | refine o_build ?_ | refine o_extract ?_
  exact ct_ret ⟨.inr rfl, oAny rfl⟩
theorem hleave_vc {l : LocksL} (hl : l.held.length + l.waits.length ≤ 9000) (o : Int) : VC Try.prog 28 [.agg (encLs l), .int .i64 o] [] (.agg (encGr (leaveG pmt l o))) [] := by
  have h := leave_vc (l := l) (by omega) o
  have h0 : (leaveG pmt l o).e = 0 := rfl
  generalize leaveG pmt l o = t at h h0 ⊢
  obtain ⟨⟨a, b⟩, c, d⟩ := t
  simp only at h0
  subst h0
  refine vc_of vf28 ?_ (Nat.le_of_ble_eq_true rfl) (by intro vs h; cases h)
  repeat first | refine o_copy ?_ | refine nl ?_ | refine ct_seq ?_ | refine rg ?_ | refine ct_block ?_ | refine bq ?_ | refine cf h ?_ | refine o_loadsA ?_ | refine o_loadpA ?_ | refine o_box ?_ | refine o_alloc ?_ | refine o_store ?_ | refine o_build ?_ | refine o_extract ?_
  exact ct_ret ⟨.inr rfl, oAny rfl⟩
theorem hsame_vc {a b : GrL} (h1 : a.l.held.length + a.l.waits.length ≤ 9000) (h2 : b.l.held.length + b.l.waits.length ≤ 9000) (h3 : a.g.length ≤ 9000) (h4 : b.g.length ≤ 9000) :
    VC Try.prog 25 [.agg (encGr a), .agg (encGr b)] [] (.bool (decide (a = b))) [] := by
  have g1 := rsame_vc (a := a.l) (b := b.l) (by omega) (by omega) (by omega) (by omega)
  have g2 := sameLocks_vc (a := a.g) (b := b.g) (by omega) (by omega)
  obtain ⟨⟨a1, a2⟩, c, d⟩ := a
  obtain ⟨⟨b1, b2⟩, e, f⟩ := b
  have key : decide ((⟨⟨a1, a2⟩, c, d⟩ : GrL) = ⟨⟨b1, b2⟩, e, f⟩) = ((decide ((⟨a1, a2⟩ : LocksL) = ⟨b1, b2⟩) && decide (c = e)) && decide (d = f)) := by
    rw [Bool.eq_iff_iff]
    simp [and_assoc]
  rw [key]
  refine vc_of vf25 ?_ (Nat.le_of_ble_eq_true rfl) (by intro vs h; cases h)
  repeat' first | refine o_copy ?_ | refine nl ?_ | refine ct_seq ?_ | refine rg ?_ | refine ct_block ?_ | refine bq ?_ | refine ct_skip ?_ | refine ct_exit ?_ | refine rt_next ?_ | refine cndt ?_ | refine cndf ?_ | refine cv0 g1 ?_ | refine cv0 g2 ?_ | refine o_copy ?_ | refine o_loads ?_ | refine o_loadp ?_ | refine o_faddr ?_ | refine o_bin ?_ | refine o_loadsA ?_ | refine o_loadpA ?_ | refine o_box ?_ | refine o_pickt ?_ | refine o_pickf ?_ | refine skF ?_ | refine skU ?_ | refine ct_ret ⟨.inr rfl, ?_⟩ | refine cnd (fun _ => ?_) (fun _ => ?_) | (refine glook (fun _ => ?_) (fun _ => ?_) <;> first | refine cv0 g1 ?_ | refine cv0 g2 ?_ | refine o_copy ?_ | refine o_loads ?_ | refine o_loadp ?_ | refine o_faddr ?_ | refine o_bin ?_ | refine o_loadsA ?_ | refine o_loadpA ?_ | refine o_box ?_ | refine o_pickt ?_ | refine o_pickf ?_ | refine skF ?_ | refine skU ?_)
  all_goals refine oB ?_
  all_goals simp_all
  all_goals (rw [Bool.eq_iff_iff]; simp)
end Go.Proofs
open Go.V Go.Pu
set_option linter.unusedVariables false
set_option linter.unusedSimpArgs false
set_option maxRecDepth 20000
namespace Go.Proofs
/-- downspout/downspoutref32.Sound -/
def vc23 : VCode :=
 (.seq
 (.region 0 false [
 ⟨(some 1), .box (.t 0), none, 0, []⟩,
 ⟨(some 2), .copy (.c (.bool false)), none, 8, []⟩])
 (.seq
 (.region 1 true [
 ⟨(some 5), .faddr 0 (.t 1), none, 8192, []⟩,
 ⟨(some 6), .load false 1 (.t 5), none, 8200, [0]⟩,
 ⟨(some 7), .call (.c (.fn 47 [])) [(.t 6)], none, 8208, [1, 0]⟩,
 ⟨(some 8), .faddr 1 (.t 1), none, 8216, []⟩,
 ⟨(some 9), .load false 1 (.t 8), none, 8224, [3]⟩,
 ⟨(some 10), .append 5 48 [(.int .i64 0), (.str []), (.int .i64 0), (.int .i64 0), (.bool false)] (.t 7) (.t 9), none, 8232, [2, 1, 0, 4, 3]⟩,
 ⟨(some 3), .copy (.t 10), none, 8240, [5, 2, 1, 0, 4, 3]⟩])
 (.seq
 (.seq
 (.region 2 false [
 ⟨(some 11), .copy (.t 3), none, 16384, []⟩,
 ⟨(some 12), .len (.t 11), none, 16392, [0]⟩,
 ⟨(some 13), .bin .gtr (.t 12) (.c (.int .i64 32)), none, 16400, [1, 0]⟩])
 (.cond (.t 13)
 (.seq
 (.region 3 false [
 ⟨(some 2), .copy (.c (.bool false)), none, 24576, []⟩])
 .ret)
 .skip))
 (.seq
 (.seq
 (.region 4 false [
 ⟨(some 4), .copy (.c (.int .i64 0)), none, 32768, []⟩])
 (.block 0
 (.loop
 (.seq
 (.seq
 (.region 5 false [
 ⟨(some 14), .copy (.t 4), none, 40960, []⟩,
 ⟨(some 15), .copy (.t 3), none, 40968, []⟩,
 ⟨(some 16), .len (.t 15), none, 40976, [1]⟩,
 ⟨(some 17), .bin .lss (.t 14) (.t 16), none, 40984, [0, 2, 1]⟩])
 (.cond (.t 17)
 .skip
 (.exit 0)))
 (.seq
 (.block 1
 (.seq
 (.region 7 true [
 ⟨(some 20), .copy (.t 3), none, 57344, []⟩,
 ⟨(some 21), .copy (.t 4), none, 57352, []⟩,
 ⟨(some 22), .iaddr 5 (.t 20) (.t 21), none, 57360, [0, 1]⟩,
 ⟨(some 23), .load true 5 (.t 22), none, 57368, [2, 0, 1]⟩,
 ⟨(some 24), .call (.c (.fn 48 [])) [(.t 23)], none, 57376, [3, 2, 0, 1]⟩,
 ⟨(some 25), .not (.t 24), none, 57384, [4, 3, 2, 0, 1]⟩,
 ⟨(some 26), .copy (.t 25), none, 57392, [5, 4, 3, 2, 0, 1]⟩,
 ⟨(some 27), .load true 2 (.t 1), (some (6, 26, false)), 57400, [6, 5, 4, 3, 2, 0, 1]⟩,
 ⟨(some 28), .copy (.t 3), (some (6, 26, false)), 57408, [6, 5, 4, 3, 2, 0, 1]⟩,
 ⟨(some 29), .copy (.t 4), (some (6, 26, false)), 57416, [6, 5, 4, 3, 2, 0, 1]⟩,
 ⟨(some 30), .iaddr 5 (.t 28) (.t 29), (some (6, 26, false)), 57424, [8, 6, 5, 4, 3, 2, 0, 1, 9]⟩,
 ⟨(some 31), .faddr 0 (.t 30), (some (6, 26, false)), 57432, [10, 8, 6, 5, 4, 3, 2, 0, 1, 9]⟩,
 ⟨(some 32), .load false 1 (.t 31), (some (6, 26, false)), 57440, [11, 10, 8, 6, 5, 4, 3, 2, 0, 1, 9]⟩,
 ⟨(some 33), .call (.c (.fn 18 [])) [(.t 27), (.t 32)], (some (6, 26, false)), 57448, [7, 6, 5, 4, 3, 2, 0, 1, 12, 11, 10, 8, 9]⟩,
 ⟨(some 34), .pick (.t 26) (.c (.bool true)) (.t 33), none, 57456, [6, 5, 4, 3, 2, 0, 1, 13, 7, 12, 11, 10, 8, 9]⟩,
 ⟨(some 35), .copy (.t 34), none, 57464, [14, 6, 5, 4, 3, 2, 0, 1, 13, 7, 12, 11, 10, 8, 9]⟩,
 ⟨(some 36), .copy (.t 3), (some (15, 35, false)), 57472, [15, 14, 6, 5, 4, 3, 2, 0, 1, 13, 7, 12, 11, 10, 8, 9]⟩,
 ⟨(some 37), .copy (.t 4), (some (15, 35, false)), 57480, [15, 14, 6, 5, 4, 3, 2, 0, 1, 13, 7, 12, 11, 10, 8, 9]⟩,
 ⟨(some 38), .slsl 5 (.t 36) none (some (.t 37)) none, (some (15, 35, false)), 57488, [16, 15, 14, 6, 5, 4, 3, 2, 0, 1, 13, 7, 12, 11, 10, 8, 9, 17]⟩,
 ⟨(some 39), .copy (.t 3), (some (15, 35, false)), 57496, [15, 14, 6, 5, 4, 3, 2, 0, 1, 13, 7, 12, 11, 10, 8, 9]⟩,
 ⟨(some 40), .copy (.t 4), (some (15, 35, false)), 57504, [15, 14, 6, 5, 4, 3, 2, 0, 1, 13, 7, 12, 11, 10, 8, 9]⟩,
 ⟨(some 41), .iaddr 5 (.t 39) (.t 40), (some (15, 35, false)), 57512, [19, 15, 14, 6, 5, 4, 3, 2, 0, 1, 13, 7, 12, 11, 10, 8, 9, 20]⟩,
 ⟨(some 42), .load true 5 (.t 41), (some (15, 35, false)), 57520, [21, 19, 15, 14, 6, 5, 4, 3, 2, 0, 1, 13, 7, 12, 11, 10, 8, 9, 20]⟩,
 ⟨(some 43), .call (.c (.fn 31 [])) [(.t 38), (.t 42)], (some (15, 35, false)), 57528, [18, 16, 15, 14, 6, 5, 4, 3, 2, 0, 1, 13, 7, 12, 11, 10, 8, 9, 17, 22, 21, 19, 20]⟩,
 ⟨(some 44), .copy (.t 4), (some (15, 35, false)), 57536, [15, 14, 6, 5, 4, 3, 2, 0, 1, 13, 7, 12, 11, 10, 8, 9]⟩,
 ⟨(some 45), .faddr 0 (.t 1), (some (15, 35, false)), 57544, [15, 14, 6, 5, 4, 3, 2, 0, 1, 13, 7, 12, 11, 10, 8, 9]⟩,
 ⟨(some 46), .load false 1 (.t 45), (some (15, 35, false)), 57552, [25, 15, 14, 6, 5, 4, 3, 2, 0, 1, 13, 7, 12, 11, 10, 8, 9]⟩,
 ⟨(some 47), .len (.t 46), (some (15, 35, false)), 57560, [26, 25, 15, 14, 6, 5, 4, 3, 2, 0, 1, 13, 7, 12, 11, 10, 8, 9]⟩,
 ⟨(some 48), .bin .geq (.t 44) (.t 47), (some (15, 35, false)), 57568, [24, 15, 14, 6, 5, 4, 3, 2, 0, 1, 13, 7, 12, 11, 10, 8, 9, 27, 26, 25]⟩,
 ⟨(some 49), .eqb true (.t 43) (.t 48), (some (15, 35, false)), 57576, [23, 18, 16, 15, 14, 6, 5, 4, 3, 2, 0, 1, 13, 7, 12, 11, 10, 8, 9, 17, 22, 21, 19, 20, 28, 24, 27, 26, 25]⟩,
 ⟨(some 50), .pick (.t 35) (.c (.bool true)) (.t 49), none, 57584, [15, 14, 6, 5, 4, 3, 2, 0, 1, 13, 7, 12, 11, 10, 8, 9, 29, 23, 18, 16, 17, 22, 21, 19, 20, 28, 24, 27, 26, 25]⟩])
 (.cond (.t 50)
 (.seq
 (.region 8 false [
 ⟨(some 2), .copy (.c (.bool false)), none, 65536, []⟩])
 .ret)
 .skip)))
 (.region 6 false [
 ⟨(some 18), .copy (.t 4), none, 49152, []⟩,
 ⟨(some 19), .bin .add (.t 18) (.c (.int .i64 1)), none, 49160, [0]⟩,
 ⟨(some 4), .copy (.t 19), none, 49168, [1, 0]⟩]))))))
 (.seq
 (.region 9 false [
 ⟨(some 2), .copy (.c (.bool true)), none, 73728, []⟩])
 .ret)))))
theorem vf23 : VF Try.prog 23 = some (51, vc23, [.tmp 2]) := by kernel_rfl
set_option maxHeartbeats 4000000 in
theorem sound_vc {l : LocksL} (hs : SoundP l) : VC Try.prog 23 [.agg (encLs l)] [] (.bool true) [] := by
  have hl := hs.len
  have hc := copied_vc (l := l.held) (by omega)
  have hlen : (l.held ++ l.waits).length = l.held.length + l.waits.length := List.length_append
  have g1 : decide ((((l.held ++ l.waits).map encL).length : Int) > 32) = false := by rw [List.length_map]; simp; omega
  refine vc_of vf23 ?_ (Nat.le_of_ble_eq_true rfl) (by intro vs h; cases h)
  repeat first | refine o_copy ?_ | refine nl ?_ | refine ct_seq ?_ | refine rg ?_ | refine ct_block ?_ | refine bq ?_ | refine cv hc ?_ | refine o_v (vaps encL l.held l.waits) ?_ | refine o_loads ?_ | refine o_loadp ?_ | refine o_faddr ?_ | refine o_iaddr ?_ | refine o_iaddrO ?_ | refine o_iaddrR ?_ | refine o_add ?_ | refine o_cat ?_ | refine o_bin ?_ | refine o_lenq ?_ | refine o_len ?_ | refine o_loadsA ?_ | refine o_loadpA ?_ | refine o_box ?_ | refine o_not ?_ | refine o_pickt ?_ | refine o_pickf ?_ | refine o_eqb ?_ | refine skF ?_ | refine skU ?_
  refine cndf (ct_skip ?_)
  repeat first | refine o_copy ?_ | refine nl ?_ | refine ct_seq ?_ | refine rg ?_ | refine ct_block ?_ | refine bq ?_ | refine o_loads ?_ | refine o_loadp ?_ | refine o_faddr ?_ | refine o_iaddr ?_ | refine o_iaddrO ?_ | refine o_iaddrR ?_ | refine o_add ?_ | refine o_cat ?_ | refine o_bin ?_ | refine o_lenq ?_ | refine o_len ?_ | refine o_loadsA ?_ | refine o_loadpA ?_ | refine o_box ?_ | refine o_not ?_ | refine o_pickt ?_ | refine o_pickf ?_ | refine o_eqb ?_ | refine skF ?_ | refine skU ?_
  refine ct_imp (Imp.wr (t := 3) rfl (l_own rfl rfl)) ?_
  refine ct_loopG (fun (i : Nat) => [(1, .ptr ⟨1, 0⟩ 1 0 0), (3, .sh false ((l.held ++ l.waits).map encL)), (4, .int .i64 i)]) (fun i => [(⟨1, 0⟩, ⟨true, false, 2, [encLs l]⟩)]) (fun i => (l.held ++ l.waits).length - i)
    (fun i => i ≤ (l.held ++ l.waits).length) 0 goesD (Nat.zero_le _) ?_
  intro i hi
  repeat first | refine o_copy ?_ | refine nl ?_ | refine ct_seq ?_ | refine rg ?_ | refine ct_block ?_ | refine bq ?_ | refine o_loads ?_ | refine o_loadp ?_ | refine o_faddr ?_ | refine o_iaddr ?_ | refine o_iaddrO ?_ | refine o_iaddrR ?_ | refine o_add ?_ | refine o_cat ?_ | refine o_bin ?_ | refine o_lenq ?_ | refine o_len ?_ | refine o_loadsA ?_ | refine o_loadpA ?_ | refine o_box ?_ | refine o_not ?_ | refine o_pickt ?_ | refine o_pickf ?_ | refine o_eqb ?_ | refine skF ?_ | refine skU ?_
  refine cnd (fun hh => ct_skip ?_) (fun hh => ct_exit ?_)
  · have hlt : i < (l.held ++ l.waits).length := by have h' := of_decide_eq_true hh; simp only [List.length_map] at h'; omega
    have hlt2 : (i : Int) < (((l.held ++ l.waits).map encL).length : Nat) := by rw [List.length_map]; omega
    obtain ⟨x, hx⟩ : ∃ x, (l.held ++ l.waits)[i]? = some x := ⟨_, List.getElem?_eq_getElem hlt⟩
    have hxe := gm (enc := encL) (n := (i : Int)) hx (by omega)
    have hr := rright_vc x
    rw [hs.rt x (List.mem_of_getElem? hx)] at hr
    have hcy := rcircle_vc (l := l) (by omega) x.own
    rw [hs.cycB] at hcy
    have hm := rmeets_vc (l := (l.held ++ l.waits).take i) (by rw [List.length_take]; omega) x
    rw [hs.at hx] at hm
    have hwh : (l.held.map encL).length = l.held.length := List.length_map _
    have hn : decide ((i : Int) ≥ ((l.held.map encL).length : Nat)) = decide (l.held.length ≤ i) := by rw [hwh]; simp
    have hb : l.held.length ≤ i ∨ ¬ l.held.length ≤ i := Classical.em _
    rcases hb with hb | hb
    · have e : decide (l.held.length ≤ i) = true := by simpa using hb
      rw [e] at hm hn
      repeat first | refine o_copy ?_ | refine nl ?_ | refine ct_seq ?_ | refine rg ?_ | refine ct_block ?_ | refine bq ?_ | refine cv0 hr ?_ | refine cv0 hcy ?_ | refine o_v (slL (l.held ++ l.waits) 0 i (Nat.zero_le _) (by omega)) ?_ | refine cv0 hm ?_ | refine o_loads ?_ | refine o_loadp ?_ | refine o_faddr ?_ | refine o_iaddr ?_ | refine o_iaddrO ?_ | refine o_iaddrR ?_ | refine o_add ?_ | refine o_cat ?_ | refine o_bin ?_ | refine o_lenq ?_ | refine o_len ?_ | refine o_loadsA ?_ | refine o_loadpA ?_ | refine o_box ?_ | refine o_not ?_ | refine o_pickt ?_ | refine o_pickf ?_ | refine o_eqb ?_ | refine skF ?_ | refine skU ?_
      refine cndf (ht := by rw [hn]; rfl) (ct_skip ?_)
      repeat first | refine o_copy ?_ | refine nl ?_ | refine ct_seq ?_ | refine rg ?_ | refine ct_block ?_ | refine bq ?_ | refine o_loads ?_ | refine o_loadp ?_ | refine o_faddr ?_ | refine o_iaddr ?_ | refine o_iaddrO ?_ | refine o_iaddrR ?_ | refine o_add ?_ | refine o_cat ?_ | refine o_bin ?_ | refine o_lenq ?_ | refine o_len ?_ | refine o_loadsA ?_ | refine o_loadpA ?_ | refine o_box ?_ | refine o_not ?_ | refine o_pickt ?_ | refine o_pickf ?_ | refine o_eqb ?_ | refine skF ?_ | refine skU ?_
      exact agn (Q := fun _ _ => True) (i + 1) (by omega) goesD
    · have e : decide (l.held.length ≤ i) = false := by simpa using hb
      rw [e] at hm hn
      repeat first | refine o_copy ?_ | refine nl ?_ | refine ct_seq ?_ | refine rg ?_ | refine ct_block ?_ | refine bq ?_ | refine cv0 hr ?_ | refine cv0 hcy ?_ | refine o_v (slL (l.held ++ l.waits) 0 i (Nat.zero_le _) (by omega)) ?_ | refine cv0 hm ?_ | refine o_loads ?_ | refine o_loadp ?_ | refine o_faddr ?_ | refine o_iaddr ?_ | refine o_iaddrO ?_ | refine o_iaddrR ?_ | refine o_add ?_ | refine o_cat ?_ | refine o_bin ?_ | refine o_lenq ?_ | refine o_len ?_ | refine o_loadsA ?_ | refine o_loadpA ?_ | refine o_box ?_ | refine o_not ?_ | refine o_pickt ?_ | refine o_pickf ?_ | refine o_eqb ?_ | refine skF ?_ | refine skU ?_
      refine cndf (ht := by rw [hn]; rfl) (ct_skip ?_)
      repeat first | refine o_copy ?_ | refine nl ?_ | refine ct_seq ?_ | refine rg ?_ | refine ct_block ?_ | refine bq ?_ | refine o_loads ?_ | refine o_loadp ?_ | refine o_faddr ?_ | refine o_iaddr ?_ | refine o_iaddrO ?_ | refine o_iaddrR ?_ | refine o_add ?_ | refine o_cat ?_ | refine o_bin ?_ | refine o_lenq ?_ | refine o_len ?_ | refine o_loadsA ?_ | refine o_loadpA ?_ | refine o_box ?_ | refine o_not ?_ | refine o_pickt ?_ | refine o_pickf ?_ | refine o_eqb ?_ | refine skF ?_ | refine skU ?_
      exact agn (Q := fun _ _ => True) (i + 1) (by omega) goesD
  · repeat first | refine o_copy ?_ | refine nl ?_ | refine ct_seq ?_ | refine rg ?_ | refine ct_block ?_ | refine bq ?_ | refine o_loads ?_ | refine o_loadp ?_ | refine o_faddr ?_ | refine o_iaddr ?_ | refine o_iaddrO ?_ | refine o_iaddrR ?_ | refine o_add ?_ | refine o_cat ?_ | refine o_bin ?_ | refine o_lenq ?_ | refine o_len ?_ | refine o_loadsA ?_ | refine o_loadpA ?_ | refine o_box ?_ | refine o_not ?_ | refine o_pickt ?_ | refine o_pickf ?_ | refine o_eqb ?_ | refine skF ?_ | refine skU ?_
    exact ct_ret ⟨.inr rfl, oB rfl⟩
end Go.Proofs
open Go.V Go.Pu
set_option linter.unusedVariables false
set_option linter.unusedSimpArgs false
set_option maxRecDepth 20000
namespace Go.Proofs
/-! The fixed examples, run; the calls of the program's functions by what was proved of them. -/
def dL : PV → Option (List (List PV))
  | .nils => some []
  | .she => some []
  | .sh _ l => some l
  | _ => none
theorem dL_sl {p : PV} {l : List (List PV)} (h : dL p = some l) : Sl p l := by
  cases p <;> simp only [dL] at h <;> first
    | (cases h; exact .inl ⟨rfl, rfl⟩)
    | (cases h; exact .inr (.inl ⟨rfl, rfl⟩))
    | (cases h; exact Sl.sh)
    | cases h
def dLk : List PV → Option LockL
  | [.int .i64 a, .str p, .int .i64 b, .int .i64 c, .bool s] => some ⟨a, p, b, c, s⟩
  | _ => none
theorem dLk_ok {e : List PV} {x : LockL} (h : dLk e = some x) : e = encL x := by
  unfold dLk at h
  split at h
  · cases h; rfl
  · cases h
def dLks : List (List PV) → Option (List LockL)
  | [] => some []
  | e :: r => (dLk e).bind fun x => (dLks r).map (x :: ·)
theorem dLks_ok : ∀ {l : List (List PV)} {xs : List LockL}, dLks l = some xs → l = xs.map encL
  | [], xs, h => by cases h; rfl
  | e :: r, xs, h => by
    unfold dLks at h
    obtain ⟨x, hx, h⟩ := bind_some h
    obtain ⟨ys, hy, rfl⟩ := map_some h
    rw [dLks_ok hy, dLk_ok hx]; rfl
def dLs : List PV → Option LocksL
  | [p, q] => ((dL p).bind dLks).bind fun h => ((dL q).bind dLks).map fun w => ⟨h, w⟩
  | _ => none
theorem dLs_ok {cs : List PV} {l : LocksL} (h : dLs cs = some l) : PLe (.agg cs) (.agg (encLs l)) := by
  unfold dLs at h
  split at h
  · rename_i p q
    obtain ⟨w, hw, h⟩ := bind_some h
    obtain ⟨c, hc, rfl⟩ := map_some h
    obtain ⟨l1, e1, hw⟩ := bind_some hw
    obtain ⟨l2, e2, hc⟩ := bind_some hc
    have a1 := dL_sl e1
    have a2 := dL_sl e2
    rw [dLks_ok hw] at a1
    rw [dLks_ok hc] at a2
    exact PLe.agg (.cons ((CLe.sl a1).s a1.closed) (.cons ((CLe.sl a2).s a2.closed) .nil))
  · cases h
def cycC (l : LocksL) (o : Int) : Bool := (reachF l o (unk (ownersL l) [] + 1) [] o).1
theorem cycC_eq : cycC = cycB pconf := by funext l o; exact reach_cyc l o
noncomputable def orcA (l : LocksL) (x : LockL) : Nat → Option PV
  | 15 => some (.agg (encT (takeG allowsL cycC l x)))
  | 13 => some (.agg (encGr (dropG pmt l x)))
  | 16 => some (.bool (allowsL l x))
  | _ => none
noncomputable def orc : V.Call := fun f args hin => match args, hin with
  | [.agg cs, .agg xs], [] => (dLs cs).bind fun l => (dLk xs).bind fun x => match Nat.ble (l.held.length + l.waits.length) 1000 with
    | true => (orcA l x f).map fun v => (v, [])
    | false => none
  | [.agg cs, .str f1, .str t1], [] => (dLs cs).bind fun l => match Nat.beq f 20 && Nat.ble (l.held.length + l.waits.length) 1000 && l.held.all (fun x => Nat.ble x.path.length 1000) && l.waits.all (fun x => Nat.ble x.path.length 1000) && Nat.ble f1.length 1000 && Nat.ble t1.length 1000 with
    | true => some (.agg (encLs (movedG pmt l f1 t1)), [])
    | false => none
  | _, _ => none
theorem orc_good : CallGood Try.prog orc := by
  intro f args hin v hout h
  unfold orc at h
  split at h
  · rename_i cs xs
    obtain ⟨l, hl, h⟩ := bind_some h
    obtain ⟨x, hx, h⟩ := bind_some h
    split at h
    · rename_i hn
      have hn := Nat.le_of_ble_eq_true hn
      obtain ⟨v', hv, e⟩ := map_some h
      cases e
      have hp : All2 PLe [.agg cs, .agg xs] [.agg (encLs l), .agg (encL x)] := .cons (dLs_ok hl) (.cons (by rw [dLk_ok hx]; exact PLe.refl _) .nil)
      unfold orcA at hv
      split at hv
      · cases hv
        rw [cycC_eq]
        exact vc_weak (htake_vc (by omega) x) hp (PLe.refl _)
      · cases hv
        exact vc_weak (hdrop_vc (by omega) x) hp (PLe.refl _)
      · cases hv
        exact vc_weak (allows_vc (by omega) (by omega) x) hp (PLe.refl _)
      · cases hv
    · cases h
  · rename_i cs f1 t1
    obtain ⟨l, hl, h⟩ := bind_some h
    split at h
    · rename_i hn
      cases h
      simp only [Bool.and_eq_true, List.all_eq_true] at hn
      obtain ⟨⟨⟨⟨⟨h1, h2⟩, h3⟩, h4⟩, h5⟩, h6⟩ := hn
      have h1 : f = 20 := Nat.eq_of_beq_eq_true h1
      subst h1
      have h2 := Nat.le_of_ble_eq_true h2
      have h5 := Nat.le_of_ble_eq_true h5
      have h6 := Nat.le_of_ble_eq_true h6
      exact vc_weak (pmoved_vc (by omega) f1 t1 (fun x hx => Nat.le_trans (Nat.le_of_ble_eq_true (h3 x hx)) (by omega)) (fun x hx => Nat.le_trans (Nat.le_of_ble_eq_true (h4 x hx)) (by omega)) (by omega) (by omega)) (.cons (dLs_ok hl) (.cons (PLe.refl _) (.cons (PLe.refl _) .nil))) (PLe.refl _)
    · cases h
  · cases h
theorem sanity_run : run Try.prog orc noX 400 20 11 [] [] = some (.bool true, []) := by kernel_rfl
theorem sanity_vc : VC Try.prog 11 [] [] (.bool true) [] := run_ok orc_good noX_good 20 _ _ _ _ _ sanity_run
end Go.Proofs
open Go.V Go.Pu
set_option linter.unusedVariables false
set_option linter.unusedSimpArgs false
set_option maxRecDepth 20000
namespace Go.Proofs
theorem l_lsZ {hf : HF} {b : Bid} {c h w : List LockL} {d : List LockL} (hb : hf b = some (blkV 5 (w.map encL))) :
    lendVs hf [] [.agg [.sh false (c.map encL), .sh false (d.map encL)], .agg [.sh false (h.map encL), ownV b (w.map encL)]] = some ([b], [.agg (encLs ⟨c, d⟩), .agg (encLs ⟨h, w⟩)]) := by
  have h1 : ∀ z : List LockL, lendS hf [] (.sh false (z.map encL)) = some ([], .sh false (z.map encL)) := fun z => l_c rfl
  have h2 : lendS hf [] (ownV b (w.map encL)) = some ([b], .sh false (w.map encL)) := l_own hb rfl
  simp only [lendVs, lendV, lendSs]
  rw [h1, h1, h1, h2]
  rfl
theorem scr_mv {n : Nat} {l : LocksL} (h : ScrP n l) (a b : Nat) : ∀ x ∈ l.held ++ l.waits, beginsL x.path (toL b) = false → (piL (fromL a) (toL b) x.path).length ≤ 200 := fun x hx _ => by
  have := five_len (pi_five a b (h.p x hx))
  omega
/-- As goesD, where a block's level is told by a state. -/
theorem goesE {lvl : Nat} {tm tm' : Tmps} {hp hp' : Heap} (h1 : allGet tm tm' := by repeat' first | exact trivial | apply And.intro | rfl | (simp; done))
  (h2 : allGetH hp hp' := by repeat' first | exact trivial | apply And.intro | rfl | (simp; done))
  (h3 : allNm hp' tm' := by repeat' first | exact trivial | apply And.intro | exact nm_nil | exact nm_all rfl | exact nm_closed rfl | exact nm_closed (Sl.closed (by assumption)) | exact nm_closed (by assumption))
  (h4 : allNmH hp' hp' := by repeat' first | exact trivial | apply And.intro | exact nm_nil | exact nm_all rfl | exact nm_closed rfl)
  (h5 : keeps0 hp' hp := by repeat' first | exact trivial | apply And.intro | (intro h; first | exact absurd h Nat.one_ne_zero | rfl)) : Imp ⟨lvl, tm, hp⟩ ⟨lvl, tm', hp'⟩ := Imp.to h1 h2 h3 h4 h5
theorem decR {q : List PV} (n : q.length = 5) (h : ∀ (j : Nat) (p : PV), j < 5 → q[j]? = some p → InTy (.int .u8) p) : ∃ r : RawL, q = encR r ∧ r.ok := by
  obtain ⟨a, b, c, d, e, rfl⟩ := list5 n
  obtain ⟨a, rfl, h1⟩ := in_u8 (h 0 _ (by omega) rfl)
  obtain ⟨b, rfl, h2⟩ := in_u8 (h 1 _ (by omega) rfl)
  obtain ⟨c, rfl, h3⟩ := in_u8 (h 2 _ (by omega) rfl)
  obtain ⟨d, rfl, h4⟩ := in_u8 (h 3 _ (by omega) rfl)
  obtain ⟨e, rfl, h5⟩ := in_u8 (h 4 _ (by omega) rfl)
  exact ⟨⟨a, b, c, d, e⟩, rfl, h1, h2, h3, h4, h5⟩
theorem five_cell {j : Nat} {c : CTy} (h : [CTy.int .u8, .int .u8, .int .u8, .int .u8, .int .u8][j]? = some c) : c = .int .u8 := by
  have := List.mem_of_getElem? h
  simp at this
  exact this
theorem cell_five {j : Nat} (h : j < 5) : [CTy.int .u8, .int .u8, .int .u8, .int .u8, .int .u8][j]? = some (.int .u8) := by
  match j, h with
  | 0, _ => rfl
  | 1, _ => rfl
  | 2, _ => rfl
  | 3, _ => rfl
  | 4, _ => rfl
theorem decRs {l : List (List PV)} (h : InTy (.sl [.int .u8, .int .u8, .int .u8, .int .u8, .int .u8]) (.sh false l)) : ∃ rs : List RawL, l = rs.map encR ∧ (∀ r ∈ rs, r.ok) ∧ rs.length ≤ 9223372036854775807 := by
  obtain ⟨xs, h1, h2⟩ := decodeL (enc := fun (a : { r : RawL // r.ok }) => encR a.1) h fun e hl hc => by
    obtain ⟨r, rfl, hr⟩ := decR hl fun j p hj hp => hc j _ _ (cell_five hj) hp
    exact ⟨⟨r, hr⟩, rfl⟩
  refine ⟨xs.map (·.1), by rw [h1, List.map_map]; rfl, fun r hr => ?_, by simpa [maxLen] using h2⟩
  obtain ⟨a, _, rfl⟩ := List.mem_map.1 hr
  exact a.2
theorem decRaw {q : List PV} (n : q.length = [CTy.int .u8, .int .u8, .int .u8, .int .u8, .int .u8].length) (i : ∀ (j : Nat) (c : CTy) (p : PV), [CTy.int .u8, .int .u8, .int .u8, .int .u8, .int .u8][j]? = some c → q[j]? = some p → InTy c p) : ∃ r : RawL, q = encR r ∧ r.ok :=
  decR n fun j p hj hp => i j _ p (cell_five hj) hp
theorem decLock {q : List PV} (n : q.length = [CTy.int .i64, .str, .int .i64, .int .i64, .bool].length) (i : ∀ (j : Nat) (c : CTy) (p : PV), [CTy.int .i64, .str, .int .i64, .int .i64, .bool][j]? = some c → q[j]? = some p → InTy c p) : ∃ y : LockL, q = encL y := by
  obtain ⟨a, b, c, d, e, rfl⟩ := list5 n
  obtain ⟨a, rfl, _⟩ := in_int (i 0 _ _ rfl rfl)
  obtain ⟨b, rfl, _⟩ := in_str (i 1 _ _ rfl rfl)
  obtain ⟨c, rfl, _⟩ := in_int (i 2 _ _ rfl rfl)
  obtain ⟨d, rfl, _⟩ := in_int (i 3 _ _ rfl rfl)
  obtain ⟨e, rfl⟩ := in_bool (i 4 _ _ rfl rfl)
  exact ⟨⟨a, b, c, d, e⟩, rfl⟩
theorem wfU8 {b : Int} (hb : (Lit.int .u8 b).wf = true) : ∃ n : Nat, b = (n : Int) ∧ n < 256 := by
  have h : 0 ≤ b ∧ b < 256 := by
    simp [Lit.wf, IntKind.min, IntKind.max, IntKind.signed, IntKind.bits] at hb
    omega
  exact ⟨b.toNat, by omega, by omega⟩
theorem wfI32 {b : Int} (hb : (Lit.int .i32 b).wf = true) : -2147483648 ≤ b ∧ b ≤ 2147483647 := by
  simp [Lit.wf, IntKind.min, IntKind.max, IntKind.signed, IntKind.bits] at hb
  omega
end Go.Proofs
