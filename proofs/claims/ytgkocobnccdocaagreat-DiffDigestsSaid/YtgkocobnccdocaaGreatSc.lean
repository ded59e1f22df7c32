/- Sc -/
import Derived.Test.YtgkocobnccdocaaGreatSb
import Derived.Test.YtgkocobnccdocaaGreatPu
import Derived.Test.YtgkocobnccdocaaGreatSa
import Derived.Test.YtgkocobnccdocaaGreatVD
open Go.V Go.Pu
set_option linter.unusedVariables false
set_option linter.unusedSimpArgs false
set_option maxRecDepth 20000
namespace Go.Proofs
def vc133 := vcm Tryz.prog 133
theorem vf133 : VF Tryz.prog 133 = some (8, vc133, [.tmp 2]) := by kernel_rfl
def vc172 := vcm Tryz.prog 172
theorem vf172 : VF Tryz.prog 172 = some (19, vc172, [.tmp 4]) := by kernel_rfl
def vc132 := vcm Tryz.prog 132
theorem vf132 : VF Tryz.prog 132 = some (42, vc132, [.tmp 4]) := by kernel_rfl
theorem xTi {q : PV} {xs : List SpanL} (hq : Sl q (xs.map encS)) (hl : xs.length ≤ 60000) : VC Tryz.prog 133 [q] [] (ownV ⟨0, 0⟩ (xs.map encS)) [blkV 2 (xs.map encS)] := by
  refine vcs vf133 ?_
  have nilc : ∀ (h : xs.map encS = []), xs = [] := fun h => List.map_eq_nil_iff.1 h
  rcases hq with ⟨rfl, h⟩ | ⟨rfl, h⟩ | ⟨ex, rfl⟩
  · have := nilc h
    subst this
    repeat first|refine sgo ?_|refine sop ?_
    refine cndt ?_
    repeat first|refine sgo ?_|refine sop ?_
    refine xD7 (Imp.nil (t := 2) (b := ⟨1, 900000⟩) (esz := 2) rfl rfl (by decide)) ?_
    exact xAC ⟨.inr rfl, oOwn rfl⟩
  · have := nilc h
    subst this
    repeat first|refine sgo ?_|refine sop ?_
    refine cndf (xAB ?_)
    repeat first|refine sgo ?_|refine o_v (vaps encS [] []) ?_|refine sop ?_
    exact xAC ⟨.inr rfl, oOwn rfl⟩
  · cases xs with
    | nil =>
      refine xOE (t := 0) (ex := ex) (tm := xHM 0 [.sh ex []]) rfl ?_ ?_
      · repeat first|refine sgo ?_|refine sop ?_
        refine cndt ?_
        repeat first|refine sgo ?_|refine sop ?_
        refine xD7 (Imp.nil (t := 2) (b := ⟨1, 900000⟩) (esz := 2) rfl rfl (by decide)) ?_
        exact xAC ⟨.inr rfl, oOwn rfl⟩
      · repeat first|refine sgo ?_|refine sop ?_
        refine cndf (xAB ?_)
        repeat first|refine sgo ?_|refine o_v (vaps encS [] []) ?_|refine sop ?_
        exact xAC ⟨.inr rfl, oOwn rfl⟩
    | cons x xs =>
      have hl2 : xs.length + 1 ≤ 60000 := hl
      repeat first|refine sgo ?_|refine sop ?_
      refine cndf (xAB ?_)
      repeat first|refine sgo ?_|refine o_v (vaps encS [] (x :: xs)) ?_|refine sop ?_
      exact xAC ⟨.inr rfl, oOwn rfl⟩
def idxE (l : List SpanL) : Int := if l.any xAK = true then (l.findIdx xAK : Nat) else -1
theorem idx_vc {q : PV} {xs : List SpanL} (hq : Sl q (xs.map encS)) (hl : xs.length ≤ 60000) : VC Tryz.prog 172 [q, .fn 134 []] [] (.int .i64 (idxE xs)) [] := by
  refine vcs vf172 ?_
  repeat first|refine sgo ?_|refine sop ?_
  refine xAE (fun (g : Nat) => [(0, q), (1, .fn 134 []), (7, .int .i64 (xs.map encS).length), (8, .int .i64 g)]) (fun g => []) (fun g => xs.length - g)
    (fun g => g ≤ xs.length ∧ (xs.take g).any xAK = false) 0 goes ⟨Nat.zero_le _, rfl⟩ ?_
  rintro i ⟨hi, hv⟩
  (try dsimp only)
  repeat first|refine sgo ?_|refine sop ?_
  refine cnd (fun h => xAB ?_) (fun h => xAD ?_)
  · have hlt : i < xs.length := by have h' := of_decide_eq_true h; simp only [List.length_map] at h'; omega
    obtain ⟨x, hx⟩ : ∃ x, xs[i]? = some x := ⟨_, List.getElem?_eq_getElem hlt⟩
    have hxe := gm (enc := encS) (n := (i : Int)) hx (by omega)
    repeat first|refine sgo ?_|refine cv0 (xGL x) ?_|refine sop ?_
    refine cnd (fun h2 => ?_) (fun h2 => xAB ?_)
    · repeat first|refine sgo ?_|refine sop ?_
      refine xAC ⟨.inr rfl, oI ?_⟩
      have hxs : xs = xs.take i ++ x :: xs.drop (i + 1) := by rw [← xAo hx, List.take_append_drop]
      have ha : xs.any xAK = true := by rw [hxs]; simp [h2]
      unfold idxE
      rw [if_pos ha]
      have : xs.findIdx xAK = i := by
        rw [hxs, List.findIdx_append, if_neg]
        · simp [List.findIdx_cons, h2]; omega
        · have h3 : ∀ y ∈ xs.take i, xAK y = false := by simpa using hv
          intro h4
          have := List.findIdx_getElem (w := h4)
          rw [h3 _ (List.getElem_mem _)] at this
          cases this
      rw [this]
    · repeat first|refine sgo ?_|refine sop ?_
      refine agn (i + 1) ⟨by omega, ?_⟩ goes
      rw [List.take_add_one, hx]
      simp [hv, h2]
  · have hge : i = xs.length := by have h' := of_decide_eq_false h; simp only [List.length_map] at h'; omega
    subst hge
    rw [List.take_length] at hv
    repeat first|refine sgo ?_|refine sop ?_
    refine xAC ⟨.inr rfl, oI ?_⟩
    unfold idxE
    rw [if_neg (by simp [hv])]
theorem idx_some {xs : List SpanL} (h : xs.any xAK = true) : xs.findIdx xAK < xs.length ∧ (xs.take (xs.findIdx xAK + 1)).filter ne = xs.take (xs.findIdx xAK) := by
  have hlt : xs.findIdx xAK < xs.length := List.findIdx_lt_length_of_exists (by simpa using h)
  refine ⟨hlt, ?_⟩
  have hx := List.findIdx_getElem (w := hlt)
  rw [List.take_add_one, List.getElem?_eq_getElem hlt]
  simp only [Option.toList, List.filter_append]
  have h1 : (xs.take (xs.findIdx xAK)).filter ne = xs.take (xs.findIdx xAK) := by
    refine List.filter_eq_self.2 fun y hy => ?_
    obtain ⟨k, hk, rfl⟩ := List.mem_iff_getElem.1 hy
    rw [List.getElem_take]
    have hk2 : k < xs.findIdx xAK := by have h5 := hk; rw [List.length_take] at h5; omega
    have := List.not_of_lt_findIdx hk2
    simpa [ne] using this
  rw [h1]
  simp [ne, hx]
set_option maxHeartbeats 1000000 in
theorem del_vc {N : Nat} (xs : List SpanL) (hN : xs.length = N) (hm : N ≤ 60000) :
    VC Tryz.prog 132 [.own ⟨0, 0⟩ N 0 N, .fn 134 []] [blkV 2 (xs.map encS)] (.own ⟨0, 0⟩ N 0 (xs.filter ne).length) [blkV 2 ((delL xs).map encS)] := by
  refine vcs vf132 ?_
  have hidx := idx_vc (q := .sh false (xs.map encS)) (xs := xs) Sl.sh (by omega)
  by_cases hany : xs.any xAK = true
  case neg =>
    have hi : idxE xs = -1 := by unfold idxE; rw [if_neg hany]
    have hf : xs.filter ne = xs := List.filter_eq_self.2 fun y hy => by
      have : ∀ y ∈ xs, xAK y = false := by simpa using hany
      simp [ne, this y hy]
    rw [hi] at hidx
    repeat first|refine sgo ?_|refine cv0 hidx ?_|refine sop ?_
    refine cndt ?_
    repeat first|refine sgo ?_|refine sop ?_
    have hd : delL xs = xs := by unfold delL; rw [hf]; simp
    rw [hf, hd, hN]
    exact xAC ⟨.inr rfl, oLO rfl⟩
  obtain ⟨hlt, hfl⟩ := idx_some hany
  have hi : idxE xs = (xs.findIdx xAK : Nat) := by unfold idxE; rw [if_pos hany]
  rw [hi] at hidx
  generalize xs.findIdx xAK = i0 at *
  repeat first|refine sgo ?_|refine cv0 hidx ?_|refine sop ?_
  refine cndf (xAB ?_) rfl (by simp)
  repeat first|refine sgo ?_|refine sop ?_
  refine xAE (fun (g : Nat × Nat × List SpanL) => [(0, .own ⟨0, 0⟩ N 0 N), (1, .fn 134 []), (5, .int .i64 g.1), (6, .int .i64 (g.2.1 : Nat))])
    (fun g => [(⟨0, 0⟩, blkV 2 (g.2.2.map encS))]) (fun g => N - g.2.1)
    (fun g => g.1 < g.2.1 ∧ g.2.1 ≤ N ∧ g.2.2.length = N ∧ g.2.2.take g.1 = (xs.take g.2.1).filter ne ∧ g.2.2.drop g.2.1 = xs.drop g.2.1) (i0, i0 + 1, xs) goes ⟨by simp, by simp only; omega, hN, hfl.symm, rfl⟩ ?_
  rintro ⟨i, j, zs⟩ ⟨hij, hjN, hzl, h1, h2⟩
  dsimp only at hij hjN hzl h1 h2 ⊢
  have hil : i = ((xs.take j).filter ne).length := by rw [← h1, List.length_take]; omega
  repeat first|refine sgo ?_|refine sop ?_
  refine cnd (fun h => xAB ?_) (fun h => xAD ?_)
  · have hlt : j < N := by have h' := of_decide_eq_true h; omega
    obtain ⟨x, hx⟩ : ∃ x, xs[j]? = some x := ⟨_, List.getElem?_eq_getElem (by omega)⟩
    have hzx : zs[j]? = some x := by have h3 := congrArg (fun l => l[0]?) h2; simpa [hx] using h3
    have hze := xAe (k := 0 + (j : Int).toNat) hzx (by omega)
    have hk1 : 0 + (i : Int).toNat = i := by omega
    have htk : (xs.take (j + 1)).filter ne = (xs.take j).filter ne ++ (if ne x = true then [x] else []) := by
      rw [List.take_add_one, hx, Option.toList, List.filter_append]
      by_cases hn : ne x = true <;> simp [hn]
    have hdr : zs.drop (j + 1) = xs.drop (j + 1) := by rw [← List.drop_drop, ← List.drop_drop, h2]
    repeat first|refine sgo ?_|refine xAJ ?_|refine cv0 (xGL x) ?_|refine sop ?_
    refine cnd (fun hc => ?_) (fun hc => xAB ?_)
    · rw [if_pos (show ne x = true from hc)] at htk
      repeat first|refine sgo ?_|refine xAJ ?_|refine o_v (vst encS x) ?_|refine sop ?_
      refine agn (i + 1, j + 1, zs.set (0 + (i : Int).toNat) x) ⟨by simp only; omega, by simp only; omega, by simpa only [List.length_set] using hzl, ?_, ?_⟩ goes
      · simp only [hk1]
        rw [htk, ← h1, List.take_add_one, List.take_set, List.set_eq_of_length_le (by simp; omega)]
        simp [show i < zs.length by omega]
      · simp only [hk1]
        rw [List.drop_set, if_pos (by omega)]
        exact hdr
    · rw [if_neg (show ¬ ne x = true by simpa [ne] using hc)] at htk
      repeat first|refine sgo ?_|refine sop ?_
      exact agn (i, j + 1, zs) ⟨by simp only; omega, by simp only; omega, hzl, by simp only; rw [htk, h1]; simp, hdr⟩ goes
  · have hj : j = N := by have h' := of_decide_eq_false h; omega
    subst hj
    have htN : xs.take j = xs := List.take_of_length_le (by omega)
    rw [htN] at h1 hil
    repeat first|refine sgo ?_|refine xGe ?_|refine o_v (vclr encS (⟨[], []⟩ : SpanL)) ?_|refine sop ?_
    refine xGe ?_ (hc0 := by simp; omega)
    repeat first|refine sgo ?_|refine sop ?_
    refine xAC ⟨.inr rfl, oLO (els' := ((zs.take (0 + (i : Int).toNat) ++ List.replicate ((j : Int).toNat - (i : Int).toNat) (⟨[], []⟩ : SpanL) ++ zs.drop (0 + (i : Int).toNat + ((j : Int).toNat - (i : Int).toNat))).map encS)) ?_ (h := ?_)⟩
    · have e1 : 0 + (i : Int).toNat = i := by omega
      have e2 : (j : Int).toNat - (i : Int).toNat = j - i := by omega
      rw [e1, e2, h1, List.drop_of_length_le (by omega)]
      unfold delL
      rw [hN, ← hil, List.append_nil]
    · rw [← hil]
      exact congrArg (fun z => some (PV.own ⟨0, 0⟩ j 0 z)) (by omega : (i : Int).toNat - Int.toNat 0 = i)
end Go.Proofs
open Go.V Go.Pu
set_option linter.unusedVariables false
set_option linter.unusedSimpArgs false
set_option maxRecDepth 20000
namespace Go.Proofs
def vc100 := vcm Tryz.prog 100
theorem vf100 : VF Tryz.prog 100 = some (66, vc100, [.tmp 2]) := by kernel_rfl
set_option maxHeartbeats 2000000 in
theorem xMm {q : PV} {xs : List SpanL} (hq : Sl q (xs.map encS)) (hl : xs.length ≤ 60000) : VC Tryz.prog 100 [q] [] (ownV ⟨0, 0⟩ ((xAS xs).map encS)) [blkV 2 ((xAS xs).map encS)] := by
  refine vcs vf100 ?_
  obtain ⟨hs, hnw⟩ := xLB xs
  have hkl : (xs.filter ne).length ≤ xs.length := List.length_filter_le ne xs
  have h1 := xTi hq hl
  have h2 := del_vc (N := (xs.map encS).length) xs (by simp) (by simpa using hl)
  have h3 := xUu (N := (xs.map encS).length) (n := (xs.filter ne).length) (delL xs) (by simp [xOB]) (by simpa using hkl) (by simpa using hl)
  have h3' : VC Tryz.prog 135 [.own ⟨0, 0⟩ (xs.map encS).length 0 (xs.filter ne).length, .fn 136 []] [blkV 2 ((delL xs).map encS)] (.tup []) (srt (xB4 xs)) := h3
  generalize (xs.filter ne).length = k at *
  generalize delL xs = dl at *
  generalize xB4 xs = ss at *
  obtain ⟨sl, rfl⟩ : ∃ sl : List SpanL, ss = sl.toArray := ⟨ss.toList, by simp⟩
  have hlen2 : xs.length = sl.length := by simpa using hs.symm
  rw [← hnw, show sl.toArray.toList = sl from rfl]
  have hkl2 : k ≤ sl.length := by omega
  repeat first|refine sgo ?_|refine cv h1 ?_|refine cl (lent := [⟨1, 8200⟩]) h2 ?_|refine cl (lent := [⟨1, 8200⟩]) h3' ?_|refine sop ?_
  change CT _ _ (.loop _) _ _
  have hkb : k ≤ 60000 := by omega
  have hxl : (xs.map encS).length = xs.length := List.length_map ..
  clear h1 h2 h3 h3' hs hnw
  refine xAE (fun (g : Nat × List SpanL) => [(4, ownV ⟨1, 73752⟩ (g.2.map encS)), (13, .own ⟨1, 8200⟩ (xs.map encS).length 0 k), (14, .int .i64 k), (15, .int .i64 g.1)])
    (fun g => [(⟨1, 8200⟩, blkV 2 (sl.map encS)), (⟨1, 73752⟩, blkV 2 (g.2.map encS))]) (fun g => k - g.1)
    (fun g => g.1 ≤ k ∧ g.2.length ≤ g.1 ∧ ((sl.take k).drop g.1).foldl xCd g.2 = xMn (sl.take k)) (0, []) ((Imp.nil (t := 4) (b := ⟨1, 73752⟩) (esz := 2) rfl rfl (by decide)).trans goes) ⟨Nat.zero_le _, Nat.le_refl _, rfl⟩ ?_
  rintro ⟨i, o⟩ ⟨hi, ho, hw⟩
  dsimp only at hi ho hw ⊢
  repeat first|refine sgo ?_|refine sop ?_
  refine cnd (fun h => xAB ?_) (fun h => xAD ?_)
  · have hlt : i < k := by have h' := of_decide_eq_true h; omega
    obtain ⟨y, hy⟩ : ∃ x, sl[i]? = some x := ⟨_, List.getElem?_eq_getElem (by omega)⟩
    have hyt : (sl.take k)[i]? = some y := by rw [List.getElem?_take, if_pos hlt]; exact hy
    have hye := gm (enc := encS) (n := (i : Int)) hy (by omega)
    have hye2 : (blkV 2 (sl.map encS)).els[0 + (i : Int).toNat]? = some (encS y) := by rw [Nat.zero_add]; exact hye
    rw [xAo hyt, List.foldl_cons] at hw
    have hlen := xHu o y
    rcases Nat.eq_zero_or_pos o.length with h0 | hpos
    · have ho0 : o = [] := List.length_eq_zero_iff.1 h0
      subst ho0
      repeat first|refine sgo ?_|refine xAJ ?_|refine sop ?_
      refine cndt ?_
      repeat first|refine sgo ?_|refine xAJ ?_|refine o_v (vap encS y) ?_|refine sop ?_
      refine xAD ?_
      repeat first|refine sgo ?_|refine sop ?_
      exact agn (i + 1, [] ++ [y]) ⟨by simp only; omega, by simp, hw⟩ goes
    · obtain ⟨x, hx⟩ : ∃ x, o[o.length - 1]? = some x := ⟨_, List.getElem?_eq_getElem (by omega)⟩
      have hidx : 0 + (((o.map encS).length : Int) - 1).toNat = o.length - 1 := by simp only [List.length_map]; omega
      have hx' : o[0 + (((o.map encS).length : Int) - 1).toNat]? = some x := by rw [hidx]; exact hx
      have hxe : (blkV 2 (o.map encS)).els[0 + (((o.map encS).length : Int) - 1).toNat]? = some (encS x) := by
        show (o.map encS)[_]? = _
        rw [List.getElem?_map, hx']; rfl
      have hng : decide (((o.map encS).length : Int) = 0) = false := decide_eq_false (by simp only [List.length_map]; omega)
      have hst : xCd o y = if x.hi ≠ [] ∧ Op.bytesLess x.hi y.lo = true then o ++ [y] else if xDT x.hi y.hi = true then o.set (o.length - 1) ⟨x.lo, y.hi⟩ else o := by unfold xCd; rw [hx]
      have hmp : 0 < (o.map encS).length := by simp only [List.length_map]; omega
      have hml : (o.map encS).length = o.length := List.length_map ..
      repeat first|refine sgo ?_|refine xAJ ?_|refine sop ?_
      refine xCH (fun hg => ?_) (fun hg => ?_)
      · have hxh : x.hi ≠ [] := by simpa using hg
        repeat first|refine sgo ?_|refine xAJ ?_|refine sop ?_
        refine cnd (fun h2 => ?_) (fun h2 => xAB ?_)
        · rw [if_pos ⟨hxh, h2⟩] at hst
          rw [hst] at hw hlen
          repeat first|refine sgo ?_|refine xAJ ?_|refine o_v (vap encS y) ?_|refine sop ?_
          refine xAD ?_
          repeat first|refine sgo ?_|refine sop ?_
          exact agn (i + 1, o ++ [y]) ⟨by simp only; omega, by simp only; omega, hw⟩ goes
        · rw [if_neg (by simp [h2])] at hst
          repeat first|refine sgo ?_|refine xAJ ?_|refine cv0 (xFF x.hi y.hi) ?_|refine sop ?_
          refine cnd (fun h3 => ?_) (fun h3 => xAB ?_)
          · have h3' : xDT x.hi y.hi = true := less_iff.2 (cmpEnd_lt.1 (of_decide_eq_true h3))
            rw [if_pos h3', ← hidx] at hst
            rw [hst] at hw hlen
            repeat first|refine sgo ?_|refine xAJ ?_|refine o_v (vstf encS (⟨x.lo, y.hi⟩ : SpanL) hx') ?_|refine sop ?_
            exact agn (i + 1, _) ⟨by simp only; omega, by simp only; omega, hw⟩ (goes (h1 := by
              refine ⟨?_, rfl, rfl, rfl, trivial⟩
              exact congrArg (fun n => some (PV.own ⟨1, 73752⟩ n 0 n)) (by simp : (o.map encS).length = _)))
          · have h3' : ¬ xDT x.hi y.hi = true := fun h => (of_decide_eq_false h3) (cmpEnd_lt.2 (less_iff.1 h))
            rw [if_neg h3'] at hst
            rw [hst] at hw hlen
            repeat first|refine sgo ?_|refine sop ?_
            exact agn (i + 1, o) ⟨by simp only; omega, by simp only; omega, hw⟩ goes
      · have hxh : x.hi = [] := by simpa using hg
        rw [if_neg (by simp [hxh])] at hst
        have hl0 : ¬ xDT x.hi y.hi = true := by simp [xDT, hxh]
        rw [if_neg hl0] at hst
        rw [hst] at hw hlen
        repeat first|refine sgo ?_|refine xAJ ?_|refine sop ?_
        refine cndf (xAB ?_)
        repeat first|refine sgo ?_|refine xAJ ?_|refine cv0 (xFF x.hi y.hi) ?_|refine sop ?_
        refine cndf (xAB ?_) rfl (decide_eq_false (fun h => hl0 (less_iff.2 (cmpEnd_lt.1 h))))
        repeat first|refine sgo ?_|refine sop ?_
        exact agn (i + 1, o) ⟨by simp only; omega, by simp only; omega, hw⟩ goes
  · have hge : i = k := by have h' := of_decide_eq_false h; omega
    subst hge
    rw [List.drop_eq_nil_of_le (by simp; omega), List.foldl_nil] at hw
    repeat first|refine sgo ?_|refine sop ?_
    exact xAC ⟨.inr rfl, oOwn (congrArg (List.map encS) hw)⟩
end Go.Proofs
open Go.V Go.Pu
set_option linter.unusedVariables false
set_option linter.unusedSimpArgs false
namespace Go.Proofs
end Go.Proofs
open Go.V Go.Pu
set_option linter.unusedVariables false
set_option linter.unusedSimpArgs false
set_option maxRecDepth 20000
namespace Go.Proofs
def vc176 := vcm Tryz.prog 176
theorem vf176 : VF Tryz.prog 176 = some (34, vc176, [.tmp 2]) := by kernel_rfl
def vc138 := vcm Tryz.prog 138
theorem vf138 : VF Tryz.prog 138 = some (34, vc138, [.tmp 4]) := by kernel_rfl
theorem xVx {q : PV} {l : List SpanL} (hq : Sl q (l.map encS)) (hl : l.length ≤ 1000000) : VC Tryz.prog 176 [q] [] (ownV ⟨0, 0⟩ ((xDM [] l []).map encS)) [blkV 2 ((xDM [] l []).map encS)] := by
  refine vcs vf176 ?_
  repeat first|refine sgo ?_|refine sop ?_
  refine xAE (fun (g : Nat × Str × List SpanL) => [(3, ownV ⟨1, 57392⟩ (g.2.2.map encS)), (4, .str g.2.1), (7, q), (8, .int .i64 (l.map encS).length), (9, .int .i64 g.1)])
    (fun g => [(⟨1, 57392⟩, blkV 2 (g.2.2.map encS))]) (fun g => l.length - g.1)
    (fun g => g.1 ≤ l.length ∧ g.2.2.length ≤ g.1 ∧ xDM g.2.1 (l.drop g.1) g.2.2 = xDM [] l []) (0, [], []) ((Imp.nil (t := 3) (b := ⟨1, 57392⟩) (esz := 2) rfl rfl (by decide)).trans goes) ⟨Nat.zero_le _, Nat.le_refl _, rfl⟩ ?_
  rintro ⟨i, lo, out⟩ ⟨hi, ho, hv⟩
  dsimp only at hi ho hv ⊢
  repeat first|refine sgo ?_|refine sop ?_
  refine cnd (fun h => xAB ?_) (fun h => xAD ?_)
  · have hlt : i < l.length := by have h' := of_decide_eq_true h; simp only [List.length_map] at h'; omega
    obtain ⟨y, hy⟩ : ∃ x, l[i]? = some x := ⟨_, List.getElem?_eq_getElem hlt⟩
    have hye := gm (enc := encS) (n := (i : Int)) hy (by omega)
    rw [xAo hy, xDM] at hv
    repeat first|refine sgo ?_|refine sop ?_
    refine cnd (fun h1 => ?_) (fun h1 => xAB ?_)
    · have h1' : y.lo ≠ [] := by simpa using h1
      rw [if_neg h1'] at hv
      repeat first|refine sgo ?_|refine o_v (vap encS (⟨lo, y.lo⟩ : SpanL)) ?_|refine sop ?_
      refine cnd (fun h2 => ?_) (fun h2 => xAB ?_)
      · have h2' : y.hi = [] := by simpa using h2
        rw [if_pos h2'] at hv
        repeat first|refine sgo ?_|refine sop ?_
        exact xAC ⟨.inr rfl, oOwn (congrArg (List.map encS) hv)⟩
      · have h2' : y.hi ≠ [] := by simpa using h2
        rw [if_neg h2'] at hv
        repeat first|refine sgo ?_|refine sop ?_
        exact agn (i + 1, y.hi, out ++ [⟨lo, y.lo⟩]) ⟨by simp only; omega, by simp only [List.length_append, List.length_cons, List.length_nil]; omega, hv⟩ goes
    · have h1' : y.lo = [] := by simpa using h1
      rw [if_pos h1'] at hv
      repeat first|refine sgo ?_|refine sop ?_
      refine cnd (fun h2 => ?_) (fun h2 => xAB ?_)
      · have h2' : y.hi = [] := by simpa using h2
        rw [if_pos h2'] at hv
        repeat first|refine sgo ?_|refine sop ?_
        exact xAC ⟨.inr rfl, oOwn (congrArg (List.map encS) hv)⟩
      · have h2' : y.hi ≠ [] := by simpa using h2
        rw [if_neg h2'] at hv
        repeat first|refine sgo ?_|refine sop ?_
        exact agn (i + 1, y.hi, out) ⟨by simp only; omega, by simp only; omega, hv⟩ goes
  · have hge : i = l.length := by have h' := of_decide_eq_false h; simp only [List.length_map] at h'; omega
    subst hge
    rw [List.drop_length, xDM] at hv
    repeat first|refine sgo ?_|refine o_v (vap encS (⟨lo, []⟩ : SpanL)) ?_|refine sop ?_
    exact xAC ⟨.inr rfl, oOwn (congrArg (List.map encS) hv)⟩
set_option maxHeartbeats 1000000 in
theorem xLZ {q p : PV} {l m : List SpanL} (hq : Sl q (l.map encS)) (hp : Sl p (m.map encS)) (hl : l.length ≤ 20000) (hm : m.length ≤ 20000) (hlm : l.length * (m.length + 1) ≤ 60000) : VC Tryz.prog 138 [q, p] [] (ownV ⟨0, 0⟩ ((xBG l m).map encS)) [blkV 2 ((xBG l m).map encS)] := by
  refine vcs vf138 ?_
  have hrl : (xCU l m).length ≤ 60000 := Nat.le_trans (xLY l m) hlm
  have hgl := xIh (xAS m) [] []
  have hnl := xDE m
  have h1 := xMm (q := p) (xs := m) hp (by omega)
  have h2 := xVx (q := .sh false ((xAS m).map encS)) (l := xAS m) Sl.sh (by omega)
  have hraw : xCU l m = (xDM [] (xAS m) []).flatMap (fun g => l.map (xAd g)) := rfl
  have hfin : xBG l m = xAS (xCU l m) := rfl
  rw [hfin]
  generalize xCU l m = raw at hrl hraw ⊢
  generalize xDM [] (xAS m) [] = gs at *
  generalize xAS m = nm at *
  simp only [List.length_nil] at hgl
  repeat first|refine sgo ?_|refine cv h1 ?_|refine cv h2 ?_|refine sop ?_
  refine xAE (fun (g : Nat × List SpanL) => [(0, q), (5, ownV ⟨1, 65576⟩ (g.2.map encS)), (12, ownV ⟨1, 16400⟩ (gs.map encS)), (13, .int .i64 (gs.map encS).length), (14, .int .i64 g.1)])
    (fun g => [(⟨1, 16400⟩, blkV 2 (gs.map encS)), (⟨1, 65576⟩, blkV 2 (g.2.map encS))]) (fun g => gs.length - g.1)
    (fun g => g.1 ≤ gs.length ∧ g.2 ++ (gs.drop g.1).flatMap (fun g => l.map (xAd g)) = raw) (0, []) ((Imp.nil (t := 5) (b := ⟨1, 65576⟩) (esz := 2) rfl rfl (by decide)).trans goes) ⟨Nat.zero_le _, hraw.symm⟩ ?_
  rintro ⟨i, out⟩ ⟨hi, hv⟩
  dsimp only at hi hv ⊢
  repeat first|refine sgo ?_|refine sop ?_
  refine cnd (fun h => xAB ?_) (fun h => xAD ?_)
  · have hlt : i < gs.length := by have h' := of_decide_eq_true h; simp only [List.length_map] at h'; omega
    obtain ⟨g, hg⟩ : ∃ x, gs[i]? = some x := ⟨_, List.getElem?_eq_getElem hlt⟩
    have hge := gm (enc := encS) (n := (i : Int)) hg (by omega)
    have hge2 : (blkV 2 (gs.map encS)).els[0 + (i : Int).toNat]? = some (encS g) := by rw [Nat.zero_add]; exact hge
    rw [xAo hg, List.flatMap_cons, ← List.append_assoc] at hv
    repeat first|refine sgo ?_|refine sop ?_
    refine xAE (fun (h : Nat × List SpanL) => [(0, q), (5, ownV ⟨1, 65576⟩ (h.2.map encS)), (7, .ptr ⟨1, 32784⟩ 1 0 0), (12, ownV ⟨1, 16400⟩ (gs.map encS)), (13, .int .i64 (gs.map encS).length), (14, .int .i64 i), (18, q), (19, .int .i64 (l.map encS).length), (20, .int .i64 h.1)])
      (fun h => [(⟨1, 16400⟩, blkV 2 (gs.map encS)), (⟨1, 65576⟩, blkV 2 (h.2.map encS)), (⟨1, 32784⟩, ⟨true, false, 2, [encS g]⟩)]) (fun h => l.length - h.1)
      (fun h => h.1 ≤ l.length ∧ h.2 ++ (l.drop h.1).map (xAd g) = out ++ l.map (xAd g)) (0, out) goes ⟨Nat.zero_le _, rfl⟩ ?_
    rintro ⟨j, o⟩ ⟨hj, hw⟩
    dsimp only at hj hw ⊢
    have hol : o.length ≤ 60000 := by
      have h3 := congrArg List.length hw
      have h4 := congrArg List.length hv
      simp only [List.length_append] at h3 h4
      omega
    repeat first|refine sgo ?_|refine sop ?_
    refine cnd (fun h => xAB ?_) (fun h => xAD ?_)
    · have hlt2 : j < l.length := by have h' := of_decide_eq_true h; simp only [List.length_map] at h'; omega
      obtain ⟨s, hs⟩ : ∃ x, l[j]? = some x := ⟨_, List.getElem?_eq_getElem hlt2⟩
      have hse := gm (enc := encS) (n := (j : Int)) hs (by omega)
      rw [xAo hs, List.map_cons] at hw
      repeat first|refine sgo ?_|refine cv0 (xVd g s) ?_|refine o_v (vap encS (xAd g s)) ?_|refine sop ?_
      refine agn (j + 1, o ++ [xAd g s]) ⟨by simp only; omega, ?_⟩ goes
      rw [← hw]; simp
    · have hge3 : j = l.length := by have h' := of_decide_eq_false h; simp only [List.length_map] at h'; omega
      subst hge3
      rw [List.drop_length, List.map_nil, List.append_nil] at hw
      rw [← hw] at hv
      repeat first|refine sgo ?_|refine sop ?_
      exact agn (i + 1, o) ⟨by simp only; omega, hv⟩ goes
  · have hge : i = gs.length := by have h' := of_decide_eq_false h; simp only [List.length_map] at h'; omega
    subst hge
    rw [List.drop_length, List.flatMap_nil, List.append_nil] at hv
    subst hv
    repeat first|refine sgo ?_|refine cv (xMm (q := .sh false (out.map encS)) (xs := out) Sl.sh hrl) ?_|refine sop ?_
    exact xAC ⟨.inr rfl, oOwn rfl⟩
end Go.Proofs
