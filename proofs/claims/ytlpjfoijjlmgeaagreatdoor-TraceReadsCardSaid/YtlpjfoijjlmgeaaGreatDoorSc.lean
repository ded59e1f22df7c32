/- Sc -/
import Derived.Test.YtlpjfoijjlmgeaaGreatDoorSb
import Derived.Test.YtlpjfoijjlmgeaaGreatDoorPu
import Derived.Test.YtlpjfoijjlmgeaaGreatDoorSa
import Derived.Test.YtlpjfoijjlmgeaaGreatDoorVD
open Go.V Go.Pu
set_option linter.unusedVariables false
set_option linter.unusedSimpArgs false
set_option maxRecDepth 20000
namespace Go.Proofs
def vc43 := vcm Tryz.prog 43
theorem vf43 : VF Tryz.prog 43 = some (8, vc43, [.tmp 2]) := by kernel_rfl
def vc56 := vcm Tryz.prog 56
theorem vf56 : VF Tryz.prog 56 = some (19, vc56, [.tmp 4]) := by kernel_rfl
def vc42 := vcm Tryz.prog 42
theorem vf42 : VF Tryz.prog 42 = some (42, vc42, [.tmp 4]) := by kernel_rfl
theorem xQp {q : PV} {xs : List SpanL} (hq : Sl q (xs.map encS)) (hl : xs.length ≤ 60000) : VC Tryz.prog 43 [q] [] (ownV ⟨0, 0⟩ (xs.map encS)) [blkV 2 (xs.map encS)] := by
  refine vcs vf43 ?_
  have nilc : ∀ (h : xs.map encS = []), xs = [] := fun h => List.map_eq_nil_iff.1 h
  rcases hq with ⟨rfl, h⟩ | ⟨rfl, h⟩ | ⟨ex, rfl⟩
  · have := nilc h
    subst this
    repeat first|refine sgo ?_|refine sop ?_
    refine cndt ?_
    repeat first|refine sgo ?_|refine sop ?_
    refine xFN (Imp.nil (t := 2) (b := ⟨1, 900000⟩) (esz := 2) rfl rfl (by decide)) ?_
    exact xAC ⟨.inr rfl, oOwn rfl⟩
  · have := nilc h
    subst this
    repeat first|refine sgo ?_|refine sop ?_
    refine cndf (xAB ?_)
    repeat first|refine sgo ?_|refine o_v (vaps encS [] []) ?_|refine sop ?_
    exact xAC ⟨.inr rfl, oOwn rfl⟩
  · cases xs with
    | nil =>
      refine xMR (t := 0) (ex := ex) (tm := xGL 0 [.sh ex []]) rfl ?_ ?_
      · repeat first|refine sgo ?_|refine sop ?_
        refine cndt ?_
        repeat first|refine sgo ?_|refine sop ?_
        refine xFN (Imp.nil (t := 2) (b := ⟨1, 900000⟩) (esz := 2) rfl rfl (by decide)) ?_
        exact xAC ⟨.inr rfl, oOwn rfl⟩
      · repeat first|refine sgo ?_|refine sop ?_
        refine cndf (xAB ?_)
        repeat first|refine sgo ?_|refine o_v (vaps encS [] []) ?_|refine sop ?_
        exact xAC ⟨.inr rfl, oOwn rfl⟩
    | cons x xs =>
      have hl2 : xs.length + 1 ≤ 60000 := hl
      repeat first|refine sgo ?_|refine sop ?_
      refine cndf (xAB ?_)
      repeat first|refine sgo ?_|refine o_v (vaps encS [] (x :: xs)) ?_|refine sop ?_
      exact xAC ⟨.inr rfl, oOwn rfl⟩
def idxE (l : List SpanL) : Int := if l.any xAJ = true then (l.findIdx xAJ : Nat) else -1
theorem idx_vc {q : PV} {xs : List SpanL} (hq : Sl q (xs.map encS)) (hl : xs.length ≤ 60000) : VC Tryz.prog 56 [q, .fn 31 []] [] (.int .i64 (idxE xs)) [] := by
  refine vcs vf56 ?_
  repeat first|refine sgo ?_|refine sop ?_
  refine xAK (fun (g : Nat) => [(0, q), (1, .fn 31 []), (7, .int .i64 (xs.map encS).length), (8, .int .i64 g)]) (fun g => []) (fun g => xs.length - g)
    (fun g => g ≤ xs.length ∧ (xs.take g).any xAJ = false) 0 goes ⟨Nat.zero_le _, rfl⟩ ?_
  rintro i ⟨hi, hv⟩
  (try dsimp only)
  repeat first|refine sgo ?_|refine sop ?_
  refine cnd (fun h => xAB ?_) (fun h => xAE ?_)
  · have hlt : i < xs.length := by have h' := of_decide_eq_true h; simp only [List.length_map] at h'; omega
    obtain ⟨x, hx⟩ : ∃ x, xs[i]? = some x := ⟨_, List.getElem?_eq_getElem hlt⟩
    have hxe := gm (enc := encS) (n := (i : Int)) hx (by omega)
    repeat first|refine sgo ?_|refine cv0 (xDn x) ?_|refine sop ?_
    refine cnd (fun h2 => ?_) (fun h2 => xAB ?_)
    · repeat first|refine sgo ?_|refine sop ?_
      refine xAC ⟨.inr rfl, oI ?_⟩
      have hxs : xs = xs.take i ++ x :: xs.drop (i + 1) := by rw [← xBQ hx, List.take_append_drop]
      have ha : xs.any xAJ = true := by rw [hxs]; simp [h2]
      unfold idxE
      rw [if_pos ha]
      have : xs.findIdx xAJ = i := by
        rw [hxs, List.findIdx_append, if_neg]
        · simp [List.findIdx_cons, h2]; omega
        · have h3 : ∀ y ∈ xs.take i, xAJ y = false := by simpa using hv
          intro h4
          have := List.findIdx_getElem (w := h4)
          rw [h3 _ (List.getElem_mem _)] at this
          cases this
      rw [this]
    · repeat first|refine sgo ?_|refine sop ?_
      refine agn (i + 1) ⟨by omega, ?_⟩ goes
      rw [List.take_add_one, hx]
      simp [hv, h2]
  · have hge : i = xs.length := by have h' := of_decide_eq_false h; simp only [List.length_map] at h'; omega
    subst hge
    rw [List.take_length] at hv
    repeat first|refine sgo ?_|refine sop ?_
    refine xAC ⟨.inr rfl, oI ?_⟩
    unfold idxE
    rw [if_neg (by simp [hv])]
theorem xQe {xs : List SpanL} (h : xs.any xAJ = true) : xs.findIdx xAJ < xs.length ∧ (xs.take (xs.findIdx xAJ + 1)).filter ne = xs.take (xs.findIdx xAJ) := by
  have hlt : xs.findIdx xAJ < xs.length := List.findIdx_lt_length_of_exists (by simpa using h)
  refine ⟨hlt, ?_⟩
  have hx := List.findIdx_getElem (w := hlt)
  rw [List.take_add_one, List.getElem?_eq_getElem hlt]
  simp only [Option.toList, List.filter_append]
  have h1 : (xs.take (xs.findIdx xAJ)).filter ne = xs.take (xs.findIdx xAJ) := by
    refine List.filter_eq_self.2 fun y hy => ?_
    obtain ⟨k, hk, rfl⟩ := List.mem_iff_getElem.1 hy
    rw [List.getElem_take]
    have hk2 : k < xs.findIdx xAJ := by have h5 := hk; rw [List.length_take] at h5; omega
    have := List.not_of_lt_findIdx hk2
    simpa [ne] using this
  rw [h1]
  simp [ne, hx]
set_option maxHeartbeats 1000000 in
theorem del_vc {N : Nat} (xs : List SpanL) (hN : xs.length = N) (hm : N ≤ 60000) :
    VC Tryz.prog 42 [.own ⟨0, 0⟩ N 0 N, .fn 31 []] [blkV 2 (xs.map encS)] (.own ⟨0, 0⟩ N 0 (xs.filter ne).length) [blkV 2 ((delL xs).map encS)] := by
  refine vcs vf42 ?_
  have hidx := idx_vc (q := .sh false (xs.map encS)) (xs := xs) Sl.sh (by omega)
  by_cases hany : xs.any xAJ = true
  case neg =>
    have hi : idxE xs = -1 := by unfold idxE; rw [if_neg hany]
    have hf : xs.filter ne = xs := List.filter_eq_self.2 fun y hy => by
      have : ∀ y ∈ xs, xAJ y = false := by simpa using hany
      simp [ne, this y hy]
    rw [hi] at hidx
    repeat first|refine sgo ?_|refine cv0 hidx ?_|refine sop ?_
    refine cndt ?_
    repeat first|refine sgo ?_|refine sop ?_
    have hd : delL xs = xs := by unfold delL; rw [hf]; simp
    rw [hf, hd, hN]
    exact xAC ⟨.inr rfl, oLO rfl⟩
  obtain ⟨hlt, hfl⟩ := xQe hany
  have hi : idxE xs = (xs.findIdx xAJ : Nat) := by unfold idxE; rw [if_pos hany]
  rw [hi] at hidx
  generalize xs.findIdx xAJ = i0 at *
  repeat first|refine sgo ?_|refine cv0 hidx ?_|refine sop ?_
  refine cndf (xAB ?_) rfl (by simp)
  repeat first|refine sgo ?_|refine sop ?_
  refine xAK (fun (g : Nat × Nat × List SpanL) => [(0, .own ⟨0, 0⟩ N 0 N), (1, .fn 31 []), (5, .int .i64 g.1), (6, .int .i64 (g.2.1 : Nat))])
    (fun g => [(⟨0, 0⟩, blkV 2 (g.2.2.map encS))]) (fun g => N - g.2.1)
    (fun g => g.1 < g.2.1 ∧ g.2.1 ≤ N ∧ g.2.2.length = N ∧ g.2.2.take g.1 = (xs.take g.2.1).filter ne ∧ g.2.2.drop g.2.1 = xs.drop g.2.1) (i0, i0 + 1, xs) goes ⟨by simp, by simp only; omega, hN, hfl.symm, rfl⟩ ?_
  rintro ⟨i, j, zs⟩ ⟨hij, hjN, hzl, h1, h2⟩
  dsimp only at hij hjN hzl h1 h2 ⊢
  have hil : i = ((xs.take j).filter ne).length := by rw [← h1, List.length_take]; omega
  repeat first|refine sgo ?_|refine sop ?_
  refine cnd (fun h => xAB ?_) (fun h => xAE ?_)
  · have hlt : j < N := by have h' := of_decide_eq_true h; omega
    obtain ⟨x, hx⟩ : ∃ x, xs[j]? = some x := ⟨_, List.getElem?_eq_getElem (by omega)⟩
    have hzx : zs[j]? = some x := by have h3 := congrArg (fun l => l[0]?) h2; simpa [hx] using h3
    have hze := xAa (k := 0 + (j : Int).toNat) hzx (by omega)
    have hk1 : 0 + (i : Int).toNat = i := by omega
    have htk : (xs.take (j + 1)).filter ne = (xs.take j).filter ne ++ (if ne x = true then [x] else []) := by
      rw [List.take_add_one, hx, Option.toList, List.filter_append]
      by_cases hn : ne x = true <;> simp [hn]
    have hdr : zs.drop (j + 1) = xs.drop (j + 1) := by rw [← List.drop_drop, ← List.drop_drop, h2]
    repeat first|refine sgo ?_|refine xAL ?_|refine cv0 (xDn x) ?_|refine sop ?_
    refine cnd (fun hc => ?_) (fun hc => xAB ?_)
    · rw [if_pos (show ne x = true from hc)] at htk
      repeat first|refine sgo ?_|refine xAL ?_|refine o_v (vst encS x) ?_|refine sop ?_
      refine agn (i + 1, j + 1, zs.set (0 + (i : Int).toNat) x) ⟨by simp only; omega, by simp only; omega, by simpa only [List.length_set] using hzl, ?_, ?_⟩ goes
      · simp only [hk1]
        rw [htk, ← h1, List.take_add_one, List.take_set, List.set_eq_of_length_le (by simp; omega)]
        simp [show i < zs.length by omega]
      · simp only [hk1]
        rw [List.drop_set, if_pos (by omega)]
        exact hdr
    · rw [if_neg (show ¬ ne x = true by simpa [ne] using hc)] at htk
      repeat first|refine sgo ?_|refine sop ?_
      exact agn (i, j + 1, zs) ⟨by simp only; omega, by simp only; omega, hzl, by simp only; rw [htk, h1]; simp, hdr⟩ goes
  · have hj : j = N := by have h' := of_decide_eq_false h; omega
    subst hj
    have htN : xs.take j = xs := List.take_of_length_le (by omega)
    rw [htN] at h1 hil
    repeat first|refine sgo ?_|refine xIo ?_|refine o_v (vclr encS (⟨[], []⟩ : SpanL)) ?_|refine sop ?_
    refine xIo ?_ (hc0 := by simp; omega)
    repeat first|refine sgo ?_|refine sop ?_
    refine xAC ⟨.inr rfl, oLO (els' := ((zs.take (0 + (i : Int).toNat) ++ List.replicate ((j : Int).toNat - (i : Int).toNat) (⟨[], []⟩ : SpanL) ++ zs.drop (0 + (i : Int).toNat + ((j : Int).toNat - (i : Int).toNat))).map encS)) ?_ (h := ?_)⟩
    · have e1 : 0 + (i : Int).toNat = i := by omega
      have e2 : (j : Int).toNat - (i : Int).toNat = j - i := by omega
      rw [e1, e2, h1, List.drop_of_length_le (by omega)]
      unfold delL
      rw [hN, ← hil, List.append_nil]
    · rw [← hil]
      exact congrArg (fun z => some (PV.own ⟨0, 0⟩ j 0 z)) (by omega : (i : Int).toNat - Int.toNat 0 = i)
end Go.Proofs
open Go.V Go.Pu
set_option linter.unusedVariables false
set_option linter.unusedSimpArgs false
set_option maxRecDepth 20000
namespace Go.Proofs
def vc24 := vcm Tryz.prog 24
theorem vf24 : VF Tryz.prog 24 = some (66, vc24, [.tmp 2]) := by kernel_rfl
set_option maxHeartbeats 2000000 in
theorem xIp {q : PV} {xs : List SpanL} (hq : Sl q (xs.map encS)) (hl : xs.length ≤ 60000) : VC Tryz.prog 24 [q] [] (ownV ⟨0, 0⟩ ((xAV xs).map encS)) [blkV 2 ((xAV xs).map encS)] := by
  refine vcs vf24 ?_
  obtain ⟨hs, hnw⟩ := xJV xs
  have hkl : (xs.filter ne).length ≤ xs.length := List.length_filter_le ne xs
  have h1 := xQp hq hl
  have h2 := del_vc (N := (xs.map encS).length) xs (by simp) (by simpa using hl)
  have h3 := xR0 (N := (xs.map encS).length) (n := (xs.filter ne).length) (delL xs) (by simp [xMP]) (by simpa using hkl) (by simpa using hl)
  have h3' : VC Tryz.prog 44 [.own ⟨0, 0⟩ (xs.map encS).length 0 (xs.filter ne).length, .fn 45 []] [blkV 2 ((delL xs).map encS)] (.tup []) (srt (xBi xs)) := h3
  generalize (xs.filter ne).length = k at *
  generalize delL xs = dl at *
  generalize xBi xs = ss at *
  obtain ⟨sl, rfl⟩ : ∃ sl : List SpanL, ss = sl.toArray := ⟨ss.toList, by simp⟩
  have hlen2 : xs.length = sl.length := by simpa using hs.symm
  rw [← hnw, show sl.toArray.toList = sl from rfl]
  have hkl2 : k ≤ sl.length := by omega
  repeat first|refine sgo ?_|refine cv h1 ?_|refine cl (lent := [⟨1, 8200⟩]) h2 ?_|refine cl (lent := [⟨1, 8200⟩]) h3' ?_|refine sop ?_
  change CT _ _ (.loop _) _ _
  have hkb : k ≤ 60000 := by omega
  have hxl : (xs.map encS).length = xs.length := List.length_map ..
  clear h1 h2 h3 h3' hs hnw
  refine xAK (fun (g : Nat × List SpanL) => [(4, ownV ⟨1, 73752⟩ (g.2.map encS)), (13, .own ⟨1, 8200⟩ (xs.map encS).length 0 k), (14, .int .i64 k), (15, .int .i64 g.1)])
    (fun g => [(⟨1, 8200⟩, blkV 2 (sl.map encS)), (⟨1, 73752⟩, blkV 2 (g.2.map encS))]) (fun g => k - g.1)
    (fun g => g.1 ≤ k ∧ g.2.length ≤ g.1 ∧ ((sl.take k).drop g.1).foldl xC3 g.2 = xM2 (sl.take k)) (0, []) ((Imp.nil (t := 4) (b := ⟨1, 73752⟩) (esz := 2) rfl rfl (by decide)).trans goes) ⟨Nat.zero_le _, Nat.le_refl _, rfl⟩ ?_
  rintro ⟨i, o⟩ ⟨hi, ho, hw⟩
  dsimp only at hi ho hw ⊢
  repeat first|refine sgo ?_|refine sop ?_
  refine cnd (fun h => xAB ?_) (fun h => xAE ?_)
  · have hlt : i < k := by have h' := of_decide_eq_true h; omega
    obtain ⟨y, hy⟩ : ∃ x, sl[i]? = some x := ⟨_, List.getElem?_eq_getElem (by omega)⟩
    have hyt : (sl.take k)[i]? = some y := by rw [List.getElem?_take, if_pos hlt]; exact hy
    have hye := gm (enc := encS) (n := (i : Int)) hy (by omega)
    have hye2 : (blkV 2 (sl.map encS)).els[0 + (i : Int).toNat]? = some (encS y) := by rw [Nat.zero_add]; exact hye
    rw [xBQ hyt, List.foldl_cons] at hw
    have hlen := xJS o y
    rcases Nat.eq_zero_or_pos o.length with h0 | hpos
    · have ho0 : o = [] := List.length_eq_zero_iff.1 h0
      subst ho0
      repeat first|refine sgo ?_|refine xAL ?_|refine sop ?_
      refine cndt ?_
      repeat first|refine sgo ?_|refine xAL ?_|refine o_v (vap encS y) ?_|refine sop ?_
      refine xAE ?_
      repeat first|refine sgo ?_|refine sop ?_
      exact agn (i + 1, [] ++ [y]) ⟨by simp only; omega, by simp, hw⟩ goes
    · obtain ⟨x, hx⟩ : ∃ x, o[o.length - 1]? = some x := ⟨_, List.getElem?_eq_getElem (by omega)⟩
      have hidx : 0 + (((o.map encS).length : Int) - 1).toNat = o.length - 1 := by simp only [List.length_map]; omega
      have hx' : o[0 + (((o.map encS).length : Int) - 1).toNat]? = some x := by rw [hidx]; exact hx
      have hxe : (blkV 2 (o.map encS)).els[0 + (((o.map encS).length : Int) - 1).toNat]? = some (encS x) := by
        show (o.map encS)[_]? = _
        rw [List.getElem?_map, hx']; rfl
      have hng : decide (((o.map encS).length : Int) = 0) = false := decide_eq_false (by simp only [List.length_map]; omega)
      have hst : xC3 o y = if x.hi ≠ [] ∧ Op.bytesLess x.hi y.lo = true then o ++ [y] else if xEa x.hi y.hi = true then o.set (o.length - 1) ⟨x.lo, y.hi⟩ else o := by unfold xC3; rw [hx]
      have hmp : 0 < (o.map encS).length := by simp only [List.length_map]; omega
      have hml : (o.map encS).length = o.length := List.length_map ..
      repeat first|refine sgo ?_|refine xAL ?_|refine sop ?_
      refine xCT (fun hg => ?_) (fun hg => ?_)
      · have hxh : x.hi ≠ [] := by simpa using hg
        repeat first|refine sgo ?_|refine xAL ?_|refine sop ?_
        refine cnd (fun h2 => ?_) (fun h2 => xAB ?_)
        · rw [if_pos ⟨hxh, h2⟩] at hst
          rw [hst] at hw hlen
          repeat first|refine sgo ?_|refine xAL ?_|refine o_v (vap encS y) ?_|refine sop ?_
          refine xAE ?_
          repeat first|refine sgo ?_|refine sop ?_
          exact agn (i + 1, o ++ [y]) ⟨by simp only; omega, by simp only; omega, hw⟩ goes
        · rw [if_neg (by simp [h2])] at hst
          repeat first|refine sgo ?_|refine xAL ?_|refine cv0 (xEX x.hi y.hi) ?_|refine sop ?_
          refine cnd (fun h3 => ?_) (fun h3 => xAB ?_)
          · have h3' : xEa x.hi y.hi = true := less_iff.2 (cmpEnd_lt.1 (of_decide_eq_true h3))
            rw [if_pos h3', ← hidx] at hst
            rw [hst] at hw hlen
            repeat first|refine sgo ?_|refine xAL ?_|refine o_v (vstf encS (⟨x.lo, y.hi⟩ : SpanL) hx') ?_|refine sop ?_
            exact agn (i + 1, _) ⟨by simp only; omega, by simp only; omega, hw⟩ (goes (h1 := by
              refine ⟨?_, rfl, rfl, rfl, trivial⟩
              exact congrArg (fun n => some (PV.own ⟨1, 73752⟩ n 0 n)) (by simp : (o.map encS).length = _)))
          · have h3' : ¬ xEa x.hi y.hi = true := fun h => (of_decide_eq_false h3) (cmpEnd_lt.2 (less_iff.1 h))
            rw [if_neg h3'] at hst
            rw [hst] at hw hlen
            repeat first|refine sgo ?_|refine sop ?_
            exact agn (i + 1, o) ⟨by simp only; omega, by simp only; omega, hw⟩ goes
      · have hxh : x.hi = [] := by simpa using hg
        rw [if_neg (by simp [hxh])] at hst
        have hl0 : ¬ xEa x.hi y.hi = true := by simp [xEa, hxh]
        rw [if_neg hl0] at hst
        rw [hst] at hw hlen
        repeat first|refine sgo ?_|refine xAL ?_|refine sop ?_
        refine cndf (xAB ?_)
        repeat first|refine sgo ?_|refine xAL ?_|refine cv0 (xEX x.hi y.hi) ?_|refine sop ?_
        refine cndf (xAB ?_) rfl (decide_eq_false (fun h => hl0 (less_iff.2 (cmpEnd_lt.1 h))))
        repeat first|refine sgo ?_|refine sop ?_
        exact agn (i + 1, o) ⟨by simp only; omega, by simp only; omega, hw⟩ goes
  · have hge : i = k := by have h' := of_decide_eq_false h; omega
    subst hge
    rw [List.drop_eq_nil_of_le (by simp; omega), List.foldl_nil] at hw
    repeat first|refine sgo ?_|refine sop ?_
    exact xAC ⟨.inr rfl, oOwn (congrArg (List.map encS) hw)⟩
end Go.Proofs
open Go.V Go.Pu
set_option linter.unusedVariables false
set_option linter.unusedSimpArgs false
namespace Go.Proofs
def Asc (l : List Str) : Prop := (∀ x ∈ l, x ≠ []) ∧ l.Pairwise (fun a b => Op.bytesLess a b = true)
theorem xCf (x : Str) : ∀ (l nx : List Str), xAj x l nx true = (nx ++ l, true)
  | [], nx => by simp [xAj]
  | y :: l, nx => by rw [xAj, if_neg (by simp), xCf x l]; simp
def putP (x : Str) : List Str → List Str
  | [] => [x]
  | y :: l => if Op.bytesLess x y = true then x :: y :: l else if x = y then y :: l else y :: putP x l
theorem xEd (x : Str) : ∀ (l nx : List Str), (if (xAj x l nx false).2 = false then (xAj x l nx false).1 ++ [x] else (xAj x l nx false).1) = nx ++ putP x l
  | [], nx => by simp [xAj, putP]
  | y :: l, nx => by
    have e : xAj x (y :: l) nx false = if false = false ∧ (Op.bytesLess x y || x == y) = true then xAj x l ((if Op.bytesLess x y = true then nx ++ [x] else nx) ++ [y]) true else xAj x l (nx ++ [y]) false := by rw [xAj]
    by_cases h : Op.bytesLess x y = true
    · have e2 : xAj x (y :: l) nx false = (nx ++ x :: y :: l, true) := by
        rw [e, if_pos ⟨rfl, by rw [h]; rfl⟩, if_pos h, xCf]; simp
      rw [e2, putP, if_pos h]
      simp
    · by_cases h2 : x = y
      · have e2 : xAj x (y :: l) nx false = (nx ++ y :: l, true) := by
          rw [e, if_pos ⟨rfl, by simp [h2]⟩, if_neg h, xCf]; simp
        rw [e2, putP, if_neg h, if_pos h2]
        simp
      · have e2 : xAj x (y :: l) nx false = xAj x l (nx ++ [y]) false := by
          rw [e, if_neg (by simp [h, h2])]
        rw [e2, xEd x l, putP, if_neg h, if_neg h2]
        simp
theorem xM0 (out : List Str) (x : Str) : xD3 out x = if x = [] then out else putP x out := by
  unfold xD3
  by_cases h : x = []
  · have : (x == []) = true := by simpa using h
    rw [this, xCf, if_pos h]
    simp
  · have : (x == []) = false := by simpa using h
    rw [this, if_neg h]
    exact xEd x out []
theorem xLf {x z : Str} : ∀ {l : List Str}, z ∈ putP x l → z = x ∨ z ∈ l
  | [], h => .inl (by simpa [putP] using h)
  | y :: l, h => by
    rw [putP] at h
    split at h
    · simpa using h
    · split at h
      · exact .inr h
      · rcases List.mem_cons.1 h with h | h
        · exact .inr (by simp [h])
        · rcases xLf h with h | h
          · exact .inl h
          · exact .inr (by simp [h])
theorem xLg {x : Str} (hx : x ≠ []) : ∀ {l : List Str}, Asc l → Asc (putP x l)
  | [], _ => ⟨by simp [putP, hx], by simp [putP]⟩
  | y :: l, ⟨h1, h2⟩ => by
    rw [putP]
    obtain ⟨h3, h4⟩ := List.pairwise_cons.1 h2
    split
    · next h =>
      refine ⟨?_, List.pairwise_cons.2 ⟨?_, h2⟩⟩
      · intro z hz
        rcases List.mem_cons.1 hz with rfl | hz
        · exact hx
        · exact h1 z hz
      · intro z hz
        rcases List.mem_cons.1 hz with rfl | hz
        · exact h
        · exact xAo h (h3 z hz)
    · split
      · exact ⟨h1, h2⟩
      · next h h5 =>
        have hyx : Op.bytesLess y x = true := by
          rcases xBt x y with h6 | h6 | h6
          · exact absurd h6 h
          · exact absurd h6 h5
          · exact h6
        obtain ⟨h6, h7⟩ := xLg hx (l := l) ⟨fun z hz => h1 z (by simp [hz]), h4⟩
        refine ⟨?_, List.pairwise_cons.2 ⟨?_, h7⟩⟩
        · intro z hz
          rcases List.mem_cons.1 hz with rfl | hz
          · exact h1 _ (by simp)
          · exact h6 z hz
        · intro z hz
          rcases xLf hz with rfl | hz
          · exact hyx
          · exact h3 z hz
theorem xFz : ∀ (l o : List Str), Asc o → Asc (l.foldl xD3 o)
  | [], o, h => h
  | x :: l, o, h => by
    rw [List.foldl_cons]
    refine xFz l _ ?_
    rw [xM0]
    split
    · exact h
    · next hx => exact xLg hx h
theorem pivL_asc (l : List Str) : Asc (pivL l) := xFz l [] ⟨by simp, by simp⟩
theorem xFy : ∀ (l o : List Str), (l.foldl xD3 o).length ≤ o.length + l.length
  | [], o => by simp
  | x :: l, o => by
    rw [List.foldl_cons, List.length_cons]
    have h1 := xFy l (xD3 o x)
    have h2 := xKt o x
    omega
theorem pivL_len (l : List Str) : (pivL l).length ≤ l.length := by
  have := xFy l []
  simpa [pivL] using this
def atL (key : Str) : List Str → Nat
  | [] => 0
  | p :: l => if ble p key = true then atL key l + 1 else 0
theorem atL_le (key : Str) : ∀ l : List Str, atL key l ≤ l.length
  | [] => Nat.le_refl _
  | p :: l => by
    have := atL_le key l
    rw [atL, List.length_cons]
    split <;> omega
theorem xTA (key : Str) : ∀ (l : List Str) (i : Nat) (p : Str), l[i]? = some p → i ≤ atL key l → (ble p key = true ↔ i < atL key l)
  | [], i, p, h, _ => by simp at h
  | q :: l, i, p, h, hi => by
    rw [atL] at hi ⊢
    cases i with
    | zero =>
      obtain rfl : q = p := by simpa using h
      split
      · next h2 => simp [h2]
      · next h2 => simp [h2]
    | succ i =>
      split at hi
      · next h2 =>
        rw [if_pos h2]
        have := xTA key l i p (by simpa using h) (by omega)
        rw [this]
        omega
      · omega
theorem xN9 (s : SpanL) (key : Str) : ∀ (l : List Str) (lo : Str) (k : Nat) (t : SpanL), Asc l → (∀ p ∈ l, ble lo p = true) → (xEe s lo l)[k]? = some t →
    hasL t key = (ble lo key && (decide (k = atL key l) && hasL s key))
  | [], lo, k, t, _, _, h => by
    rw [xEe] at h
    have hk : k = 0 := by
      have := (List.getElem?_eq_some_iff.1 h).1
      simp at this
      omega
    subst hk
    obtain rfl : xAt s ⟨lo, []⟩ = t := by simpa using h
    rw [xCH, xGU, atL]
    cases hasL s key <;> simp
  | p :: l, lo, k, t, ha, hlo, h => by
    rw [xEe] at h
    obtain ⟨h3, h4⟩ := List.pairwise_cons.1 ha.2
    cases k with
    | zero =>
      obtain rfl : xAt s ⟨lo, p⟩ = t := by simpa using h
      rw [xCH, xHP (ha.1 p (by simp)), atL]
      have e : ble p key = !Op.bytesLess key p := rfl
      rw [e]
      cases Op.bytesLess key p <;> cases hasL s key <;> simp
    | succ k =>
      rw [xN9 s key l p k t ⟨fun z hz => ha.1 z (by simp [hz]), h4⟩ (fun z hz => ble_iff.2 (.inl (h3 z hz))) (by simpa using h), atL]
      cases h5 : ble p key with
      | true =>
        have h6 : ble lo key = true := xBG (hlo p (by simp)) h5
        simp [h6]
      | false => simp
theorem xLj (s : SpanL) (key : Str) : ∀ (l : List Str) (lo : Str), Asc l → (∀ p ∈ l, ble lo p = true) → inL (xEe s lo l) key = (ble lo key && hasL s key)
  | [], lo, _, _ => by
    rw [xEe, xAT, xCH, xGU]
    cases hasL s key <;> simp [inL]
  | p :: l, lo, ha, hlo => by
    obtain ⟨h3, h4⟩ := List.pairwise_cons.1 ha.2
    rw [xEe, xAT, xCH, xHP (ha.1 p (by simp)), xLj s key l p ⟨fun z hz => ha.1 z (by simp [hz]), h4⟩ (fun z hz => ble_iff.2 (.inl (h3 z hz)))]
    have e : ble p key = !Op.bytesLess key p := rfl
    cases h5 : Op.bytesLess key p with
    | true => rw [e, h5]; cases hasL s key <;> simp
    | false =>
      have h6 : ble lo key = true := xBG (hlo p (by simp)) (by rw [e, h5]; rfl)
      rw [e, h5, h6]
      cases hasL s key <;> simp
theorem parts_norm (s : SpanL) (l : List Str) (h : Asc l) : xAV (xEe s [] l) = xAV [s] := by
  refine Nrm.ext (xAZ _).1 (xAZ _).1 (fun k => ?_)
  rw [(xAZ _).2, (xAZ _).2, xLj s k l [] h (fun p _ => xEL p), xEL, xAT]
  cases hasL s k <;> simp [inL]
theorem short_all {l : List SpanL} {n : Nat} (h : xQ6 l n = true) : l.length ≤ n ∧ ∀ s ∈ l, s.lo.length ≤ 30 ∧ s.hi.length ≤ 30 := by
  unfold xQ6 at h
  obtain ⟨h1, h2⟩ := (Bool.and_eq_true _ _).mp h
  have h3 := of_decide_eq_true h2
  refine ⟨by omega, fun s hs => ?_⟩
  have := List.all_eq_true.1 h1 s hs
  simpa using this
theorem dec2s {qs : List PV} (hl : qs.length = [CTy.str, .str].length) (hq : ∀ (j : Nat) (c : CTy) (q : PV), [CTy.str, .str][j]? = some c → qs[j]? = some q → InTy c q) : ∃ a b : Str, qs = [.str a, .str b] ∧ a.length ≤ maxLen ∧ b.length ≤ maxLen := by
  obtain ⟨a, b, rfl⟩ := list2 hl
  obtain ⟨x, rfl, hx⟩ := xOm (hq 0 _ _ rfl rfl)
  obtain ⟨y, rfl, hy⟩ := xOm (hq 1 _ _ rfl rfl)
  exact ⟨x, y, rfl, hx, hy⟩
theorem decS {l : List (List PV)} (h : InTy (.sl [.str, .str]) (.sh false l)) : ∃ xs : List SpanL, l = xs.map encS ∧ xs.length ≤ maxLen := xJB h fun e hl hc => by
  obtain ⟨a, b, rfl, _⟩ := dec2s hl hc
  exact ⟨⟨a, b⟩, rfl⟩
theorem decT {l : List (List PV)} (h : InTy (.sl [.str]) (.sh false l)) : ∃ xs : List Str, l = xs.map encT ∧ xs.length ≤ maxLen := xJB h fun e hl hc => by
  obtain ⟨a, rfl⟩ := list1 hl
  obtain ⟨s, rfl, _⟩ := xOm (hc 0 _ _ rfl rfl)
  exact ⟨s, rfl⟩
end Go.Proofs
open Go.V Go.Pu
set_option linter.unusedVariables false
set_option linter.unusedSimpArgs false
set_option maxRecDepth 20000
namespace Go.Proofs
def vc49 := vcm Tryz.prog 49
theorem vf49 : VF Tryz.prog 49 = some (34, vc49, [.tmp 2]) := by kernel_rfl
def vc27 := vcm Tryz.prog 27
theorem vf27 : VF Tryz.prog 27 = some (34, vc27, [.tmp 4]) := by kernel_rfl
theorem xSx {q : PV} {l : List SpanL} (hq : Sl q (l.map encS)) (hl : l.length ≤ 1000000) : VC Tryz.prog 49 [q] [] (ownV ⟨0, 0⟩ ((xCw [] l []).map encS)) [blkV 2 ((xCw [] l []).map encS)] := by
  refine vcs vf49 ?_
  repeat first|refine sgo ?_|refine sop ?_
  refine xAK (fun (g : Nat × Str × List SpanL) => [(3, ownV ⟨1, 57392⟩ (g.2.2.map encS)), (4, .str g.2.1), (7, q), (8, .int .i64 (l.map encS).length), (9, .int .i64 g.1)])
    (fun g => [(⟨1, 57392⟩, blkV 2 (g.2.2.map encS))]) (fun g => l.length - g.1)
    (fun g => g.1 ≤ l.length ∧ g.2.2.length ≤ g.1 ∧ xCw g.2.1 (l.drop g.1) g.2.2 = xCw [] l []) (0, [], []) ((Imp.nil (t := 3) (b := ⟨1, 57392⟩) (esz := 2) rfl rfl (by decide)).trans goes) ⟨Nat.zero_le _, Nat.le_refl _, rfl⟩ ?_
  rintro ⟨i, lo, out⟩ ⟨hi, ho, hv⟩
  dsimp only at hi ho hv ⊢
  repeat first|refine sgo ?_|refine sop ?_
  refine cnd (fun h => xAB ?_) (fun h => xAE ?_)
  · have hlt : i < l.length := by have h' := of_decide_eq_true h; simp only [List.length_map] at h'; omega
    obtain ⟨y, hy⟩ : ∃ x, l[i]? = some x := ⟨_, List.getElem?_eq_getElem hlt⟩
    have hye := gm (enc := encS) (n := (i : Int)) hy (by omega)
    rw [xBQ hy, xCw] at hv
    repeat first|refine sgo ?_|refine sop ?_
    refine cnd (fun h1 => ?_) (fun h1 => xAB ?_)
    · have h1' : y.lo ≠ [] := by simpa using h1
      rw [if_neg h1'] at hv
      repeat first|refine sgo ?_|refine o_v (vap encS (⟨lo, y.lo⟩ : SpanL)) ?_|refine sop ?_
      refine cnd (fun h2 => ?_) (fun h2 => xAB ?_)
      · have h2' : y.hi = [] := by simpa using h2
        rw [if_pos h2'] at hv
        repeat first|refine sgo ?_|refine sop ?_
        exact xAC ⟨.inr rfl, oOwn (congrArg (List.map encS) hv)⟩
      · have h2' : y.hi ≠ [] := by simpa using h2
        rw [if_neg h2'] at hv
        repeat first|refine sgo ?_|refine sop ?_
        exact agn (i + 1, y.hi, out ++ [⟨lo, y.lo⟩]) ⟨by simp only; omega, by simp only [List.length_append, List.length_cons, List.length_nil]; omega, hv⟩ goes
    · have h1' : y.lo = [] := by simpa using h1
      rw [if_pos h1'] at hv
      repeat first|refine sgo ?_|refine sop ?_
      refine cnd (fun h2 => ?_) (fun h2 => xAB ?_)
      · have h2' : y.hi = [] := by simpa using h2
        rw [if_pos h2'] at hv
        repeat first|refine sgo ?_|refine sop ?_
        exact xAC ⟨.inr rfl, oOwn (congrArg (List.map encS) hv)⟩
      · have h2' : y.hi ≠ [] := by simpa using h2
        rw [if_neg h2'] at hv
        repeat first|refine sgo ?_|refine sop ?_
        exact agn (i + 1, y.hi, out) ⟨by simp only; omega, by simp only; omega, hv⟩ goes
  · have hge : i = l.length := by have h' := of_decide_eq_false h; simp only [List.length_map] at h'; omega
    subst hge
    rw [List.drop_length, xCw] at hv
    repeat first|refine sgo ?_|refine o_v (vap encS (⟨lo, []⟩ : SpanL)) ?_|refine sop ?_
    exact xAC ⟨.inr rfl, oOwn (congrArg (List.map encS) hv)⟩
set_option maxHeartbeats 1000000 in
theorem xQG {q p : PV} {l m : List SpanL} (hq : Sl q (l.map encS)) (hp : Sl p (m.map encS)) (hl : l.length ≤ 200) (hm : m.length ≤ 200) : VC Tryz.prog 27 [q, p] [] (ownV ⟨0, 0⟩ ((xAw l m).map encS)) [blkV 2 ((xAw l m).map encS)] := by
  refine vcs vf27 ?_
  have hrl : (xB5 l m).length ≤ 60000 := Nat.le_trans (xJt l m) (Nat.le_trans (Nat.mul_le_mul hl (Nat.succ_le_succ hm)) (by decide))
  have hgl := xHQ (xAV m) [] []
  have hnl := xD2 m
  have h1 := xIp (q := p) (xs := m) hp (by omega)
  have h2 := xSx (q := .sh false ((xAV m).map encS)) (l := xAV m) Sl.sh (by omega)
  have hraw : xB5 l m = (xCw [] (xAV m) []).flatMap (fun g => l.map (xAt g)) := rfl
  have hfin : xAw l m = xAV (xB5 l m) := rfl
  rw [hfin]
  generalize xB5 l m = raw at hrl hraw ⊢
  generalize xCw [] (xAV m) [] = gs at *
  generalize xAV m = nm at *
  simp only [List.length_nil] at hgl
  repeat first|refine sgo ?_|refine cv h1 ?_|refine cv h2 ?_|refine sop ?_
  refine xAK (fun (g : Nat × List SpanL) => [(0, q), (5, ownV ⟨1, 65576⟩ (g.2.map encS)), (12, ownV ⟨1, 16400⟩ (gs.map encS)), (13, .int .i64 (gs.map encS).length), (14, .int .i64 g.1)])
    (fun g => [(⟨1, 16400⟩, blkV 2 (gs.map encS)), (⟨1, 65576⟩, blkV 2 (g.2.map encS))]) (fun g => gs.length - g.1)
    (fun g => g.1 ≤ gs.length ∧ g.2 ++ (gs.drop g.1).flatMap (fun g => l.map (xAt g)) = raw) (0, []) ((Imp.nil (t := 5) (b := ⟨1, 65576⟩) (esz := 2) rfl rfl (by decide)).trans goes) ⟨Nat.zero_le _, hraw.symm⟩ ?_
  rintro ⟨i, out⟩ ⟨hi, hv⟩
  dsimp only at hi hv ⊢
  repeat first|refine sgo ?_|refine sop ?_
  refine cnd (fun h => xAB ?_) (fun h => xAE ?_)
  · have hlt : i < gs.length := by have h' := of_decide_eq_true h; simp only [List.length_map] at h'; omega
    obtain ⟨g, hg⟩ : ∃ x, gs[i]? = some x := ⟨_, List.getElem?_eq_getElem hlt⟩
    have hge := gm (enc := encS) (n := (i : Int)) hg (by omega)
    have hge2 : (blkV 2 (gs.map encS)).els[0 + (i : Int).toNat]? = some (encS g) := by rw [Nat.zero_add]; exact hge
    rw [xBQ hg, List.flatMap_cons, ← List.append_assoc] at hv
    repeat first|refine sgo ?_|refine sop ?_
    refine xAK (fun (h : Nat × List SpanL) => [(0, q), (5, ownV ⟨1, 65576⟩ (h.2.map encS)), (7, .ptr ⟨1, 32784⟩ 1 0 0), (12, ownV ⟨1, 16400⟩ (gs.map encS)), (13, .int .i64 (gs.map encS).length), (14, .int .i64 i), (18, q), (19, .int .i64 (l.map encS).length), (20, .int .i64 h.1)])
      (fun h => [(⟨1, 16400⟩, blkV 2 (gs.map encS)), (⟨1, 65576⟩, blkV 2 (h.2.map encS)), (⟨1, 32784⟩, ⟨true, false, 2, [encS g]⟩)]) (fun h => l.length - h.1)
      (fun h => h.1 ≤ l.length ∧ h.2 ++ (l.drop h.1).map (xAt g) = out ++ l.map (xAt g)) (0, out) goes ⟨Nat.zero_le _, rfl⟩ ?_
    rintro ⟨j, o⟩ ⟨hj, hw⟩
    dsimp only at hj hw ⊢
    have hol : o.length ≤ 60000 := by
      have h3 := congrArg List.length hw
      have h4 := congrArg List.length hv
      simp only [List.length_append] at h3 h4
      omega
    repeat first|refine sgo ?_|refine sop ?_
    refine cnd (fun h => xAB ?_) (fun h => xAE ?_)
    · have hlt2 : j < l.length := by have h' := of_decide_eq_true h; simp only [List.length_map] at h'; omega
      obtain ⟨s, hs⟩ : ∃ x, l[j]? = some x := ⟨_, List.getElem?_eq_getElem hlt2⟩
      have hse := gm (enc := encS) (n := (j : Int)) hs (by omega)
      rw [xBQ hs, List.map_cons] at hw
      repeat first|refine sgo ?_|refine cv0 (xK2 g s) ?_|refine o_v (vap encS (xAt g s)) ?_|refine sop ?_
      refine agn (j + 1, o ++ [xAt g s]) ⟨by simp only; omega, ?_⟩ goes
      rw [← hw]; simp
    · have hge3 : j = l.length := by have h' := of_decide_eq_false h; simp only [List.length_map] at h'; omega
      subst hge3
      rw [List.drop_length, List.map_nil, List.append_nil] at hw
      rw [← hw] at hv
      repeat first|refine sgo ?_|refine sop ?_
      exact agn (i + 1, o) ⟨by simp only; omega, hv⟩ goes
  · have hge : i = gs.length := by have h' := of_decide_eq_false h; simp only [List.length_map] at h'; omega
    subst hge
    rw [List.drop_length, List.flatMap_nil, List.append_nil] at hv
    subst hv
    repeat first|refine sgo ?_|refine cv (xIp (q := .sh false (out.map encS)) (xs := out) Sl.sh hrl) ?_|refine sop ?_
    exact xAC ⟨.inr rfl, oOwn rfl⟩
end Go.Proofs
