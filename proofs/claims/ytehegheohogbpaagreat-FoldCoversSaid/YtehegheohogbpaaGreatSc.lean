/- Sc -/
import Derived.Test.YtehegheohogbpaaGreatSb
import Derived.Test.YtehegheohogbpaaGreatPu
import Derived.Test.YtehegheohogbpaaGreatSa
import Derived.Test.YtehegheohogbpaaGreatVD
open Go.V Go.Pu
open Go.V renaming xA4 → zA, nl → zB, xAQ → zC, rg → zD, xAK → zE, bq → zF, xA2 → zO, xAo → zP, xAn → zQ, xCp → zT, xCo → zW, xBt → zX, xB6 → zY, xDW → zZ, xAl → za, xAm → zb, xCF → zd, xBL → ze, xA7 → zg, xG4 → zi, xPt → zr
set_option linter.unusedVariables false
set_option linter.unusedSimpArgs false
set_option maxRecDepth 20000
namespace Go.Proofs
def vc50 : VCode :=
 (.seq
 (.region 0 false [
 .e 2 (.copy (.c .nils)) 0])
 (.seq
 (.seq
 (.region 1 false [
 .e 3 (.copy (.t 0)) 8192,
 .e 4 (.isnil false (.t 3)) 8200])
 (.cond (.t 4)
 (.seq
 (.region 2 false [
 .e 2 (.copy (.c .nils)) 16384])
 .ret)
 .skip))
 (.seq
 (.region 3 false [
 .e 5 (.bslice 2 [(.str []), (.str [])] 0 []) 24576,
 .e 6 (.copy (.t 0)) 24584,
 .e 7 (.append 2 32 [(.str []), (.str [])] (.t 5) (.t 6)) 24592,
 .e 2 (.copy (.t 7)) 24600])
 .ret)))
theorem vf50 : VF Tryz.prog 50 = some (8, vc50, [.tmp 2]) := by kernel_rfl
def vc69 : VCode :=
 (.seq
 (.region 0 false [
 .e 4 (.copy (.c (.int .i64 0))) 0])
 (.seq
 (.seq
 (.region 1 false [
 .e 6 (.copy (.t 0)) 8192,
 .e 7 (.len (.t 6)) 8200,
 .e 8 (.copy (.c (.int .i64 0))) 8208])
 (.block 0
 (.loop
 (.seq
 (.region 2 false [
 .e 9 (.bin .lss (.t 8) (.t 7)) 16384])
 (.seq
 (.cond (.t 9)
 .skip
 (.exit 0))
 (.seq
 (.block 1
 (.seq
 (.region 3 false [
 .e 10 (.copy (.t 8)) 24576,
 .e 5 (.copy (.t 10)) 24584])
 (.seq
 (.region 4 false [
 .e 11 (.copy (.t 1)) 32768,
 .e 12 (.copy (.t 0)) 32776,
 .e 13 (.copy (.t 5)) 32784,
 .e 14 (.iaddr 2 (.t 12) (.t 13)) 32792,
 .e 15 (.load true 2 (.t 14)) 32800,
 .e 16 (.call (.t 11) [(.t 15)]) 32808])
 (.cond (.t 16)
 (.seq
 (.region 5 false [
 .e 17 (.copy (.t 5)) 40960,
 .e 4 (.copy (.t 17)) 40968])
 .ret)
 .skip))))
 (.region 6 false [
 .e 18 (.bin .add (.t 8) (.c (.int .i64 1))) 49152,
 .e 8 (.copy (.t 18)) 49160])))))))
 (.seq
 (.region 7 false [
 .e 4 (.copy (.c (.int .i64 (-1)))) 57344])
 .ret)))
theorem vf69 : VF Tryz.prog 69 = some (19, vc69, [.tmp 4]) := by kernel_rfl
def vc49 : VCode :=
 (.seq
 (.region 0 false [
 .e 4 (.copy (.c .nils)) 0])
 (.seq
 (.region 1 false [
 .e 8 (.copy (.t 0)) 8192,
 .e 9 (.copy (.t 1)) 8200,
 .e 10 (.call (.c (.fn 69 [])) [(.t 8), (.t 9)]) 8208,
 .e 5 (.copy (.t 10)) 8216])
 (.seq
 (.seq
 (.region 2 false [
 .e 11 (.copy (.t 5)) 16384,
 .e 12 (.bin .eql (.t 11) (.c (.int .i64 (-1)))) 16392])
 (.cond (.t 12)
 (.seq
 (.region 3 false [
 .e 13 (.copy (.t 0)) 24576,
 .e 4 (.copy (.t 13)) 24584])
 .ret)
 .skip))
 (.seq
 (.seq
 (.region 4 false [
 .e 14 (.copy (.t 5)) 32768,
 .e 15 (.bin .add (.t 14) (.c (.int .i64 1))) 32776,
 .e 6 (.copy (.t 15)) 32784])
 (.block 0
 (.loop
 (.seq
 (.seq
 (.region 5 false [
 .e 16 (.copy (.t 6)) 40960,
 .e 17 (.copy (.t 0)) 40968,
 .e 18 (.len (.t 17)) 40976,
 .e 19 (.bin .lss (.t 16) (.t 18)) 40984])
 (.cond (.t 19)
 .skip
 (.exit 0)))
 (.seq
 (.block 1
 (.seq
 (.region 7 false [
 .e 22 (.copy (.t 0)) 57344,
 .e 23 (.copy (.t 6)) 57352,
 .e 24 (.iaddr 2 (.t 22) (.t 23)) 57360,
 .e 25 (.load true 2 (.t 24)) 57368,
 .e 7 (.alloc [(.str []), (.str [])]) 57376,
 .h (.store 2 (.t 7) (.t 25)) 57384 []])
 (.seq
 (.region 8 false [
 .e 26 (.copy (.t 1)) 65536,
 .e 27 (.load true 2 (.t 7)) 65544,
 .e 28 (.call (.t 26) [(.t 27)]) 65552,
 .e 29 (.not (.t 28)) 65560])
 (.cond (.t 29)
 (.seq
 (.region 9 false [
 .e 30 (.copy (.t 0)) 73728,
 .e 31 (.copy (.t 5)) 73736,
 .e 32 (.load true 2 (.t 7)) 73744,
 .e 33 (.iaddr 2 (.t 30) (.t 31)) 73752,
 .h (.store 2 (.t 33) (.t 32)) 73760 []])
 (.region 10 false [
 .e 34 (.copy (.t 5)) 81920,
 .e 35 (.bin .add (.t 34) (.c (.int .i64 1))) 81928,
 .e 5 (.copy (.t 35)) 81936]))
 .skip))))
 (.region 6 false [
 .e 20 (.copy (.t 6)) 49152,
 .e 21 (.bin .add (.t 20) (.c (.int .i64 1))) 49160,
 .e 6 (.copy (.t 21)) 49168]))))))
 (.seq
 (.region 11 false [
 .e 36 (.copy (.t 0)) 90112,
 .e 37 (.copy (.t 5)) 90120,
 .e 38 (.slsl 2 (.t 36) (some (.t 37)) none none) 90128,
 .h (.clear 2 [(.str []), (.str [])] (.t 38)) 90136 []])
 (.seq
 (.region 12 false [
 .e 39 (.copy (.t 0)) 98304,
 .e 40 (.copy (.t 5)) 98312,
 .e 41 (.slsl 2 (.t 39) none (some (.t 40)) none) 98320,
 .e 4 (.copy (.t 41)) 98328])
 .ret))))))
theorem vf49 : VF Tryz.prog 49 = some (42, vc49, [.tmp 4]) := by kernel_rfl
theorem xOl {q : PV} {xs : List SpanL} (hq : Sl q (xs.map encS)) (hl : xs.length ≤ 60000) : VC Tryz.prog 50 [q] [] (ownV ⟨0, 0⟩ (xs.map encS)) [blkV 2 (xs.map encS)] := by
  refine xAG vf50 ?_ (Nat.le_of_ble_eq_true rfl) (by intro vs h; cases h)
  have nilc : ∀ (h : xs.map encS = []), xs = [] := fun h => List.map_eq_nil_iff.1 h
  rcases hq with ⟨rfl, h⟩ | ⟨rfl, h⟩ | ⟨ex, rfl⟩
  · have := nilc h
    subst this
    repeat first|refine zA ?_|refine zB ?_|refine zC ?_|refine zD ?_|refine zE ?_|refine zF ?_|refine ze ?_|refine zr ?_
    refine cndt ?_
    repeat first|refine zA ?_|refine zB ?_|refine zC ?_|refine zD ?_|refine zE ?_|refine zF ?_|refine ze ?_|refine zr ?_
    refine xFM (Imp.nil (t := 2) (b := ⟨1, 900000⟩) (esz := 2) rfl rfl (by decide)) ?_
    exact xAC ⟨.inr rfl, oOwn rfl⟩
  · have := nilc h
    subst this
    repeat first|refine zA ?_|refine zB ?_|refine zC ?_|refine zD ?_|refine zE ?_|refine zF ?_|refine ze ?_|refine zr ?_
    refine cndf (xAB ?_)
    repeat first|refine zA ?_|refine zB ?_|refine zC ?_|refine zD ?_|refine zE ?_|refine zF ?_|refine o_v (vaps encS [] []) ?_|refine ze ?_|refine zr ?_
    exact xAC ⟨.inr rfl, oOwn rfl⟩
  · cases xs with
    | nil =>
      refine xOf (t := 0) (ex := ex) (tm := xG8 0 [.sh ex []]) rfl ?_ ?_
      · repeat first|refine zA ?_|refine zB ?_|refine zC ?_|refine zD ?_|refine zE ?_|refine zF ?_|refine ze ?_|refine zr ?_
        refine cndt ?_
        repeat first|refine zA ?_|refine zB ?_|refine zC ?_|refine zD ?_|refine zE ?_|refine zF ?_|refine ze ?_|refine zr ?_
        refine xFM (Imp.nil (t := 2) (b := ⟨1, 900000⟩) (esz := 2) rfl rfl (by decide)) ?_
        exact xAC ⟨.inr rfl, oOwn rfl⟩
      · repeat first|refine zA ?_|refine zB ?_|refine zC ?_|refine zD ?_|refine zE ?_|refine zF ?_|refine ze ?_|refine zr ?_
        refine cndf (xAB ?_)
        repeat first|refine zA ?_|refine zB ?_|refine zC ?_|refine zD ?_|refine zE ?_|refine zF ?_|refine o_v (vaps encS [] []) ?_|refine ze ?_|refine zr ?_
        exact xAC ⟨.inr rfl, oOwn rfl⟩
    | cons x xs =>
      have hl2 : xs.length + 1 ≤ 60000 := hl
      repeat first|refine zA ?_|refine zB ?_|refine zC ?_|refine zD ?_|refine zE ?_|refine zF ?_|refine ze ?_|refine zr ?_
      refine cndf (xAB ?_)
      repeat first|refine zA ?_|refine zB ?_|refine zC ?_|refine zD ?_|refine zE ?_|refine zF ?_|refine o_v (vaps encS [] (x :: xs)) ?_|refine ze ?_|refine zr ?_
      exact xAC ⟨.inr rfl, oOwn rfl⟩
def idxE (l : List SpanL) : Int := if l.any xAI = true then (l.findIdx xAI : Nat) else -1
theorem idx_vc {q : PV} {xs : List SpanL} (hq : Sl q (xs.map encS)) (hl : xs.length ≤ 60000) : VC Tryz.prog 69 [q, .fn 51 []] [] (.int .i64 (idxE xs)) [] := by
  refine xAG vf69 ?_ (Nat.le_of_ble_eq_true rfl) (by intro vs h; cases h)
  repeat first|refine zA ?_|refine zB ?_|refine zC ?_|refine zD ?_|refine zE ?_|refine zF ?_|refine zO ?_|refine zP ?_|refine zQ ?_|refine zT ?_|refine zW ?_|refine zX ?_|refine zY ?_|refine zZ ?_|refine za ?_|refine zb ?_
  refine xAJ (fun (g : Nat) => [(0, q), (1, .fn 51 []), (7, .int .i64 (xs.map encS).length), (8, .int .i64 g)]) (fun g => []) (fun g => xs.length - g)
    (fun g => g ≤ xs.length ∧ (xs.take g).any xAI = false) 0 goes ⟨Nat.zero_le _, rfl⟩ ?_
  rintro i ⟨hi, hv⟩
  (try dsimp only)
  repeat first|refine zA ?_|refine zB ?_|refine zC ?_|refine zD ?_|refine zE ?_|refine zF ?_|refine zO ?_|refine zP ?_|refine zQ ?_|refine zT ?_|refine zW ?_|refine zX ?_|refine zY ?_|refine zZ ?_|refine za ?_|refine zb ?_
  refine cnd (fun h => xAB ?_) (fun h => xAE ?_)
  · have hlt : i < xs.length := by have h' := of_decide_eq_true h; simp only [List.length_map] at h'; omega
    obtain ⟨x, hx⟩ : ∃ x, xs[i]? = some x := ⟨_, List.getElem?_eq_getElem hlt⟩
    have hxe := gm (enc := encS) (n := (i : Int)) hx (by omega)
    repeat first|refine zA ?_|refine zB ?_|refine zC ?_|refine zD ?_|refine zE ?_|refine zF ?_|refine cv0 (xFf x) ?_|refine zO ?_|refine zP ?_|refine zQ ?_|refine zT ?_|refine zW ?_|refine zX ?_|refine zY ?_|refine zZ ?_|refine za ?_|refine zb ?_
    refine cnd (fun h2 => ?_) (fun h2 => xAB ?_)
    · repeat first|refine zA ?_|refine zB ?_|refine zC ?_|refine zD ?_|refine zE ?_|refine zF ?_|refine zO ?_|refine zP ?_|refine zQ ?_|refine zT ?_|refine zW ?_|refine zX ?_|refine zY ?_|refine zZ ?_|refine za ?_|refine zb ?_
      refine xAC ⟨.inr rfl, oI ?_⟩
      have hxs : xs = xs.take i ++ x :: xs.drop (i + 1) := by rw [← xAj hx, List.take_append_drop]
      have ha : xs.any xAI = true := by rw [hxs]; simp [h2]
      unfold idxE
      rw [if_pos ha]
      have : xs.findIdx xAI = i := by
        rw [hxs, List.findIdx_append, if_neg]
        · simp [List.findIdx_cons, h2]; omega
        · have h3 : ∀ y ∈ xs.take i, xAI y = false := by simpa using hv
          intro h4
          have := List.findIdx_getElem (w := h4)
          rw [h3 _ (List.getElem_mem _)] at this
          cases this
      rw [this]
    · repeat first|refine zA ?_|refine zB ?_|refine zC ?_|refine zD ?_|refine zE ?_|refine zF ?_|refine zO ?_|refine zP ?_|refine zQ ?_|refine zT ?_|refine zW ?_|refine zX ?_|refine zY ?_|refine zZ ?_|refine za ?_|refine zb ?_
      refine agn (i + 1) ⟨by omega, ?_⟩ goes
      rw [List.take_add_one, hx]
      simp [hv, h2]
  · have hge : i = xs.length := by have h' := of_decide_eq_false h; simp only [List.length_map] at h'; omega
    subst hge
    rw [List.take_length] at hv
    repeat first|refine zA ?_|refine zB ?_|refine zC ?_|refine zD ?_|refine zE ?_|refine zF ?_|refine zO ?_|refine zP ?_|refine zQ ?_|refine zT ?_|refine zW ?_|refine zX ?_|refine zY ?_|refine zZ ?_|refine za ?_|refine zb ?_
    refine xAC ⟨.inr rfl, oI ?_⟩
    unfold idxE
    rw [if_neg (by simp [hv])]
theorem xOZ {xs : List SpanL} (h : xs.any xAI = true) : xs.findIdx xAI < xs.length ∧ (xs.take (xs.findIdx xAI + 1)).filter ne = xs.take (xs.findIdx xAI) := by
  have hlt : xs.findIdx xAI < xs.length := List.findIdx_lt_length_of_exists (by simpa using h)
  refine ⟨hlt, ?_⟩
  have hx := List.findIdx_getElem (w := hlt)
  rw [List.take_add_one, List.getElem?_eq_getElem hlt]
  simp only [Option.toList, List.filter_append]
  have h1 : (xs.take (xs.findIdx xAI)).filter ne = xs.take (xs.findIdx xAI) := by
    refine List.filter_eq_self.2 fun y hy => ?_
    obtain ⟨k, hk, rfl⟩ := List.mem_iff_getElem.1 hy
    rw [List.getElem_take]
    have hk2 : k < xs.findIdx xAI := by have h5 := hk; rw [List.length_take] at h5; omega
    have := List.not_of_lt_findIdx hk2
    simpa [ne] using this
  rw [h1]
  simp [ne, hx]
set_option maxHeartbeats 1000000 in
theorem del_vc {N : Nat} (xs : List SpanL) (hN : xs.length = N) (hm : N ≤ 60000) :
    VC Tryz.prog 49 [.own ⟨0, 0⟩ N 0 N, .fn 51 []] [blkV 2 (xs.map encS)] (.own ⟨0, 0⟩ N 0 (xs.filter ne).length) [blkV 2 ((delL xs).map encS)] := by
  refine xAG vf49 ?_ (Nat.le_of_ble_eq_true rfl) (by intro vs h; cases h)
  have hidx := idx_vc (q := .sh false (xs.map encS)) (xs := xs) Sl.sh (by omega)
  by_cases hany : xs.any xAI = true
  case neg =>
    have hi : idxE xs = -1 := by unfold idxE; rw [if_neg hany]
    have hf : xs.filter ne = xs := List.filter_eq_self.2 fun y hy => by
      have : ∀ y ∈ xs, xAI y = false := by simpa using hany
      simp [ne, this y hy]
    rw [hi] at hidx
    repeat first|refine zA ?_|refine zB ?_|refine zC ?_|refine zD ?_|refine zE ?_|refine zF ?_|refine cv0 hidx ?_|refine zO ?_|refine zP ?_|refine zQ ?_|refine zT ?_|refine zW ?_|refine zX ?_|refine zY ?_|refine zZ ?_|refine za ?_|refine zb ?_|refine zd ?_|refine zg ?_|refine zi ?_
    refine cndt ?_
    repeat first|refine zA ?_|refine zB ?_|refine zC ?_|refine zD ?_|refine zE ?_|refine zF ?_|refine zO ?_|refine zP ?_|refine zQ ?_|refine zT ?_|refine zW ?_|refine zX ?_|refine zY ?_|refine zZ ?_|refine za ?_|refine zb ?_|refine zd ?_|refine zg ?_|refine zi ?_
    have hd : delL xs = xs := by unfold delL; rw [hf]; simp
    rw [hf, hd, hN]
    exact xAC ⟨.inr rfl, oLO rfl⟩
  obtain ⟨hlt, hfl⟩ := xOZ hany
  have hi : idxE xs = (xs.findIdx xAI : Nat) := by unfold idxE; rw [if_pos hany]
  rw [hi] at hidx
  generalize xs.findIdx xAI = i0 at *
  repeat first|refine zA ?_|refine zB ?_|refine zC ?_|refine zD ?_|refine zE ?_|refine zF ?_|refine cv0 hidx ?_|refine zO ?_|refine zP ?_|refine zQ ?_|refine zT ?_|refine zW ?_|refine zX ?_|refine zY ?_|refine zZ ?_|refine za ?_|refine zb ?_|refine zd ?_|refine zg ?_|refine zi ?_
  refine cndf (xAB ?_) rfl (by simp)
  repeat first|refine zA ?_|refine zB ?_|refine zC ?_|refine zD ?_|refine zE ?_|refine zF ?_|refine zO ?_|refine zP ?_|refine zQ ?_|refine zT ?_|refine zW ?_|refine zX ?_|refine zY ?_|refine zZ ?_|refine za ?_|refine zb ?_|refine zd ?_|refine zg ?_|refine zi ?_
  refine xAJ (fun (g : Nat × Nat × List SpanL) => [(0, .own ⟨0, 0⟩ N 0 N), (1, .fn 51 []), (5, .int .i64 g.1), (6, .int .i64 (g.2.1 : Nat))])
    (fun g => [(⟨0, 0⟩, blkV 2 (g.2.2.map encS))]) (fun g => N - g.2.1)
    (fun g => g.1 < g.2.1 ∧ g.2.1 ≤ N ∧ g.2.2.length = N ∧ g.2.2.take g.1 = (xs.take g.2.1).filter ne ∧ g.2.2.drop g.2.1 = xs.drop g.2.1) (i0, i0 + 1, xs) goes ⟨by simp, by simp only; omega, hN, hfl.symm, rfl⟩ ?_
  rintro ⟨i, j, zs⟩ ⟨hij, hjN, hzl, h1, h2⟩
  dsimp only at hij hjN hzl h1 h2 ⊢
  have hil : i = ((xs.take j).filter ne).length := by rw [← h1, List.length_take]; omega
  repeat first|refine zA ?_|refine zB ?_|refine zC ?_|refine zD ?_|refine zE ?_|refine zF ?_|refine zO ?_|refine zP ?_|refine zQ ?_|refine zT ?_|refine zW ?_|refine zX ?_|refine zY ?_|refine zZ ?_|refine za ?_|refine zb ?_|refine zd ?_|refine zg ?_|refine zi ?_
  refine cnd (fun h => xAB ?_) (fun h => xAE ?_)
  · have hlt : j < N := by have h' := of_decide_eq_true h; omega
    obtain ⟨x, hx⟩ : ∃ x, xs[j]? = some x := ⟨_, List.getElem?_eq_getElem (by omega)⟩
    have hzx : zs[j]? = some x := by have h3 := congrArg (fun l => l[0]?) h2; simpa [hx] using h3
    have hze := xAV (k := 0 + (j : Int).toNat) hzx (by omega)
    have hk1 : 0 + (i : Int).toNat = i := by omega
    have htk : (xs.take (j + 1)).filter ne = (xs.take j).filter ne ++ (if ne x = true then [x] else []) := by
      rw [List.take_add_one, hx, Option.toList, List.filter_append]
      by_cases hn : ne x = true <;> simp [hn]
    have hdr : zs.drop (j + 1) = xs.drop (j + 1) := by rw [← List.drop_drop, ← List.drop_drop, h2]
    repeat first|refine zA ?_|refine zB ?_|refine zC ?_|refine zD ?_|refine zE ?_|refine zF ?_|refine xAD ?_|refine cv0 (xFf x) ?_|refine zO ?_|refine zP ?_|refine zQ ?_|refine zT ?_|refine zW ?_|refine zX ?_|refine zY ?_|refine zZ ?_|refine za ?_|refine zb ?_|refine zd ?_|refine zg ?_|refine zi ?_
    refine cnd (fun hc => ?_) (fun hc => xAB ?_)
    · rw [if_pos (show ne x = true from hc)] at htk
      repeat first|refine zA ?_|refine zB ?_|refine zC ?_|refine zD ?_|refine zE ?_|refine zF ?_|refine xAD ?_|refine o_v (vst encS x) ?_|refine zO ?_|refine zP ?_|refine zQ ?_|refine zT ?_|refine zW ?_|refine zX ?_|refine zY ?_|refine zZ ?_|refine za ?_|refine zb ?_|refine zd ?_|refine zg ?_|refine zi ?_
      refine agn (i + 1, j + 1, zs.set (0 + (i : Int).toNat) x) ⟨by simp only; omega, by simp only; omega, by simpa only [List.length_set] using hzl, ?_, ?_⟩ goes
      · simp only [hk1]
        rw [htk, ← h1, List.take_add_one, List.take_set, List.set_eq_of_length_le (by simp; omega)]
        simp [show i < zs.length by omega]
      · simp only [hk1]
        rw [List.drop_set, if_pos (by omega)]
        exact hdr
    · rw [if_neg (show ¬ ne x = true by simpa [ne] using hc)] at htk
      repeat first|refine zA ?_|refine zB ?_|refine zC ?_|refine zD ?_|refine zE ?_|refine zF ?_|refine zO ?_|refine zP ?_|refine zQ ?_|refine zT ?_|refine zW ?_|refine zX ?_|refine zY ?_|refine zZ ?_|refine za ?_|refine zb ?_|refine zd ?_|refine zg ?_|refine zi ?_
      exact agn (i, j + 1, zs) ⟨by simp only; omega, by simp only; omega, hzl, by simp only; rw [htk, h1]; simp, hdr⟩ goes
  · have hj : j = N := by have h' := of_decide_eq_false h; omega
    subst hj
    have htN : xs.take j = xs := List.take_of_length_le (by omega)
    rw [htN] at h1 hil
    repeat first|refine zA ?_|refine zB ?_|refine zC ?_|refine zD ?_|refine zE ?_|refine zF ?_|refine xF5 ?_|refine o_v (vclr encS (⟨[], []⟩ : SpanL)) ?_|refine zO ?_|refine zP ?_|refine zQ ?_|refine zT ?_|refine zW ?_|refine zX ?_|refine zY ?_|refine zZ ?_|refine za ?_|refine zb ?_|refine zd ?_|refine zg ?_|refine zi ?_
    refine xF5 ?_ (hc0 := by simp; omega)
    repeat first|refine zA ?_|refine zB ?_|refine zC ?_|refine zD ?_|refine zE ?_|refine zF ?_|refine zO ?_|refine zP ?_|refine zQ ?_|refine zT ?_|refine zW ?_|refine zX ?_|refine zY ?_|refine zZ ?_|refine za ?_|refine zb ?_|refine zd ?_|refine zg ?_|refine zi ?_
    refine xAC ⟨.inr rfl, oLO (els' := ((zs.take (0 + (i : Int).toNat) ++ List.replicate ((j : Int).toNat - (i : Int).toNat) (⟨[], []⟩ : SpanL) ++ zs.drop (0 + (i : Int).toNat + ((j : Int).toNat - (i : Int).toNat))).map encS)) ?_ (h := ?_)⟩
    · have e1 : 0 + (i : Int).toNat = i := by omega
      have e2 : (j : Int).toNat - (i : Int).toNat = j - i := by omega
      rw [e1, e2, h1, List.drop_of_length_le (by omega)]
      unfold delL
      rw [hN, ← hil, List.append_nil]
    · rw [← hil]
      exact congrArg (fun z => some (PV.own ⟨0, 0⟩ j 0 z)) (by omega : (i : Int).toNat - Int.toNat 0 = i)
end Go.Proofs
open Go.V Go.Pu
open Go.V renaming xA4 → zA, nl → zB, xAQ → zC, rg → zD, xAK → zE, bq → zF, xBD → zL, xBE → zM, xBs → zN, xA2 → zO, xAo → zP, xAn → zQ, xCp → zT, xEX → zU, xCo → zW, xBt → zX, xB6 → zY, xDW → zZ, xAl → za, xAm → zb, xCF → zd, xBL → ze, xA7 → zg, xBa → zj, xBb → zk, skF → zw, skU → zx
set_option linter.unusedVariables false
set_option linter.unusedSimpArgs false
set_option maxRecDepth 20000
namespace Go.Proofs
def vc29 : VCode :=
 (.seq
 (.region 0 false [
 .e 2 (.copy (.c .nils)) 0])
 (.seq
 (.region 1 false [
 .e 8 (.copy (.t 0)) 8192,
 .e 9 (.call (.c (.fn 50 [])) [(.t 8)]) 8200,
 .e 10 (.call (.c (.fn 49 [])) [(.t 9), (.c (.fn 51 []))]) 8208,
 .e 3 (.copy (.t 10)) 8216])
 (.seq
 (.region 2 false [
 .e 11 (.copy (.t 3)) 16384,
 .e 12 (.call (.c (.fn 52 [])) [(.t 11), (.c (.fn 53 []))]) 16392])
 (.seq
 (.region 3 false [
 .e 4 (.copy (.c .nils)) 24576])
 (.seq
 (.seq
 (.region 4 false [
 .e 13 (.copy (.t 3)) 32768,
 .e 14 (.len (.t 13)) 32776,
 .e 15 (.copy (.c (.int .i64 0))) 32784])
 (.block 0
 (.loop
 (.seq
 (.region 5 false [
 .e 16 (.bin .lss (.t 15) (.t 14)) 40960])
 (.seq
 (.cond (.t 16)
 .skip
 (.exit 0))
 (.seq
 (.block 1
 (.seq
 (.region 6 false [
 .e 17 (.iaddr 2 (.t 13) (.t 15)) 49152,
 .e 18 (.load true 2 (.t 17)) 49160,
 .e 6 (.alloc [(.str []), (.str [])]) 49168,
 .h (.store 2 (.t 6) (.t 18)) 49176 []])
 (.seq
 (.region 7 false [
 .e 19 (.copy (.t 4)) 57344,
 .e 20 (.len (.t 19)) 57352,
 .e 7 (.copy (.t 20)) 57360])
 (.seq
 (.seq
 (.region 8 true [
 .e 21 (.copy (.t 7)) 65536,
 .f 22 (.bin .eql (.t 21) (.c (.int .i64 0))) 65544 [0],
 .f 23 (.copy (.t 22)) 65552 [1, 0],
 .g 24 (.copy (.t 4)) 2 23 false 65560 [2, 1, 0],
 .g 25 (.copy (.t 7)) 2 23 false 65568 [2, 1, 0],
 .g 26 (.bin .sub (.t 25) (.c (.int .i64 1))) 2 23 false 65576 [4, 2, 1, 0],
 .g 27 (.iaddr 2 (.t 24) (.t 26)) 2 23 false 65584 [3, 2, 1, 0, 5, 4],
 .g 28 (.faddr 1 (.t 27)) 2 23 false 65592 [6, 3, 2, 1, 0, 5, 4],
 .g 29 (.load false 1 (.t 28)) 2 23 false 65600 [7, 6, 3, 2, 1, 0, 5, 4],
 .g 30 (.bin .neq (.t 29) (.c (.str []))) 2 23 false 65608 [8, 7, 6, 3, 2, 1, 0, 5, 4],
 .g 31 (.copy (.t 30)) 2 23 false 65616 [9, 8, 7, 6, 3, 2, 1, 0, 5, 4],
 .g 32 (.copy (.t 4)) 10 31 true 65624 [10, 9, 8, 7, 6, 3, 2, 1, 0, 5, 4],
 .g 33 (.copy (.t 7)) 10 31 true 65632 [10, 9, 8, 7, 6, 3, 2, 1, 0, 5, 4],
 .g 34 (.bin .sub (.t 33) (.c (.int .i64 1))) 10 31 true 65640 [12, 10, 9, 8, 7, 6, 3, 2, 1, 0, 5, 4],
 .g 35 (.iaddr 2 (.t 32) (.t 34)) 10 31 true 65648 [11, 10, 9, 8, 7, 6, 3, 2, 1, 0, 5, 4, 13, 12],
 .g 36 (.faddr 1 (.t 35)) 10 31 true 65656 [14, 11, 10, 9, 8, 7, 6, 3, 2, 1, 0, 5, 4, 13, 12],
 .g 37 (.load false 1 (.t 36)) 10 31 true 65664 [15, 14, 11, 10, 9, 8, 7, 6, 3, 2, 1, 0, 5, 4, 13, 12],
 .g 38 (.faddr 0 (.t 6)) 10 31 true 65672 [10, 9, 8, 7, 6, 3, 2, 1, 0, 5, 4],
 .g 39 (.load false 1 (.t 38)) 10 31 true 65680 [17, 10, 9, 8, 7, 6, 3, 2, 1, 0, 5, 4],
 .g 40 (.bin .lss (.t 37) (.t 39)) 10 31 true 65688 [16, 15, 14, 11, 10, 9, 8, 7, 6, 3, 2, 1, 0, 5, 4, 13, 12, 18, 17],
 .g 41 (.pick (.t 31) (.t 40) (.c (.bool false))) 2 23 false 65696 [10, 9, 8, 7, 6, 3, 2, 1, 0, 5, 4, 19, 16, 15, 14, 11, 13, 12, 18, 17],
 .f 42 (.pick (.t 23) (.c (.bool true)) (.t 41)) 65704 [2, 1, 0, 20, 10, 9, 8, 7, 6, 3, 5, 4, 19, 16, 15, 14, 11, 13, 12, 18, 17]])
 (.cond (.t 42)
 (.seq
 (.region 9 false [
 .e 43 (.copy (.t 4)) 73728,
 .e 44 (.load true 2 (.t 6)) 73736,
 .e 45 (.bslice 2 [(.str []), (.str [])] 1 [(0, (.t 44))]) 73744,
 .e 46 (.append 2 32 [(.str []), (.str [])] (.t 43) (.t 45)) 73752,
 .e 4 (.copy (.t 46)) 73760])
 (.exit 1))
 .skip))
 (.seq
 (.region 10 true [
 .e 47 (.copy (.t 4)) 81920,
 .e 48 (.copy (.t 7)) 81928,
 .f 49 (.bin .sub (.t 48) (.c (.int .i64 1))) 81936 [1],
 .f 50 (.iaddr 2 (.t 47) (.t 49)) 81944 [0, 2, 1],
 .f 51 (.faddr 1 (.t 50)) 81952 [3, 0, 2, 1],
 .f 52 (.load false 1 (.t 51)) 81960 [4, 3, 0, 2, 1],
 .e 53 (.faddr 1 (.t 6)) 81968,
 .f 54 (.load false 1 (.t 53)) 81976 [6],
 .f 55 (.call (.c (.fn 55 [])) [(.t 52), (.t 54)]) 81984 [5, 4, 3, 0, 2, 1, 7, 6],
 .f 56 (.bin .lss (.t 55) (.c (.int .i64 0))) 81992 [8, 5, 4, 3, 0, 2, 1, 7, 6]])
 (.cond (.t 56)
 (.region 11 false [
 .e 57 (.copy (.t 4)) 90112,
 .e 58 (.copy (.t 7)) 90120,
 .e 59 (.bin .sub (.t 58) (.c (.int .i64 1))) 90128,
 .e 60 (.faddr 1 (.t 6)) 90136,
 .e 61 (.load false 1 (.t 60)) 90144,
 .e 62 (.iaddr 2 (.t 57) (.t 59)) 90152,
 .e 63 (.faddr 1 (.t 62)) 90160,
 .h (.store 1 (.t 63) (.t 61)) 90168 []])
 .skip))))))
 (.region 12 false [
 .e 64 (.bin .add (.t 15) (.c (.int .i64 1))) 98304,
 .e 15 (.copy (.t 64)) 98312])))))))
 (.seq
 (.region 13 false [
 .e 65 (.copy (.t 4)) 106496,
 .e 2 (.copy (.t 65)) 106504])
 .ret))))))
theorem vf29 : VF Tryz.prog 29 = some (66, vc29, [.tmp 2]) := by kernel_rfl
set_option maxHeartbeats 2000000 in
theorem xJo {q : PV} {xs : List SpanL} (hq : Sl q (xs.map encS)) (hl : xs.length ≤ 60000) : VC Tryz.prog 29 [q] [] (ownV ⟨0, 0⟩ ((xAM xs).map encS)) [blkV 2 ((xAM xs).map encS)] := by
  refine xAG vf29 ?_ (Nat.le_of_ble_eq_true rfl) (by intro vs h; cases h)
  obtain ⟨hs, hnw⟩ := xIY xs
  have hkl : (xs.filter ne).length ≤ xs.length := List.length_filter_le ne xs
  have h1 := xOl hq hl
  have h2 := del_vc (N := (xs.map encS).length) xs (by simp) (by simpa using hl)
  have h3 := xPb (N := (xs.map encS).length) (n := (xs.filter ne).length) (delL xs) (by simp [xK0]) (by simpa using hkl) (by simpa using hl)
  have h3' : VC Tryz.prog 52 [.own ⟨0, 0⟩ (xs.map encS).length 0 (xs.filter ne).length, .fn 53 []] [blkV 2 ((delL xs).map encS)] (.tup []) (srt (xBQ xs)) := h3
  generalize (xs.filter ne).length = k at *
  generalize delL xs = dl at *
  generalize xBQ xs = ss at *
  obtain ⟨sl, rfl⟩ : ∃ sl : List SpanL, ss = sl.toArray := ⟨ss.toList, by simp⟩
  have hlen2 : xs.length = sl.length := by simpa using hs.symm
  rw [← hnw, show sl.toArray.toList = sl from rfl]
  have hkl2 : k ≤ sl.length := by omega
  repeat first|refine zA ?_|refine zB ?_|refine zC ?_|refine zD ?_|refine zE ?_|refine zF ?_|refine cv h1 ?_|refine cl (lent := [⟨1, 8200⟩]) h2 ?_|refine cl (lent := [⟨1, 8200⟩]) h3' ?_|refine zL ?_|refine zM ?_|refine zN ?_|refine zO ?_|refine zP ?_|refine zQ ?_|refine zT ?_|refine zU ?_|refine zW ?_|refine zX ?_|refine zY ?_|refine zZ ?_|refine za ?_|refine zb ?_|refine zd ?_|refine ze ?_|refine zg ?_|refine zj ?_|refine zk ?_|refine zw ?_|refine zx ?_
  change CT _ _ (.loop _) _ _
  have hkb : k ≤ 60000 := by omega
  have hxl : (xs.map encS).length = xs.length := List.length_map ..
  clear h1 h2 h3 h3' hs hnw
  refine xAJ (fun (g : Nat × List SpanL) => [(4, ownV ⟨1, 73752⟩ (g.2.map encS)), (13, .own ⟨1, 8200⟩ (xs.map encS).length 0 k), (14, .int .i64 k), (15, .int .i64 g.1)])
    (fun g => [(⟨1, 8200⟩, blkV 2 (sl.map encS)), (⟨1, 73752⟩, blkV 2 (g.2.map encS))]) (fun g => k - g.1)
    (fun g => g.1 ≤ k ∧ g.2.length ≤ g.1 ∧ ((sl.take k).drop g.1).foldl xBr g.2 = xJp (sl.take k)) (0, []) ((Imp.nil (t := 4) (b := ⟨1, 73752⟩) (esz := 2) rfl rfl (by decide)).trans goes) ⟨Nat.zero_le _, Nat.le_refl _, rfl⟩ ?_
  rintro ⟨i, o⟩ ⟨hi, ho, hw⟩
  dsimp only at hi ho hw ⊢
  repeat first|refine zA ?_|refine zB ?_|refine zC ?_|refine zD ?_|refine zE ?_|refine zF ?_|refine zL ?_|refine zM ?_|refine zN ?_|refine zO ?_|refine zP ?_|refine zQ ?_|refine zT ?_|refine zU ?_|refine zW ?_|refine zX ?_|refine zY ?_|refine zZ ?_|refine za ?_|refine zb ?_|refine zd ?_|refine ze ?_|refine zg ?_|refine zj ?_|refine zk ?_|refine zw ?_|refine zx ?_
  refine cnd (fun h => xAB ?_) (fun h => xAE ?_)
  · have hlt : i < k := by have h' := of_decide_eq_true h; omega
    obtain ⟨y, hy⟩ : ∃ x, sl[i]? = some x := ⟨_, List.getElem?_eq_getElem (by omega)⟩
    have hyt : (sl.take k)[i]? = some y := by rw [List.getElem?_take, if_pos hlt]; exact hy
    have hye := gm (enc := encS) (n := (i : Int)) hy (by omega)
    have hye2 : (blkV 2 (sl.map encS)).els[0 + (i : Int).toNat]? = some (encS y) := by rw [Nat.zero_add]; exact hye
    rw [xAj hyt, List.foldl_cons] at hw
    have hlen := xFs o y
    rcases Nat.eq_zero_or_pos o.length with h0 | hpos
    · have ho0 : o = [] := List.length_eq_zero_iff.1 h0
      subst ho0
      repeat first|refine zA ?_|refine zB ?_|refine zC ?_|refine zD ?_|refine zE ?_|refine zF ?_|refine xAD ?_|refine zL ?_|refine zM ?_|refine zN ?_|refine zO ?_|refine zP ?_|refine zQ ?_|refine zT ?_|refine zU ?_|refine zW ?_|refine zX ?_|refine zY ?_|refine zZ ?_|refine za ?_|refine zb ?_|refine zd ?_|refine ze ?_|refine zg ?_|refine zj ?_|refine zk ?_|refine zw ?_|refine zx ?_
      refine cndt ?_
      repeat first|refine zA ?_|refine zB ?_|refine zC ?_|refine zD ?_|refine zE ?_|refine zF ?_|refine xAD ?_|refine o_v (vap encS y) ?_|refine zL ?_|refine zM ?_|refine zN ?_|refine zO ?_|refine zP ?_|refine zQ ?_|refine zT ?_|refine zU ?_|refine zW ?_|refine zX ?_|refine zY ?_|refine zZ ?_|refine za ?_|refine zb ?_|refine zd ?_|refine ze ?_|refine zg ?_|refine zj ?_|refine zk ?_|refine zw ?_|refine zx ?_
      refine xAE ?_
      repeat first|refine zA ?_|refine zB ?_|refine zC ?_|refine zD ?_|refine zE ?_|refine zF ?_|refine zL ?_|refine zM ?_|refine zN ?_|refine zO ?_|refine zP ?_|refine zQ ?_|refine zT ?_|refine zU ?_|refine zW ?_|refine zX ?_|refine zY ?_|refine zZ ?_|refine za ?_|refine zb ?_|refine zd ?_|refine ze ?_|refine zg ?_|refine zj ?_|refine zk ?_|refine zw ?_|refine zx ?_
      exact agn (i + 1, [] ++ [y]) ⟨by simp only; omega, by simp, hw⟩ goes
    · obtain ⟨x, hx⟩ : ∃ x, o[o.length - 1]? = some x := ⟨_, List.getElem?_eq_getElem (by omega)⟩
      have hidx : 0 + (((o.map encS).length : Int) - 1).toNat = o.length - 1 := by simp only [List.length_map]; omega
      have hx' : o[0 + (((o.map encS).length : Int) - 1).toNat]? = some x := by rw [hidx]; exact hx
      have hxe : (blkV 2 (o.map encS)).els[0 + (((o.map encS).length : Int) - 1).toNat]? = some (encS x) := by
        show (o.map encS)[_]? = _
        rw [List.getElem?_map, hx']; rfl
      have hng : decide (((o.map encS).length : Int) = 0) = false := decide_eq_false (by simp only [List.length_map]; omega)
      have hst : xBr o y = if x.hi ≠ [] ∧ Op.bytesLess x.hi y.lo = true then o ++ [y] else if xCr x.hi y.hi = true then o.set (o.length - 1) ⟨x.lo, y.hi⟩ else o := by unfold xBr; rw [hx]
      have hmp : 0 < (o.map encS).length := by simp only [List.length_map]; omega
      have hml : (o.map encS).length = o.length := List.length_map ..
      repeat first|refine zA ?_|refine zB ?_|refine zC ?_|refine zD ?_|refine zE ?_|refine zF ?_|refine xAD ?_|refine zL ?_|refine zM ?_|refine zN ?_|refine zO ?_|refine zP ?_|refine zQ ?_|refine zT ?_|refine zU ?_|refine zW ?_|refine zX ?_|refine zY ?_|refine zZ ?_|refine za ?_|refine zb ?_|refine zd ?_|refine ze ?_|refine zg ?_|refine zj ?_|refine zk ?_|refine zw ?_|refine zx ?_
      refine xBq (fun hg => ?_) (fun hg => ?_)
      · have hxh : x.hi ≠ [] := by simpa using hg
        repeat first|refine zA ?_|refine zB ?_|refine zC ?_|refine zD ?_|refine zE ?_|refine zF ?_|refine xAD ?_|refine zL ?_|refine zM ?_|refine zN ?_|refine zO ?_|refine zP ?_|refine zQ ?_|refine zT ?_|refine zU ?_|refine zW ?_|refine zX ?_|refine zY ?_|refine zZ ?_|refine za ?_|refine zb ?_|refine zd ?_|refine ze ?_|refine zg ?_|refine zj ?_|refine zk ?_|refine zw ?_|refine zx ?_
        refine cnd (fun h2 => ?_) (fun h2 => xAB ?_)
        · rw [if_pos ⟨hxh, h2⟩] at hst
          rw [hst] at hw hlen
          repeat first|refine zA ?_|refine zB ?_|refine zC ?_|refine zD ?_|refine zE ?_|refine zF ?_|refine xAD ?_|refine o_v (vap encS y) ?_|refine zL ?_|refine zM ?_|refine zN ?_|refine zO ?_|refine zP ?_|refine zQ ?_|refine zT ?_|refine zU ?_|refine zW ?_|refine zX ?_|refine zY ?_|refine zZ ?_|refine za ?_|refine zb ?_|refine zd ?_|refine ze ?_|refine zg ?_|refine zj ?_|refine zk ?_|refine zw ?_|refine zx ?_
          refine xAE ?_
          repeat first|refine zA ?_|refine zB ?_|refine zC ?_|refine zD ?_|refine zE ?_|refine zF ?_|refine zL ?_|refine zM ?_|refine zN ?_|refine zO ?_|refine zP ?_|refine zQ ?_|refine zT ?_|refine zU ?_|refine zW ?_|refine zX ?_|refine zY ?_|refine zZ ?_|refine za ?_|refine zb ?_|refine zd ?_|refine ze ?_|refine zg ?_|refine zj ?_|refine zk ?_|refine zw ?_|refine zx ?_
          exact agn (i + 1, o ++ [y]) ⟨by simp only; omega, by simp only; omega, hw⟩ goes
        · rw [if_neg (by simp [h2])] at hst
          repeat first|refine zA ?_|refine zB ?_|refine zC ?_|refine zD ?_|refine zE ?_|refine zF ?_|refine xAD ?_|refine cv0 (xDx x.hi y.hi) ?_|refine zL ?_|refine zM ?_|refine zN ?_|refine zO ?_|refine zP ?_|refine zQ ?_|refine zT ?_|refine zU ?_|refine zW ?_|refine zX ?_|refine zY ?_|refine zZ ?_|refine za ?_|refine zb ?_|refine zd ?_|refine ze ?_|refine zg ?_|refine zj ?_|refine zk ?_|refine zw ?_|refine zx ?_
          refine cnd (fun h3 => ?_) (fun h3 => xAB ?_)
          · have h3' : xCr x.hi y.hi = true := less_iff.2 (cmpEnd_lt.1 (of_decide_eq_true h3))
            rw [if_pos h3', ← hidx] at hst
            rw [hst] at hw hlen
            repeat first|refine zA ?_|refine zB ?_|refine zC ?_|refine zD ?_|refine zE ?_|refine zF ?_|refine xAD ?_|refine o_v (vstf encS (⟨x.lo, y.hi⟩ : SpanL) hx') ?_|refine zL ?_|refine zM ?_|refine zN ?_|refine zO ?_|refine zP ?_|refine zQ ?_|refine zT ?_|refine zU ?_|refine zW ?_|refine zX ?_|refine zY ?_|refine zZ ?_|refine za ?_|refine zb ?_|refine zd ?_|refine ze ?_|refine zg ?_|refine zj ?_|refine zk ?_|refine zw ?_|refine zx ?_
            exact agn (i + 1, _) ⟨by simp only; omega, by simp only; omega, hw⟩ (goes (h1 := by
              refine ⟨?_, rfl, rfl, rfl, trivial⟩
              exact congrArg (fun n => some (PV.own ⟨1, 73752⟩ n 0 n)) (by simp : (o.map encS).length = _)))
          · have h3' : ¬ xCr x.hi y.hi = true := fun h => (of_decide_eq_false h3) (cmpEnd_lt.2 (less_iff.1 h))
            rw [if_neg h3'] at hst
            rw [hst] at hw hlen
            repeat first|refine zA ?_|refine zB ?_|refine zC ?_|refine zD ?_|refine zE ?_|refine zF ?_|refine zL ?_|refine zM ?_|refine zN ?_|refine zO ?_|refine zP ?_|refine zQ ?_|refine zT ?_|refine zU ?_|refine zW ?_|refine zX ?_|refine zY ?_|refine zZ ?_|refine za ?_|refine zb ?_|refine zd ?_|refine ze ?_|refine zg ?_|refine zj ?_|refine zk ?_|refine zw ?_|refine zx ?_
            exact agn (i + 1, o) ⟨by simp only; omega, by simp only; omega, hw⟩ goes
      · have hxh : x.hi = [] := by simpa using hg
        rw [if_neg (by simp [hxh])] at hst
        have hl0 : ¬ xCr x.hi y.hi = true := by simp [xCr, hxh]
        rw [if_neg hl0] at hst
        rw [hst] at hw hlen
        repeat first|refine zA ?_|refine zB ?_|refine zC ?_|refine zD ?_|refine zE ?_|refine zF ?_|refine xAD ?_|refine zL ?_|refine zM ?_|refine zN ?_|refine zO ?_|refine zP ?_|refine zQ ?_|refine zT ?_|refine zU ?_|refine zW ?_|refine zX ?_|refine zY ?_|refine zZ ?_|refine za ?_|refine zb ?_|refine zd ?_|refine ze ?_|refine zg ?_|refine zj ?_|refine zk ?_|refine zw ?_|refine zx ?_
        refine cndf (xAB ?_)
        repeat first|refine zA ?_|refine zB ?_|refine zC ?_|refine zD ?_|refine zE ?_|refine zF ?_|refine xAD ?_|refine cv0 (xDx x.hi y.hi) ?_|refine zL ?_|refine zM ?_|refine zN ?_|refine zO ?_|refine zP ?_|refine zQ ?_|refine zT ?_|refine zU ?_|refine zW ?_|refine zX ?_|refine zY ?_|refine zZ ?_|refine za ?_|refine zb ?_|refine zd ?_|refine ze ?_|refine zg ?_|refine zj ?_|refine zk ?_|refine zw ?_|refine zx ?_
        refine cndf (xAB ?_) rfl (decide_eq_false (fun h => hl0 (less_iff.2 (cmpEnd_lt.1 h))))
        repeat first|refine zA ?_|refine zB ?_|refine zC ?_|refine zD ?_|refine zE ?_|refine zF ?_|refine zL ?_|refine zM ?_|refine zN ?_|refine zO ?_|refine zP ?_|refine zQ ?_|refine zT ?_|refine zU ?_|refine zW ?_|refine zX ?_|refine zY ?_|refine zZ ?_|refine za ?_|refine zb ?_|refine zd ?_|refine ze ?_|refine zg ?_|refine zj ?_|refine zk ?_|refine zw ?_|refine zx ?_
        exact agn (i + 1, o) ⟨by simp only; omega, by simp only; omega, hw⟩ goes
  · have hge : i = k := by have h' := of_decide_eq_false h; omega
    subst hge
    rw [List.drop_eq_nil_of_le (by simp; omega), List.foldl_nil] at hw
    repeat first|refine zA ?_|refine zB ?_|refine zC ?_|refine zD ?_|refine zE ?_|refine zF ?_|refine zL ?_|refine zM ?_|refine zN ?_|refine zO ?_|refine zP ?_|refine zQ ?_|refine zT ?_|refine zU ?_|refine zW ?_|refine zX ?_|refine zY ?_|refine zZ ?_|refine za ?_|refine zb ?_|refine zd ?_|refine ze ?_|refine zg ?_|refine zj ?_|refine zk ?_|refine zw ?_|refine zx ?_
    exact xAC ⟨.inr rfl, oOwn (congrArg (List.map encS) hw)⟩
end Go.Proofs
open Go.V Go.Pu
set_option linter.unusedVariables false
set_option linter.unusedSimpArgs false
namespace Go.Proofs
def Asc (l : List Str) : Prop := (∀ x ∈ l, x ≠ []) ∧ l.Pairwise (fun a b => Op.bytesLess a b = true)
theorem xCJ (x : Str) : ∀ (l nx : List Str), xAa x l nx true = (nx ++ l, true)
  | [], nx => by simp [xAa]
  | y :: l, nx => by rw [xAa, if_neg (by simp), xCJ x l]; simp
def putP (x : Str) : List Str → List Str
  | [] => [x]
  | y :: l => if Op.bytesLess x y = true then x :: y :: l else if x = y then y :: l else y :: putP x l
theorem xD1 (x : Str) : ∀ (l nx : List Str), (if (xAa x l nx false).2 = false then (xAa x l nx false).1 ++ [x] else (xAa x l nx false).1) = nx ++ putP x l
  | [], nx => by simp [xAa, putP]
  | y :: l, nx => by
    have e : xAa x (y :: l) nx false = if false = false ∧ (Op.bytesLess x y || x == y) = true then xAa x l ((if Op.bytesLess x y = true then nx ++ [x] else nx) ++ [y]) true else xAa x l (nx ++ [y]) false := by rw [xAa]
    by_cases h : Op.bytesLess x y = true
    · have e2 : xAa x (y :: l) nx false = (nx ++ x :: y :: l, true) := by
        rw [e, if_pos ⟨rfl, by rw [h]; rfl⟩, if_pos h, xCJ]; simp
      rw [e2, putP, if_pos h]
      simp
    · by_cases h2 : x = y
      · have e2 : xAa x (y :: l) nx false = (nx ++ y :: l, true) := by
          rw [e, if_pos ⟨rfl, by simp [h2]⟩, if_neg h, xCJ]; simp
        rw [e2, putP, if_neg h, if_pos h2]
        simp
      · have e2 : xAa x (y :: l) nx false = xAa x l (nx ++ [y]) false := by
          rw [e, if_neg (by simp [h, h2])]
        rw [e2, xD1 x l, putP, if_neg h, if_neg h2]
        simp
theorem xLS (out : List Str) (x : Str) : xDT out x = if x = [] then out else putP x out := by
  unfold xDT
  by_cases h : x = []
  · have : (x == []) = true := by simpa using h
    rw [this, xCJ, if_pos h]
    simp
  · have : (x == []) = false := by simpa using h
    rw [this, if_neg h]
    exact xD1 x out []
theorem xKK {x z : Str} : ∀ {l : List Str}, z ∈ putP x l → z = x ∨ z ∈ l
  | [], h => .inl (by simpa [putP] using h)
  | y :: l, h => by
    rw [putP] at h
    split at h
    · simpa using h
    · split at h
      · exact .inr h
      · rcases List.mem_cons.1 h with h | h
        · exact .inr (by simp [h])
        · rcases xKK h with h | h
          · exact .inl h
          · exact .inr (by simp [h])
theorem xKL {x : Str} (hx : x ≠ []) : ∀ {l : List Str}, Asc l → Asc (putP x l)
  | [], _ => ⟨by simp [putP, hx], by simp [putP]⟩
  | y :: l, ⟨h1, h2⟩ => by
    rw [putP]
    obtain ⟨h3, h4⟩ := List.pairwise_cons.1 h2
    split
    · next h =>
      refine ⟨?_, List.pairwise_cons.2 ⟨?_, h2⟩⟩
      · intro z hz
        rcases List.mem_cons.1 hz with rfl | hz
        · exact hx
        · exact h1 z hz
      · intro z hz
        rcases List.mem_cons.1 hz with rfl | hz
        · exact h
        · exact xAq h (h3 z hz)
    · split
      · exact ⟨h1, h2⟩
      · next h h5 =>
        have hyx : Op.bytesLess y x = true := by
          rcases xBw x y with h6 | h6 | h6
          · exact absurd h6 h
          · exact absurd h6 h5
          · exact h6
        obtain ⟨h6, h7⟩ := xKL hx (l := l) ⟨fun z hz => h1 z (by simp [hz]), h4⟩
        refine ⟨?_, List.pairwise_cons.2 ⟨?_, h7⟩⟩
        · intro z hz
          rcases List.mem_cons.1 hz with rfl | hz
          · exact h1 _ (by simp)
          · exact h6 z hz
        · intro z hz
          rcases xKK hz with rfl | hz
          · exact hyx
          · exact h3 z hz
theorem xFB : ∀ (l o : List Str), Asc o → Asc (l.foldl xDT o)
  | [], o, h => h
  | x :: l, o, h => by
    rw [List.foldl_cons]
    refine xFB l _ ?_
    rw [xLS]
    split
    · exact h
    · next hx => exact xKL hx h
theorem pivL_asc (l : List Str) : Asc (pivL l) := xFB l [] ⟨by simp, by simp⟩
theorem xFA : ∀ (l o : List Str), (l.foldl xDT o).length ≤ o.length + l.length
  | [], o => by simp
  | x :: l, o => by
    rw [List.foldl_cons, List.length_cons]
    have h1 := xFA l (xDT o x)
    have h2 := xJf o x
    omega
theorem pivL_len (l : List Str) : (pivL l).length ≤ l.length := by
  have := xFA l []
  simpa [pivL] using this
def atL (key : Str) : List Str → Nat
  | [] => 0
  | p :: l => if ble p key = true then atL key l + 1 else 0
theorem atL_le (key : Str) : ∀ l : List Str, atL key l ≤ l.length
  | [] => Nat.le_refl _
  | p :: l => by
    have := atL_le key l
    rw [atL, List.length_cons]
    split <;> omega
theorem xQJ (key : Str) : ∀ (l : List Str) (i : Nat) (p : Str), l[i]? = some p → i ≤ atL key l → (ble p key = true ↔ i < atL key l)
  | [], i, p, h, _ => by simp at h
  | q :: l, i, p, h, hi => by
    rw [atL] at hi ⊢
    cases i with
    | zero =>
      obtain rfl : q = p := by simpa using h
      split
      · next h2 => simp [h2]
      · next h2 => simp [h2]
    | succ i =>
      split at hi
      · next h2 =>
        rw [if_pos h2]
        have := xQJ key l i p (by simpa using h) (by omega)
        rw [this]
        omega
      · omega
theorem xMY (s : SpanL) (key : Str) : ∀ (l : List Str) (lo : Str) (k : Nat) (t : SpanL), Asc l → (∀ p ∈ l, ble lo p = true) → (xD2 s lo l)[k]? = some t →
    hasL t key = (ble lo key && (decide (k = atL key l) && hasL s key))
  | [], lo, k, t, _, _, h => by
    rw [xD2] at h
    have hk : k = 0 := by
      have := (List.getElem?_eq_some_iff.1 h).1
      simp at this
      omega
    subst hk
    obtain rfl : xAp s ⟨lo, []⟩ = t := by simpa using h
    rw [xCL, xFc, atL]
    cases hasL s key <;> simp
  | p :: l, lo, k, t, ha, hlo, h => by
    rw [xD2] at h
    obtain ⟨h3, h4⟩ := List.pairwise_cons.1 ha.2
    cases k with
    | zero =>
      obtain rfl : xAp s ⟨lo, p⟩ = t := by simpa using h
      rw [xCL, xGa (ha.1 p (by simp)), atL]
      have e : ble p key = !Op.bytesLess key p := rfl
      rw [e]
      cases Op.bytesLess key p <;> cases hasL s key <;> simp
    | succ k =>
      rw [xMY s key l p k t ⟨fun z hz => ha.1 z (by simp [hz]), h4⟩ (fun z hz => ble_iff.2 (.inl (h3 z hz))) (by simpa using h), atL]
      cases h5 : ble p key with
      | true =>
        have h6 : ble lo key = true := xA1 (hlo p (by simp)) h5
        simp [h6]
      | false => simp
theorem xKO (s : SpanL) (key : Str) : ∀ (l : List Str) (lo : Str), Asc l → (∀ p ∈ l, ble lo p = true) → inL (xD2 s lo l) key = (ble lo key && hasL s key)
  | [], lo, _, _ => by
    rw [xD2, xAR, xCL, xFc]
    cases hasL s key <;> simp [inL]
  | p :: l, lo, ha, hlo => by
    obtain ⟨h3, h4⟩ := List.pairwise_cons.1 ha.2
    rw [xD2, xAR, xCL, xGa (ha.1 p (by simp)), xKO s key l p ⟨fun z hz => ha.1 z (by simp [hz]), h4⟩ (fun z hz => ble_iff.2 (.inl (h3 z hz)))]
    have e : ble p key = !Op.bytesLess key p := rfl
    cases h5 : Op.bytesLess key p with
    | true => rw [e, h5]; cases hasL s key <;> simp
    | false =>
      have h6 : ble lo key = true := xA1 (hlo p (by simp)) (by rw [e, h5]; rfl)
      rw [e, h5, h6]
      cases hasL s key <;> simp
theorem parts_norm (s : SpanL) (l : List Str) (h : Asc l) : xAM (xD2 s [] l) = xAM [s] := by
  refine Nrm.ext (xAd _).1 (xAd _).1 (fun k => ?_)
  rw [(xAd _).2, (xAd _).2, xKO s k l [] h (fun p _ => xDl p), xDl, xAR]
  cases hasL s k <;> simp [inL]
theorem short_all {l : List SpanL} {n : Nat} (h : xOv l n = true) : l.length ≤ n ∧ ∀ s ∈ l, s.lo.length ≤ 30 ∧ s.hi.length ≤ 30 := by
  unfold xOv at h
  obtain ⟨h1, h2⟩ := (Bool.and_eq_true _ _).mp h
  have h3 := of_decide_eq_true h2
  refine ⟨by omega, fun s hs => ?_⟩
  have := List.all_eq_true.1 h1 s hs
  simpa using this
theorem dec2s {qs : List PV} (hl : qs.length = [CTy.str, .str].length) (hq : ∀ (j : Nat) (c : CTy) (q : PV), [CTy.str, .str][j]? = some c → qs[j]? = some q → InTy c q) : ∃ a b : Str, qs = [.str a, .str b] ∧ a.length ≤ maxLen ∧ b.length ≤ maxLen := by
  obtain ⟨a, b, rfl⟩ := list2 hl
  obtain ⟨x, rfl, hx⟩ := xI6 (hq 0 _ _ rfl rfl)
  obtain ⟨y, rfl, hy⟩ := xI6 (hq 1 _ _ rfl rfl)
  exact ⟨x, y, rfl, hx, hy⟩
theorem decS {l : List (List PV)} (h : InTy (.sl [.str, .str]) (.sh false l)) : ∃ xs : List SpanL, l = xs.map encS ∧ xs.length ≤ maxLen := xIH h fun e hl hc => by
  obtain ⟨a, b, rfl, _⟩ := dec2s hl hc
  exact ⟨⟨a, b⟩, rfl⟩
theorem decT {l : List (List PV)} (h : InTy (.sl [.str]) (.sh false l)) : ∃ xs : List Str, l = xs.map encT ∧ xs.length ≤ maxLen := xIH h fun e hl hc => by
  obtain ⟨a, rfl⟩ := list1 hl
  obtain ⟨s, rfl, _⟩ := xI6 (hc 0 _ _ rfl rfl)
  exact ⟨s, rfl⟩
end Go.Proofs
open Go.V Go.Pu
open Go.V renaming xA4 → zA, nl → zB, xAQ → zC, rg → zD, xAK → zE, bq → zF, xBD → zL, xBE → zM, xBs → zN, xA2 → zO, xAo → zP, xAn → zQ, xCp → zT, xCo → zW, xBt → zX, xB6 → zY, xDW → zZ, xAl → za, xAm → zb, xCF → zd, xBL → ze, xA7 → zg, xDY → zl
set_option linter.unusedVariables false
set_option linter.unusedSimpArgs false
set_option maxRecDepth 20000
namespace Go.Proofs
def vc74 : VCode :=
 (.seq
 (.region 0 false [
 .e 2 (.copy (.c .nils)) 0])
 (.seq
 (.region 1 false [
 .e 3 (.copy (.c .nils)) 8192])
 (.seq
 (.region 2 false [
 .e 4 (.copy (.c (.str []))) 16384])
 (.seq
 (.seq
 (.region 3 false [
 .e 7 (.copy (.t 0)) 24576,
 .e 8 (.len (.t 7)) 24584,
 .e 9 (.copy (.c (.int .i64 0))) 24592])
 (.block 0
 (.loop
 (.seq
 (.region 4 false [
 .e 10 (.bin .lss (.t 9) (.t 8)) 32768])
 (.seq
 (.cond (.t 10)
 .skip
 (.exit 0))
 (.seq
 (.block 1
 (.seq
 (.region 5 false [
 .e 11 (.iaddr 2 (.t 7) (.t 9)) 40960,
 .e 12 (.load true 2 (.t 11)) 40968,
 .e 6 (.alloc [(.str []), (.str [])]) 40976,
 .h (.store 2 (.t 6) (.t 12)) 40984 []])
 (.seq
 (.seq
 (.region 6 false [
 .e 13 (.faddr 0 (.t 6)) 49152,
 .e 14 (.load false 1 (.t 13)) 49160,
 .e 15 (.bin .neq (.t 14) (.c (.str []))) 49168])
 (.cond (.t 15)
 (.region 7 false [
 .e 16 (.copy (.t 3)) 57344,
 .e 17 (.copy (.t 4)) 57352,
 .e 18 (.faddr 0 (.t 6)) 57360,
 .e 19 (.load false 1 (.t 18)) 57368,
 .e 20 (.build [(.str []), (.str [])] [(0, 1, (.t 17)), (1, 1, (.t 19))]) 57376,
 .e 21 (.bslice 2 [(.str []), (.str [])] 1 [(0, (.t 20))]) 57384,
 .e 22 (.append 2 32 [(.str []), (.str [])] (.t 16) (.t 21)) 57392,
 .e 3 (.copy (.t 22)) 57400])
 .skip))
 (.seq
 (.region 8 false [
 .e 23 (.faddr 1 (.t 6)) 65536,
 .e 24 (.load false 1 (.t 23)) 65544,
 .e 4 (.copy (.t 24)) 65552])
 (.seq
 (.region 9 false [
 .e 25 (.copy (.t 4)) 73728,
 .e 26 (.bin .eql (.t 25) (.c (.str []))) 73736])
 (.cond (.t 26)
 (.seq
 (.region 10 false [
 .e 27 (.copy (.t 3)) 81920,
 .e 2 (.copy (.t 27)) 81928])
 .ret)
 .skip))))))
 (.region 11 false [
 .e 28 (.bin .add (.t 9) (.c (.int .i64 1))) 90112,
 .e 9 (.copy (.t 28)) 90120])))))))
 (.seq
 (.region 12 false [
 .e 29 (.copy (.t 3)) 98304,
 .e 30 (.copy (.t 4)) 98312,
 .e 31 (.build [(.str []), (.str [])] [(0, 1, (.t 30))]) 98320,
 .e 32 (.bslice 2 [(.str []), (.str [])] 1 [(0, (.t 31))]) 98328,
 .e 33 (.append 2 32 [(.str []), (.str [])] (.t 29) (.t 32)) 98336,
 .e 2 (.copy (.t 33)) 98344])
 .ret)))))
theorem vf74 : VF Tryz.prog 74 = some (34, vc74, [.tmp 2]) := by kernel_rfl
def vc56 : VCode :=
 (.seq
 (.region 0 false [
 .e 4 (.copy (.c .nils)) 0])
 (.seq
 (.region 1 false [
 .e 5 (.copy (.c .nils)) 8192])
 (.seq
 (.seq
 (.region 2 false [
 .e 10 (.copy (.t 1)) 16384,
 .e 11 (.call (.c (.fn 29 [])) [(.t 10)]) 16392,
 .e 12 (.call (.c (.fn 74 [])) [(.t 11)]) 16400,
 .e 13 (.len (.t 12)) 16408,
 .e 14 (.copy (.c (.int .i64 0))) 16416])
 (.block 0
 (.loop
 (.seq
 (.region 3 false [
 .e 15 (.bin .lss (.t 14) (.t 13)) 24576])
 (.seq
 (.cond (.t 15)
 .skip
 (.exit 0))
 (.seq
 (.block 1
 (.seq
 (.region 4 false [
 .e 16 (.iaddr 2 (.t 12) (.t 14)) 32768,
 .e 17 (.load true 2 (.t 16)) 32776,
 .e 7 (.alloc [(.str []), (.str [])]) 32784,
 .h (.store 2 (.t 7) (.t 17)) 32792 []])
 (.seq
 (.region 5 false [
 .e 18 (.copy (.t 0)) 40960,
 .e 19 (.len (.t 18)) 40968,
 .e 20 (.copy (.c (.int .i64 0))) 40976])
 (.block 2
 (.loop
 (.seq
 (.region 6 false [
 .e 21 (.bin .lss (.t 20) (.t 19)) 49152])
 (.seq
 (.cond (.t 21)
 .skip
 (.exit 2))
 (.seq
 (.block 3
 (.seq
 (.region 7 false [
 .e 22 (.iaddr 2 (.t 18) (.t 20)) 57344,
 .e 23 (.load true 2 (.t 22)) 57352,
 .e 9 (.alloc [(.str []), (.str [])]) 57360,
 .h (.store 2 (.t 9) (.t 23)) 57368 []])
 (.region 8 false [
 .e 24 (.copy (.t 5)) 65536,
 .e 25 (.load true 2 (.t 7)) 65544,
 .e 26 (.load true 2 (.t 9)) 65552,
 .e 27 (.call (.c (.fn 75 [])) [(.t 25), (.t 26)]) 65560,
 .e 28 (.bslice 2 [(.str []), (.str [])] 1 [(0, (.t 27))]) 65568,
 .e 29 (.append 2 32 [(.str []), (.str [])] (.t 24) (.t 28)) 65576,
 .e 5 (.copy (.t 29)) 65584])))
 (.region 9 false [
 .e 30 (.bin .add (.t 20) (.c (.int .i64 1))) 73728,
 .e 20 (.copy (.t 30)) 73736])))))))))
 (.region 10 false [
 .e 31 (.bin .add (.t 14) (.c (.int .i64 1))) 81920,
 .e 14 (.copy (.t 31)) 81928])))))))
 (.seq
 (.region 11 false [
 .e 32 (.copy (.t 5)) 90112,
 .e 33 (.call (.c (.fn 29 [])) [(.t 32)]) 90120,
 .e 4 (.copy (.t 33)) 90128])
 .ret))))
theorem vf56 : VF Tryz.prog 56 = some (34, vc56, [.tmp 4]) := by kernel_rfl
def vc35 : VCode :=
 (.seq
 (.region 0 false [
 .e 4 (.copy (.c .nils)) 0])
 (.seq
 (.region 1 false [
 .e 9 (.copy (.t 0)) 8192,
 .e 10 (.call (.c (.fn 34 [])) [(.t 9)]) 8200,
 .e 5 (.copy (.t 10)) 8208])
 (.seq
 (.seq
 (.region 2 false [
 .e 6 (.copy (.c (.int .i64 0))) 16384])
 (.block 0
 (.loop
 (.seq
 (.seq
 (.region 3 false [
 .e 11 (.copy (.t 6)) 24576,
 .e 12 (.copy (.t 1)) 24584,
 .e 13 (.len (.t 12)) 24592,
 .e 14 (.bin .lss (.t 11) (.t 13)) 24600])
 (.cond (.t 14)
 .skip
 (.exit 0)))
 (.seq
 (.block 1
 (.seq
 (.seq
 (.region 5 false [
 .e 17 (.copy (.t 1)) 40960,
 .e 18 (.copy (.t 6)) 40968,
 .e 19 (.iaddr 2 (.t 17) (.t 18)) 40976,
 .e 20 (.load true 2 (.t 19)) 40984,
 .e 21 (.call (.c (.fn 64 [])) [(.t 20)]) 40992])
 (.cond (.t 21)
 (.exit 1)
 .skip))
 (.seq
 (.region 6 false [
 .e 22 (.bslice 2 [(.str []), (.str [])] 0 []) 49152,
 .e 7 (.copy (.t 22)) 49160])
 (.seq
 (.seq
 (.region 7 false [
 .e 8 (.copy (.c (.int .i64 0))) 57344])
 (.block 2
 (.loop
 (.seq
 (.seq
 (.region 8 false [
 .e 23 (.copy (.t 8)) 65536,
 .e 24 (.copy (.t 5)) 65544,
 .e 25 (.len (.t 24)) 65552,
 .e 26 (.bin .lss (.t 23) (.t 25)) 65560])
 (.cond (.t 26)
 .skip
 (.exit 2)))
 (.seq
 (.block 3
 (.seq
 (.seq
 (.region 10 false [
 .e 29 (.copy (.t 1)) 81920,
 .e 30 (.copy (.t 6)) 81928,
 .e 31 (.iaddr 2 (.t 29) (.t 30)) 81936,
 .e 32 (.faddr 0 (.t 31)) 81944,
 .e 33 (.load false 1 (.t 32)) 81952,
 .e 34 (.bin .neq (.t 33) (.c (.str []))) 81960])
 (.cond (.t 34)
 (.region 11 true [
 .e 35 (.copy (.t 7)) 90112,
 .e 36 (.copy (.t 5)) 90120,
 .e 37 (.copy (.t 8)) 90128,
 .f 38 (.iaddr 2 (.t 36) (.t 37)) 90136 [1, 2],
 .f 39 (.load true 2 (.t 38)) 90144 [3, 1, 2],
 .e 40 (.copy (.t 1)) 90152,
 .e 41 (.copy (.t 6)) 90160,
 .f 42 (.iaddr 2 (.t 40) (.t 41)) 90168 [5, 6],
 .f 43 (.faddr 0 (.t 42)) 90176 [7, 5, 6],
 .f 44 (.load false 1 (.t 43)) 90184 [8, 7, 5, 6],
 .f 45 (.build [(.str []), (.str [])] [(1, 1, (.t 44))]) 90192 [9, 8, 7, 5, 6],
 .f 46 (.call (.c (.fn 65 [])) [(.t 39), (.t 45)]) 90200 [4, 3, 1, 2, 10, 9, 8, 7, 5, 6],
 .f 47 (.bslice 2 [(.str []), (.str [])] 1 [(0, (.t 46))]) 90208 [11, 4, 3, 1, 2, 10, 9, 8, 7, 5, 6],
 .f 48 (.append 2 32 [(.str []), (.str [])] (.t 35) (.t 47)) 90216 [0, 12, 11, 4, 3, 1, 2, 10, 9, 8, 7, 5, 6],
 .f 7 (.copy (.t 48)) 90224 [13, 0, 12, 11, 4, 3, 1, 2, 10, 9, 8, 7, 5, 6]])
 .skip))
 (.seq
 (.region 12 false [
 .e 49 (.copy (.t 1)) 98304,
 .e 50 (.copy (.t 6)) 98312,
 .e 51 (.iaddr 2 (.t 49) (.t 50)) 98320,
 .e 52 (.faddr 1 (.t 51)) 98328,
 .e 53 (.load false 1 (.t 52)) 98336,
 .e 54 (.bin .neq (.t 53) (.c (.str []))) 98344])
 (.cond (.t 54)
 (.region 13 true [
 .e 55 (.copy (.t 7)) 106496,
 .e 56 (.copy (.t 5)) 106504,
 .e 57 (.copy (.t 8)) 106512,
 .f 58 (.iaddr 2 (.t 56) (.t 57)) 106520 [1, 2],
 .f 59 (.load true 2 (.t 58)) 106528 [3, 1, 2],
 .e 60 (.copy (.t 1)) 106536,
 .e 61 (.copy (.t 6)) 106544,
 .f 62 (.iaddr 2 (.t 60) (.t 61)) 106552 [5, 6],
 .f 63 (.faddr 1 (.t 62)) 106560 [7, 5, 6],
 .f 64 (.load false 1 (.t 63)) 106568 [8, 7, 5, 6],
 .f 65 (.build [(.str []), (.str [])] [(0, 1, (.t 64))]) 106576 [9, 8, 7, 5, 6],
 .f 66 (.call (.c (.fn 65 [])) [(.t 59), (.t 65)]) 106584 [4, 3, 1, 2, 10, 9, 8, 7, 5, 6],
 .f 67 (.bslice 2 [(.str []), (.str [])] 1 [(0, (.t 66))]) 106592 [11, 4, 3, 1, 2, 10, 9, 8, 7, 5, 6],
 .f 68 (.append 2 32 [(.str []), (.str [])] (.t 55) (.t 67)) 106600 [0, 12, 11, 4, 3, 1, 2, 10, 9, 8, 7, 5, 6],
 .f 7 (.copy (.t 68)) 106608 [13, 0, 12, 11, 4, 3, 1, 2, 10, 9, 8, 7, 5, 6]])
 .skip))))
 (.region 9 false [
 .e 27 (.copy (.t 8)) 73728,
 .e 28 (.bin .add (.t 27) (.c (.int .i64 1))) 73736,
 .e 8 (.copy (.t 28)) 73744]))))))
 (.region 14 false [
 .e 69 (.copy (.t 7)) 114688,
 .e 70 (.call (.c (.fn 34 [])) [(.t 69)]) 114696,
 .e 5 (.copy (.t 70)) 114704])))))
 (.region 4 false [
 .e 15 (.copy (.t 6)) 32768,
 .e 16 (.bin .add (.t 15) (.c (.int .i64 1))) 32776,
 .e 6 (.copy (.t 16)) 32784]))))))
 (.seq
 (.region 15 false [
 .e 71 (.copy (.t 5)) 122880,
 .e 4 (.copy (.t 71)) 122888])
 .ret))))
theorem vf35 : VF Tryz.prog 35 = some (72, vc35, [.tmp 4]) := by kernel_rfl
theorem xQB {q : PV} {l : List SpanL} (hq : Sl q (l.map encS)) (hl : l.length ≤ 1000000) : VC Tryz.prog 74 [q] [] (ownV ⟨0, 0⟩ ((xCb [] l []).map encS)) [blkV 2 ((xCb [] l []).map encS)] := by
  refine xAG vf74 ?_ (Nat.le_of_ble_eq_true rfl) (by intro vs h; cases h)
  repeat first|refine zA ?_|refine zB ?_|refine zC ?_|refine zD ?_|refine zE ?_|refine zF ?_|refine zL ?_|refine zM ?_|refine zN ?_|refine zO ?_|refine zP ?_|refine zQ ?_|refine zT ?_|refine zW ?_|refine zX ?_|refine zY ?_|refine zZ ?_|refine za ?_|refine zb ?_|refine zd ?_|refine ze ?_|refine zg ?_|refine zl ?_
  refine xAJ (fun (g : Nat × Str × List SpanL) => [(3, ownV ⟨1, 57392⟩ (g.2.2.map encS)), (4, .str g.2.1), (7, q), (8, .int .i64 (l.map encS).length), (9, .int .i64 g.1)])
    (fun g => [(⟨1, 57392⟩, blkV 2 (g.2.2.map encS))]) (fun g => l.length - g.1)
    (fun g => g.1 ≤ l.length ∧ g.2.2.length ≤ g.1 ∧ xCb g.2.1 (l.drop g.1) g.2.2 = xCb [] l []) (0, [], []) ((Imp.nil (t := 3) (b := ⟨1, 57392⟩) (esz := 2) rfl rfl (by decide)).trans goes) ⟨Nat.zero_le _, Nat.le_refl _, rfl⟩ ?_
  rintro ⟨i, lo, out⟩ ⟨hi, ho, hv⟩
  dsimp only at hi ho hv ⊢
  repeat first|refine zA ?_|refine zB ?_|refine zC ?_|refine zD ?_|refine zE ?_|refine zF ?_|refine zL ?_|refine zM ?_|refine zN ?_|refine zO ?_|refine zP ?_|refine zQ ?_|refine zT ?_|refine zW ?_|refine zX ?_|refine zY ?_|refine zZ ?_|refine za ?_|refine zb ?_|refine zd ?_|refine ze ?_|refine zg ?_|refine zl ?_
  refine cnd (fun h => xAB ?_) (fun h => xAE ?_)
  · have hlt : i < l.length := by have h' := of_decide_eq_true h; simp only [List.length_map] at h'; omega
    obtain ⟨y, hy⟩ : ∃ x, l[i]? = some x := ⟨_, List.getElem?_eq_getElem hlt⟩
    have hye := gm (enc := encS) (n := (i : Int)) hy (by omega)
    rw [xAj hy, xCb] at hv
    repeat first|refine zA ?_|refine zB ?_|refine zC ?_|refine zD ?_|refine zE ?_|refine zF ?_|refine zL ?_|refine zM ?_|refine zN ?_|refine zO ?_|refine zP ?_|refine zQ ?_|refine zT ?_|refine zW ?_|refine zX ?_|refine zY ?_|refine zZ ?_|refine za ?_|refine zb ?_|refine zd ?_|refine ze ?_|refine zg ?_|refine zl ?_
    refine cnd (fun h1 => ?_) (fun h1 => xAB ?_)
    · have h1' : y.lo ≠ [] := by simpa using h1
      rw [if_neg h1'] at hv
      repeat first|refine zA ?_|refine zB ?_|refine zC ?_|refine zD ?_|refine zE ?_|refine zF ?_|refine o_v (vap encS (⟨lo, y.lo⟩ : SpanL)) ?_|refine zL ?_|refine zM ?_|refine zN ?_|refine zO ?_|refine zP ?_|refine zQ ?_|refine zT ?_|refine zW ?_|refine zX ?_|refine zY ?_|refine zZ ?_|refine za ?_|refine zb ?_|refine zd ?_|refine ze ?_|refine zg ?_|refine zl ?_
      refine cnd (fun h2 => ?_) (fun h2 => xAB ?_)
      · have h2' : y.hi = [] := by simpa using h2
        rw [if_pos h2'] at hv
        repeat first|refine zA ?_|refine zB ?_|refine zC ?_|refine zD ?_|refine zE ?_|refine zF ?_|refine zL ?_|refine zM ?_|refine zN ?_|refine zO ?_|refine zP ?_|refine zQ ?_|refine zT ?_|refine zW ?_|refine zX ?_|refine zY ?_|refine zZ ?_|refine za ?_|refine zb ?_|refine zd ?_|refine ze ?_|refine zg ?_|refine zl ?_
        exact xAC ⟨.inr rfl, oOwn (congrArg (List.map encS) hv)⟩
      · have h2' : y.hi ≠ [] := by simpa using h2
        rw [if_neg h2'] at hv
        repeat first|refine zA ?_|refine zB ?_|refine zC ?_|refine zD ?_|refine zE ?_|refine zF ?_|refine zL ?_|refine zM ?_|refine zN ?_|refine zO ?_|refine zP ?_|refine zQ ?_|refine zT ?_|refine zW ?_|refine zX ?_|refine zY ?_|refine zZ ?_|refine za ?_|refine zb ?_|refine zd ?_|refine ze ?_|refine zg ?_|refine zl ?_
        exact agn (i + 1, y.hi, out ++ [⟨lo, y.lo⟩]) ⟨by simp only; omega, by simp only [List.length_append, List.length_cons, List.length_nil]; omega, hv⟩ goes
    · have h1' : y.lo = [] := by simpa using h1
      rw [if_pos h1'] at hv
      repeat first|refine zA ?_|refine zB ?_|refine zC ?_|refine zD ?_|refine zE ?_|refine zF ?_|refine zL ?_|refine zM ?_|refine zN ?_|refine zO ?_|refine zP ?_|refine zQ ?_|refine zT ?_|refine zW ?_|refine zX ?_|refine zY ?_|refine zZ ?_|refine za ?_|refine zb ?_|refine zd ?_|refine ze ?_|refine zg ?_|refine zl ?_
      refine cnd (fun h2 => ?_) (fun h2 => xAB ?_)
      · have h2' : y.hi = [] := by simpa using h2
        rw [if_pos h2'] at hv
        repeat first|refine zA ?_|refine zB ?_|refine zC ?_|refine zD ?_|refine zE ?_|refine zF ?_|refine zL ?_|refine zM ?_|refine zN ?_|refine zO ?_|refine zP ?_|refine zQ ?_|refine zT ?_|refine zW ?_|refine zX ?_|refine zY ?_|refine zZ ?_|refine za ?_|refine zb ?_|refine zd ?_|refine ze ?_|refine zg ?_|refine zl ?_
        exact xAC ⟨.inr rfl, oOwn (congrArg (List.map encS) hv)⟩
      · have h2' : y.hi ≠ [] := by simpa using h2
        rw [if_neg h2'] at hv
        repeat first|refine zA ?_|refine zB ?_|refine zC ?_|refine zD ?_|refine zE ?_|refine zF ?_|refine zL ?_|refine zM ?_|refine zN ?_|refine zO ?_|refine zP ?_|refine zQ ?_|refine zT ?_|refine zW ?_|refine zX ?_|refine zY ?_|refine zZ ?_|refine za ?_|refine zb ?_|refine zd ?_|refine ze ?_|refine zg ?_|refine zl ?_
        exact agn (i + 1, y.hi, out) ⟨by simp only; omega, by simp only; omega, hv⟩ goes
  · have hge : i = l.length := by have h' := of_decide_eq_false h; simp only [List.length_map] at h'; omega
    subst hge
    rw [List.drop_length, xCb] at hv
    repeat first|refine zA ?_|refine zB ?_|refine zC ?_|refine zD ?_|refine zE ?_|refine zF ?_|refine o_v (vap encS (⟨lo, []⟩ : SpanL)) ?_|refine zL ?_|refine zM ?_|refine zN ?_|refine zO ?_|refine zP ?_|refine zQ ?_|refine zT ?_|refine zW ?_|refine zX ?_|refine zY ?_|refine zZ ?_|refine za ?_|refine zb ?_|refine zd ?_|refine ze ?_|refine zg ?_|refine zl ?_
    exact xAC ⟨.inr rfl, oOwn (congrArg (List.map encS) hv)⟩
set_option maxHeartbeats 1000000 in
theorem xOC {q p : PV} {l m : List SpanL} (hq : Sl q (l.map encS)) (hp : Sl p (m.map encS)) (hl : l.length ≤ 200) (hm : m.length ≤ 200) : VC Tryz.prog 56 [q, p] [] (ownV ⟨0, 0⟩ ((xBM l m).map encS)) [blkV 2 ((xBM l m).map encS)] := by
  refine xAG vf56 ?_ (Nat.le_of_ble_eq_true rfl) (by intro vs h; cases h)
  have hrl : (xBl l m).length ≤ 60000 := Nat.le_trans (xIp l m) (Nat.le_trans (Nat.mul_le_mul hl (Nat.succ_le_succ hm)) (by decide))
  have hgl := xGb (xAM m) [] []
  have hnl := xB5 m
  have h1 := xJo (q := p) (xs := m) hp (by omega)
  have h2 := xQB (q := .sh false ((xAM m).map encS)) (l := xAM m) Sl.sh (by omega)
  have hraw : xBl l m = (xCb [] (xAM m) []).flatMap (fun g => l.map (xAp g)) := rfl
  have hfin : xBM l m = xAM (xBl l m) := rfl
  rw [hfin]
  generalize xBl l m = raw at hrl hraw ⊢
  generalize xCb [] (xAM m) [] = gs at *
  generalize xAM m = nm at *
  simp only [List.length_nil] at hgl
  repeat first|refine zA ?_|refine zB ?_|refine zC ?_|refine zD ?_|refine zE ?_|refine zF ?_|refine cv h1 ?_|refine cv h2 ?_|refine zO ?_|refine zP ?_|refine zQ ?_|refine zT ?_|refine zW ?_|refine zX ?_|refine zY ?_|refine zZ ?_|refine za ?_|refine zb ?_|refine zd ?_|refine ze ?_|refine zg ?_
  refine xAJ (fun (g : Nat × List SpanL) => [(0, q), (5, ownV ⟨1, 65576⟩ (g.2.map encS)), (12, ownV ⟨1, 16400⟩ (gs.map encS)), (13, .int .i64 (gs.map encS).length), (14, .int .i64 g.1)])
    (fun g => [(⟨1, 16400⟩, blkV 2 (gs.map encS)), (⟨1, 65576⟩, blkV 2 (g.2.map encS))]) (fun g => gs.length - g.1)
    (fun g => g.1 ≤ gs.length ∧ g.2 ++ (gs.drop g.1).flatMap (fun g => l.map (xAp g)) = raw) (0, []) ((Imp.nil (t := 5) (b := ⟨1, 65576⟩) (esz := 2) rfl rfl (by decide)).trans goes) ⟨Nat.zero_le _, hraw.symm⟩ ?_
  rintro ⟨i, out⟩ ⟨hi, hv⟩
  dsimp only at hi hv ⊢
  repeat first|refine zA ?_|refine zB ?_|refine zC ?_|refine zD ?_|refine zE ?_|refine zF ?_|refine zO ?_|refine zP ?_|refine zQ ?_|refine zT ?_|refine zW ?_|refine zX ?_|refine zY ?_|refine zZ ?_|refine za ?_|refine zb ?_|refine zd ?_|refine ze ?_|refine zg ?_
  refine cnd (fun h => xAB ?_) (fun h => xAE ?_)
  · have hlt : i < gs.length := by have h' := of_decide_eq_true h; simp only [List.length_map] at h'; omega
    obtain ⟨g, hg⟩ : ∃ x, gs[i]? = some x := ⟨_, List.getElem?_eq_getElem hlt⟩
    have hge := gm (enc := encS) (n := (i : Int)) hg (by omega)
    have hge2 : (blkV 2 (gs.map encS)).els[0 + (i : Int).toNat]? = some (encS g) := by rw [Nat.zero_add]; exact hge
    rw [xAj hg, List.flatMap_cons, ← List.append_assoc] at hv
    repeat first|refine zA ?_|refine zB ?_|refine zC ?_|refine zD ?_|refine zE ?_|refine zF ?_|refine zO ?_|refine zP ?_|refine zQ ?_|refine zT ?_|refine zW ?_|refine zX ?_|refine zY ?_|refine zZ ?_|refine za ?_|refine zb ?_|refine zd ?_|refine ze ?_|refine zg ?_
    refine xAJ (fun (h : Nat × List SpanL) => [(0, q), (5, ownV ⟨1, 65576⟩ (h.2.map encS)), (7, .ptr ⟨1, 32784⟩ 1 0 0), (12, ownV ⟨1, 16400⟩ (gs.map encS)), (13, .int .i64 (gs.map encS).length), (14, .int .i64 i), (18, q), (19, .int .i64 (l.map encS).length), (20, .int .i64 h.1)])
      (fun h => [(⟨1, 16400⟩, blkV 2 (gs.map encS)), (⟨1, 65576⟩, blkV 2 (h.2.map encS)), (⟨1, 32784⟩, ⟨true, false, 2, [encS g]⟩)]) (fun h => l.length - h.1)
      (fun h => h.1 ≤ l.length ∧ h.2 ++ (l.drop h.1).map (xAp g) = out ++ l.map (xAp g)) (0, out) goes ⟨Nat.zero_le _, rfl⟩ ?_
    rintro ⟨j, o⟩ ⟨hj, hw⟩
    dsimp only at hj hw ⊢
    have hol : o.length ≤ 60000 := by
      have h3 := congrArg List.length hw
      have h4 := congrArg List.length hv
      simp only [List.length_append] at h3 h4
      omega
    repeat first|refine zA ?_|refine zB ?_|refine zC ?_|refine zD ?_|refine zE ?_|refine zF ?_|refine zO ?_|refine zP ?_|refine zQ ?_|refine zT ?_|refine zW ?_|refine zX ?_|refine zY ?_|refine zZ ?_|refine za ?_|refine zb ?_|refine zd ?_|refine ze ?_|refine zg ?_
    refine cnd (fun h => xAB ?_) (fun h => xAE ?_)
    · have hlt2 : j < l.length := by have h' := of_decide_eq_true h; simp only [List.length_map] at h'; omega
      obtain ⟨s, hs⟩ : ∃ x, l[j]? = some x := ⟨_, List.getElem?_eq_getElem hlt2⟩
      have hse := gm (enc := encS) (n := (j : Int)) hs (by omega)
      rw [xAj hs, List.map_cons] at hw
      repeat first|refine zA ?_|refine zB ?_|refine zC ?_|refine zD ?_|refine zE ?_|refine zF ?_|refine cv0 (xPz g s) ?_|refine o_v (vap encS (xAp g s)) ?_|refine zO ?_|refine zP ?_|refine zQ ?_|refine zT ?_|refine zW ?_|refine zX ?_|refine zY ?_|refine zZ ?_|refine za ?_|refine zb ?_|refine zd ?_|refine ze ?_|refine zg ?_
      refine agn (j + 1, o ++ [xAp g s]) ⟨by simp only; omega, ?_⟩ goes
      rw [← hw]; simp
    · have hge3 : j = l.length := by have h' := of_decide_eq_false h; simp only [List.length_map] at h'; omega
      subst hge3
      rw [List.drop_length, List.map_nil, List.append_nil] at hw
      rw [← hw] at hv
      repeat first|refine zA ?_|refine zB ?_|refine zC ?_|refine zD ?_|refine zE ?_|refine zF ?_|refine zO ?_|refine zP ?_|refine zQ ?_|refine zT ?_|refine zW ?_|refine zX ?_|refine zY ?_|refine zZ ?_|refine za ?_|refine zb ?_|refine zd ?_|refine ze ?_|refine zg ?_
      exact agn (i + 1, o) ⟨by simp only; omega, hv⟩ goes
  · have hge : i = gs.length := by have h' := of_decide_eq_false h; simp only [List.length_map] at h'; omega
    subst hge
    rw [List.drop_length, List.flatMap_nil, List.append_nil] at hv
    subst hv
    repeat first|refine zA ?_|refine zB ?_|refine zC ?_|refine zD ?_|refine zE ?_|refine zF ?_|refine cv (xJo (q := .sh false (out.map encS)) (xs := out) Sl.sh hrl) ?_|refine zO ?_|refine zP ?_|refine zQ ?_|refine zT ?_|refine zW ?_|refine zX ?_|refine zY ?_|refine zZ ?_|refine za ?_|refine zb ?_|refine zd ?_|refine ze ?_|refine zg ?_
    exact xAC ⟨.inr rfl, oOwn rfl⟩
set_option maxHeartbeats 1000000 in
theorem xMO {q p : PV} {l m : List SpanL} (hq : Sl q (l.map encS)) (hp : Sl p (m.map encS)) (hl : l.length ≤ 200) (hm : m.length ≤ 200) : VC Tryz.prog 35 [q, p] [] (ownV ⟨0, 0⟩ ((xFy l m).map encS)) [blkV 2 ((xFy l m).map encS)] := by
  refine xAG vf35 ?_ (Nat.le_of_ble_eq_true rfl) (by intro vs h; cases h)
  have hnl := xB5 l
  have hnn := (xAd l).1
  have h1 := xHs (q := q) (l := l) hq (by omega)
  have hmm : ∀ a b, VC Tryz.prog 65 [.agg (encS a), .agg (encS b)] [] (.agg (encS (xAp a b))) [] := fun a b => by rw [xOE]; exact xNy a b
  have hfin : xFy l m = m.foldl xDE (xAM l) := rfl
  generalize xFy l m = res at hfin ⊢
  generalize xAM l = nm at *
  repeat first|refine zA ?_|refine zB ?_|refine zC ?_|refine zD ?_|refine zE ?_|refine zF ?_|refine cv h1 ?_|refine zL ?_|refine zM ?_|refine zN ?_|refine zO ?_|refine zP ?_|refine zQ ?_|refine zT ?_|refine zW ?_|refine zX ?_|refine zY ?_|refine zZ ?_|refine za ?_|refine zb ?_|refine ze ?_|refine zl ?_
  refine xAJ (fun (g : Nat × List SpanL) => [(1, p), (5, ownV ⟨1, 8200⟩ (g.2.map encS)), (6, .int .i64 g.1)])
    (fun g => [(⟨1, 8200⟩, blkV 2 (g.2.map encS))]) (fun g => m.length - g.1)
    (fun g => g.1 ≤ m.length ∧ Nrm g.2 ∧ g.2.length ≤ 200 + g.1 ∧ (m.drop g.1).foldl xDE g.2 = res) (0, nm) goes ⟨Nat.zero_le _, hnn, by simp only; omega, hfin.symm⟩ ?_
  rintro ⟨k, left⟩ ⟨hk, hnr, hll, hv⟩
  dsimp only at hk hnr hll hv ⊢
  have hleft : left.length ≤ 4096 := by omega
  repeat first|refine zA ?_|refine zB ?_|refine zC ?_|refine zD ?_|refine zE ?_|refine zF ?_|refine zL ?_|refine zM ?_|refine zN ?_|refine zO ?_|refine zP ?_|refine zQ ?_|refine zT ?_|refine zW ?_|refine zX ?_|refine zY ?_|refine zZ ?_|refine za ?_|refine zb ?_|refine ze ?_|refine zl ?_
  refine cnd (fun h => xAB ?_) (fun h => xAE ?_)
  · have hlt : k < m.length := by have h' := of_decide_eq_true h; simp only [List.length_map] at h'; omega
    obtain ⟨c, hc⟩ : ∃ x, m[k]? = some x := ⟨_, List.getElem?_eq_getElem hlt⟩
    have hce := gm (enc := encS) (n := (k : Int)) hc (by omega)
    rw [xAj hc, List.foldl_cons] at hv
    have hcl := xNE hnr c
    repeat first|refine zA ?_|refine zB ?_|refine zC ?_|refine zD ?_|refine zE ?_|refine zF ?_|refine cv0 (xCx c) ?_|refine zL ?_|refine zM ?_|refine zN ?_|refine zO ?_|refine zP ?_|refine zQ ?_|refine zT ?_|refine zW ?_|refine zX ?_|refine zY ?_|refine zZ ?_|refine za ?_|refine zb ?_|refine ze ?_|refine zl ?_
    refine cnd (fun he => ?_) (fun he => xAB ?_)
    · have hcu : xDE left c = left := by unfold xDE; rw [if_pos he]
      rw [hcu] at hv
      refine xAE ?_
      repeat first|refine zA ?_|refine zB ?_|refine zC ?_|refine zD ?_|refine zE ?_|refine zF ?_|refine zL ?_|refine zM ?_|refine zN ?_|refine zO ?_|refine zP ?_|refine zQ ?_|refine zT ?_|refine zW ?_|refine zX ?_|refine zY ?_|refine zZ ?_|refine za ?_|refine zb ?_|refine ze ?_|refine zl ?_
      exact agn (k + 1, left) ⟨by simp only; omega, hnr, by simp only; omega, hv⟩ goes
    · have hcu : xDE left c = xAM (left.flatMap (fun s => cutL s c)) := by unfold xDE; rw [if_neg (by simp [he])]
      rw [hcu] at hv hcl
      have hfl := xFe (fun s => cutL s c) 2 left (fun s _ => xK3 s c)
      generalize hfr : left.flatMap (fun s => cutL s c) = fl at hv hcl hfl
      repeat first|refine zA ?_|refine zB ?_|refine zC ?_|refine zD ?_|refine zE ?_|refine zF ?_|refine zL ?_|refine zM ?_|refine zN ?_|refine zO ?_|refine zP ?_|refine zQ ?_|refine zT ?_|refine zW ?_|refine zX ?_|refine zY ?_|refine zZ ?_|refine za ?_|refine zb ?_|refine ze ?_|refine zl ?_
      refine xAJ (fun (h : Nat × List SpanL) => [(1, p), (5, ownV ⟨1, 8200⟩ (left.map encS)), (6, .int .i64 k), (7, ownV ⟨1, 49152⟩ (h.2.map encS)), (8, .int .i64 h.1)])
        (fun h => [(⟨1, 8200⟩, blkV 2 (left.map encS)), (⟨1, 49152⟩, blkV 2 (h.2.map encS))]) (fun h => left.length - h.1)
        (fun h => h.1 ≤ left.length ∧ h.2 ++ (left.drop h.1).flatMap (fun s => cutL s c) = fl) (0, []) goes ⟨Nat.zero_le _, hfr⟩ ?_
      rintro ⟨j, o⟩ ⟨hj, hw⟩
      dsimp only at hj hw ⊢
      have hol : o.length ≤ 10000 := by
        have h3 := congrArg List.length hw
        simp only [List.length_append] at h3
        omega
      repeat first|refine zA ?_|refine zB ?_|refine zC ?_|refine zD ?_|refine zE ?_|refine zF ?_|refine zL ?_|refine zM ?_|refine zN ?_|refine zO ?_|refine zP ?_|refine zQ ?_|refine zT ?_|refine zW ?_|refine zX ?_|refine zY ?_|refine zZ ?_|refine za ?_|refine zb ?_|refine ze ?_|refine zl ?_
      refine cnd (fun h => xAB ?_) (fun h => xAE ?_)
      · have hlt2 : j < left.length := by have h' := of_decide_eq_true h; simp only [List.length_map] at h'; omega
        obtain ⟨s, hs⟩ : ∃ x, left[j]? = some x := ⟨_, List.getElem?_eq_getElem hlt2⟩
        have hse := gm (enc := encS) (n := (j : Int)) hs (by omega)
        have hse2 : (blkV 2 (left.map encS)).els[0 + (j : Int).toNat]? = some (encS s) := by rw [Nat.zero_add]; exact hse
        rw [xAj hs, List.flatMap_cons, cutL] at hw
        repeat first|refine zA ?_|refine zB ?_|refine zC ?_|refine zD ?_|refine zE ?_|refine zF ?_|refine zL ?_|refine zM ?_|refine zN ?_|refine zO ?_|refine zP ?_|refine zQ ?_|refine zT ?_|refine zW ?_|refine zX ?_|refine zY ?_|refine zZ ?_|refine za ?_|refine zb ?_|refine ze ?_|refine zl ?_
        refine cnd (fun h1 => ?_) (fun h1 => xAB ?_)
        · have h1' : c.lo ≠ [] := by simpa using h1
          rw [if_neg h1'] at hw
          repeat first|refine zA ?_|refine zB ?_|refine zC ?_|refine zD ?_|refine zE ?_|refine zF ?_|refine cv0 (hmm s ⟨[], c.lo⟩) ?_|refine o_v (vap encS (xAp s ⟨[], c.lo⟩)) ?_|refine zL ?_|refine zM ?_|refine zN ?_|refine zO ?_|refine zP ?_|refine zQ ?_|refine zT ?_|refine zW ?_|refine zX ?_|refine zY ?_|refine zZ ?_|refine za ?_|refine zb ?_|refine ze ?_|refine zl ?_
          refine cnd (fun h2 => ?_) (fun h2 => xAB ?_)
          · have h2' : c.hi ≠ [] := by simpa using h2
            rw [if_neg h2'] at hw
            repeat first|refine zA ?_|refine zB ?_|refine zC ?_|refine zD ?_|refine zE ?_|refine zF ?_|refine cv0 (hmm s ⟨c.hi, []⟩) ?_|refine o_v (vap encS (xAp s ⟨c.hi, []⟩)) ?_|refine zL ?_|refine zM ?_|refine zN ?_|refine zO ?_|refine zP ?_|refine zQ ?_|refine zT ?_|refine zW ?_|refine zX ?_|refine zY ?_|refine zZ ?_|refine za ?_|refine zb ?_|refine ze ?_|refine zl ?_
            refine agn (j + 1, o ++ [xAp s ⟨[], c.lo⟩] ++ [xAp s ⟨c.hi, []⟩]) ⟨by simp only; omega, ?_⟩ goes
            rw [← hw]; simp
          · have h2' : c.hi = [] := by simpa using h2
            rw [if_pos h2'] at hw
            repeat first|refine zA ?_|refine zB ?_|refine zC ?_|refine zD ?_|refine zE ?_|refine zF ?_|refine zL ?_|refine zM ?_|refine zN ?_|refine zO ?_|refine zP ?_|refine zQ ?_|refine zT ?_|refine zW ?_|refine zX ?_|refine zY ?_|refine zZ ?_|refine za ?_|refine zb ?_|refine ze ?_|refine zl ?_
            refine agn (j + 1, o ++ [xAp s ⟨[], c.lo⟩]) ⟨by simp only; omega, ?_⟩ goes
            rw [← hw]; simp
        · have h1' : c.lo = [] := by simpa using h1
          rw [if_pos h1'] at hw
          repeat first|refine zA ?_|refine zB ?_|refine zC ?_|refine zD ?_|refine zE ?_|refine zF ?_|refine zL ?_|refine zM ?_|refine zN ?_|refine zO ?_|refine zP ?_|refine zQ ?_|refine zT ?_|refine zW ?_|refine zX ?_|refine zY ?_|refine zZ ?_|refine za ?_|refine zb ?_|refine ze ?_|refine zl ?_
          refine cnd (fun h2 => ?_) (fun h2 => xAB ?_)
          · have h2' : c.hi ≠ [] := by simpa using h2
            rw [if_neg h2'] at hw
            repeat first|refine zA ?_|refine zB ?_|refine zC ?_|refine zD ?_|refine zE ?_|refine zF ?_|refine cv0 (hmm s ⟨c.hi, []⟩) ?_|refine o_v (vap encS (xAp s ⟨c.hi, []⟩)) ?_|refine zL ?_|refine zM ?_|refine zN ?_|refine zO ?_|refine zP ?_|refine zQ ?_|refine zT ?_|refine zW ?_|refine zX ?_|refine zY ?_|refine zZ ?_|refine za ?_|refine zb ?_|refine ze ?_|refine zl ?_
            refine agn (j + 1, o ++ [xAp s ⟨c.hi, []⟩]) ⟨by simp only; omega, ?_⟩ goes
            rw [← hw]; simp
          · have h2' : c.hi = [] := by simpa using h2
            rw [if_pos h2'] at hw
            repeat first|refine zA ?_|refine zB ?_|refine zC ?_|refine zD ?_|refine zE ?_|refine zF ?_|refine zL ?_|refine zM ?_|refine zN ?_|refine zO ?_|refine zP ?_|refine zQ ?_|refine zT ?_|refine zW ?_|refine zX ?_|refine zY ?_|refine zZ ?_|refine za ?_|refine zb ?_|refine ze ?_|refine zl ?_
            refine agn (j + 1, o) ⟨by simp only; omega, ?_⟩ goes
            rw [← hw]; simp
      · have hge3 : j = left.length := by have h' := of_decide_eq_false h; simp only [List.length_map] at h'; omega
        subst hge3
        rw [List.drop_length, List.flatMap_nil, List.append_nil] at hw
        subst hw
        repeat first|refine zA ?_|refine zB ?_|refine zC ?_|refine zD ?_|refine zE ?_|refine zF ?_|refine cv (xHs (q := .sh false (o.map encS)) (l := o) Sl.sh (by omega)) ?_|refine zL ?_|refine zM ?_|refine zN ?_|refine zO ?_|refine zP ?_|refine zQ ?_|refine zT ?_|refine zW ?_|refine zX ?_|refine zY ?_|refine zZ ?_|refine za ?_|refine zb ?_|refine ze ?_|refine zl ?_
        exact agn (k + 1, xAM o) ⟨by simp only; omega, (xAd o).1, by simp only; omega, hv⟩ (goesR ⟨1, 114696⟩ ⟨1, 8200⟩)
  · have hge : k = m.length := by have h' := of_decide_eq_false h; simp only [List.length_map] at h'; omega
    subst hge
    rw [List.drop_length, List.foldl_nil] at hv
    repeat first|refine zA ?_|refine zB ?_|refine zC ?_|refine zD ?_|refine zE ?_|refine zF ?_|refine zL ?_|refine zM ?_|refine zN ?_|refine zO ?_|refine zP ?_|refine zQ ?_|refine zT ?_|refine zW ?_|refine zX ?_|refine zY ?_|refine zZ ?_|refine za ?_|refine zb ?_|refine ze ?_|refine zl ?_
    exact xAC ⟨.inr rfl, oOwn (congrArg (List.map encS) hv)⟩
end Go.Proofs
