/- Fa -/
import Derived.Test.YtgkocobnccdocaaGreatMa
import Derived.Test.YtgkocobnccdocaaGreatPu
import Derived.Test.YtgkocobnccdocaaGreatSc
open Go.V Go.Pu
set_option linter.unusedVariables false
set_option linter.unusedSimpArgs false
set_option maxRecDepth 20000
namespace Go.Proofs
def vc177 := vcm Tryz.prog 177
theorem vf177 : VF Tryz.prog 177 = some (27, vc177, [.tmp 4]) := by kernel_rfl
def vc140 := vcm Tryz.prog 140
theorem vf140 : VF Tryz.prog 140 = some (36, vc140, [.tmp 2]) := by kernel_rfl
def vc81 := vcm Tryz.prog 81
theorem vf81 : VF Tryz.prog 81 = some (27, vc81, [.tmp 4]) := by kernel_rfl
def vc45 := vcm Tryz.prog 45
theorem vf45 : VF Tryz.prog 45 = some (36, vc45, [.tmp 2]) := by kernel_rfl
abbrev xKm (l : List SpanL) : List PV := [.sh false (l.map encS)]
abbrev xC0 (l : List MsgL) : List PV := [.sh false (l.map encM)]
def xJF : SpanL := ⟨[], []⟩
theorem xRD : VC Tryz.prog 177 [.nils, .int .i64 0] [] .nils [] := by
  refine vcs vf177 ?_
  repeat first|refine sgo ?_|refine sop ?_
  refine cndf (xAB ?_)
  repeat first|refine sgo ?_|refine o_v0 xJ3 ?_|refine sop ?_
  refine cndf (xAB ?_)
  repeat first|refine sgo ?_|refine sop ?_
  exact xAC ⟨.inr rfl, oAny rfl⟩
theorem xTU {n : Nat} (h0 : 0 < n) (h1 : n ≤ 1000000) : VC Tryz.prog 177 [.nils, .int .i64 n] [] (.own ⟨0, 0⟩ n 0 0) [blkV 2 (List.replicate n (encS xJF))] := by
  refine vcs vf177 ?_
  have s1 : bin .sub (.int .i64 0) (.int .i64 (([] : List (List PV)).length : Int)) = some (.int .i64 0) := rfl
  have s2 : bin .sub (.int .i64 (n : Int)) (.int .i64 0) = some (.int .i64 (n : Int)) := by
    show some (PV.int .i64 (IntKind.i64.wrap ((n : Int) - 0))) = _
    rw [Int.sub_zero, xB0 (by omega) (by omega)]
  repeat first|refine sgo ?_|refine sop ?_
  refine cndf (xAB ?_) rfl (decide_eq_false (by omega))
  repeat first|refine sgo ?_|refine o_v0 xJ3 ?_|refine xBE s1 ?_|refine xBE s2 ?_|refine sop ?_
  refine cndt ?_ rfl (decide_eq_true (by omega))
  repeat first|refine sgo ?_|refine o_v0 xJ3 ?_|refine o_v0 vsln ?_|refine o_v (xUa (n := n)) ?_|refine xGe (a := 0) (z := 0) ?_|refine sop ?_
  exact xAC ⟨.inr rfl, xKM rfl rfl rfl (by decide)⟩
def totS (ls : List (List SpanL)) : Nat := (ls.map List.length).sum
theorem xK2 (l : List SpanL) (ls : List (List SpanL)) : totS (l :: ls) = l.length + totS ls := by simp [totS]
theorem xPR (ls : List (List SpanL)) : ls.flatten.length = totS ls := by simp [totS, List.length_flatten]
set_option maxHeartbeats 1000000 in
theorem xO5 {q : PV} {ls : List (List SpanL)} (hq : Sl q (ls.map xKm)) (hl : ls.length ≤ 1000000) (ht : totS ls ≤ 1000000) : VC Tryz.prog 140 [q] [] (ownV ⟨0, 0⟩ (ls.flatten.map encS)) [blkV 2 (ls.flatten.map encS)] := by
  refine vcs vf140 ?_
  have hml : (ls.map xKm).length = ls.length := List.length_map ..
  have htf := xPR ls
  repeat first|refine sgo ?_|refine sop ?_
  refine xAE (fun (g : Nat × Nat) => [(0, q), (3, .int .i64 g.2), (9, q), (10, .int .i64 (ls.map xKm).length), (11, .int .i64 g.1)])
    (fun g => []) (fun g => ls.length - g.1)
    (fun g => g.1 ≤ ls.length ∧ g.2 + totS (ls.drop g.1) = totS ls) (0, 0) goes ⟨Nat.zero_le _, by simp⟩ ?_
  rintro ⟨i, n⟩ ⟨hi, hn⟩
  dsimp only at hi hn ⊢
  repeat first|refine sgo ?_|refine sop ?_
  refine cnd (fun h => xAB ?_) (fun h => xAD ?_)
  · have hlt : i < ls.length := by have h' := of_decide_eq_true h; omega
    obtain ⟨l, hl⟩ : ∃ x, ls[i]? = some x := ⟨_, List.getElem?_eq_getElem hlt⟩
    have hle := gm (enc := xKm) (n := (i : Int)) hl (by omega)
    rw [xAo hl, xK2] at hn
    have hll : (l.map encS).length = l.length := List.length_map ..
    repeat first|refine sgo ?_|refine sop ?_
    refine cndf (xAB ?_) rfl (decide_eq_false (by omega))
    repeat first|refine sgo ?_|refine sop ?_
    exact agn (i + 1, n + l.length) ⟨by simp only; omega, by simp only; omega⟩ (goes (h1 := by
      refine ⟨rfl, ?_, rfl, rfl, rfl, trivial⟩
      exact congrArg (fun z => some (PV.int .i64 z)) (by simp only [hll]; omega)))
  have hge : i = ls.length := by have h' := of_decide_eq_false h; omega
  subst hge
  have hn2 : n = totS ls := by rw [List.drop_length] at hn; simpa [totS] using hn
  subst hn2
  clear hn h
  rcases Nat.eq_zero_or_pos (totS ls) with h0 | hpos
  · have hall : ∀ (m : List (List SpanL)), totS m = 0 → ∀ l ∈ m, l = [] := by
      intro m
      induction m with
      | nil => intro _ l hl; cases hl
      | cons x m ih =>
        intro h l hl
        rw [xK2] at h
        rcases List.mem_cons.1 hl with rfl | hl
        · exact List.length_eq_zero_iff.1 (by omega)
        · exact ih (by omega) l hl
    have hfl : ls.flatten = [] := List.length_eq_zero_iff.1 (by omega)
    rw [hfl, h0]
    repeat first|refine sgo ?_|refine cv0 xRD ?_|refine sop ?_
    refine xAE (fun (g : Nat) => [(6, ownV ⟨1, 106512⟩ (([] : List SpanL).map encS)), (25, q), (26, .int .i64 (ls.map xKm).length), (27, .int .i64 g)])
      (fun g => [(⟨1, 106512⟩, blkV 2 (([] : List SpanL).map encS))]) (fun g => ls.length - g)
      (fun g => g ≤ ls.length) 0 ((Imp.nil (t := 6) (b := ⟨1, 106512⟩) (esz := 2) rfl rfl (by decide)).trans goes) (Nat.zero_le _) ?_
    intro i hi
    (try dsimp only)
    repeat first|refine sgo ?_|refine sop ?_
    refine cnd (fun h => xAB ?_) (fun h => xAD ?_)
    · have hlt : i < ls.length := by have h' := of_decide_eq_true h; omega
      obtain ⟨l, hl⟩ : ∃ x, ls[i]? = some x := ⟨_, List.getElem?_eq_getElem hlt⟩
      have hle := gm (enc := xKm) (n := (i : Int)) hl (by omega)
      have hl0 := hall ls h0 l (List.mem_of_getElem? hl)
      subst hl0
      repeat first|refine sgo ?_|refine o_v (vaps encS [] []) ?_|refine sop ?_
      exact agn (i + 1) (by omega) goes
    · repeat first|refine sgo ?_|refine sop ?_
      exact xAC ⟨.inr rfl, oOwn rfl⟩
  · have hrep : List.replicate (totS ls) (encS xJF) = (List.replicate (totS ls) xJF).map encS := by rw [List.map_replicate]
    have hg := xTU hpos ht
    rw [hrep] at hg
    generalize totS ls = N at *
    have hcl : (blkV 2 ((List.replicate N xJF).map encS)).frz = false ∧ ∀ e ∈ (blkV 2 ((List.replicate N xJF).map encS)).els, ∀ c ∈ e, cS c = true := ⟨rfl, by intro e he; obtain ⟨a, _, rfl⟩ := List.mem_map.1 he; simp [cS, cN, clean]⟩
    repeat first|refine sgo ?_|refine cv hg ?_|refine sop ?_
    refine xAE (fun (g : Nat × List SpanL) => [(6, .own ⟨1, 73736⟩ N 0 g.2.length), (25, q), (26, .int .i64 (ls.map xKm).length), (27, .int .i64 g.1)])
      (fun g => [(⟨1, 73736⟩, blkV 2 ((g.2 ++ List.replicate (N - g.2.length) xJF).map encS))]) (fun g => ls.length - g.1)
      (fun g => g.1 ≤ ls.length ∧ g.2 ++ (ls.drop g.1).flatten = ls.flatten) (0, []) goes ⟨Nat.zero_le _, rfl⟩ ?_
    rintro ⟨i, o⟩ ⟨hi, hv⟩
    dsimp only at hi hv ⊢
    have hol := congrArg List.length hv
    rw [List.length_append, htf] at hol
    repeat first|refine sgo ?_|refine sop ?_
    refine cnd (fun h => xAB ?_) (fun h => xAD ?_)
    · have hlt : i < ls.length := by have h' := of_decide_eq_true h; omega
      obtain ⟨l, hl⟩ : ∃ x, ls[i]? = some x := ⟨_, List.getElem?_eq_getElem hlt⟩
      have hle := gm (enc := xKm) (n := (i : Int)) hl (by omega)
      rw [xAo hl, List.flatten_cons] at hv hol
      rw [List.length_append] at hol
      have e1 : o ++ l ++ (List.replicate (N - o.length) xJF).drop l.length = (o ++ l) ++ List.replicate (N - (o ++ l).length) xJF := by
        rw [List.drop_replicate, List.length_append]; congr 2; omega
      have hrl : (List.replicate (N - o.length) xJF).length = N - o.length := List.length_replicate ..
      have e2 : o.length + l.length = (o ++ l).length := List.length_append.symm
      repeat first|refine sgo ?_|refine o_v (xUb encS o l (List.replicate (N - o.length) xJF) e1 e2) ?_|refine sop ?_
      refine agn (i + 1, o ++ l) ⟨by simp only; omega, by rw [← hv]; simp⟩ goes
    · have hge : i = ls.length := by have h' := of_decide_eq_false h; omega
      subst hge
      rw [List.drop_length] at hv hol
      rw [List.flatten_nil, List.append_nil] at hv
      rw [List.flatten_nil, List.length_nil] at hol
      subst hv
      simp only [htf, Nat.sub_self, List.replicate_zero, List.append_nil]
      repeat first|refine sgo ?_|refine sop ?_
      exact xAC ⟨.inr rfl, oOwn rfl⟩
def xJG : MsgL := ⟨0, [], [], ⟨[], []⟩, [], [], 0⟩
theorem xRE : VC Tryz.prog 81 [.nils, .int .i64 0] [] .nils [] := by
  refine vcs vf81 ?_
  repeat first|refine sgo ?_|refine sop ?_
  refine cndf (xAB ?_)
  repeat first|refine sgo ?_|refine o_v0 xJ3 ?_|refine sop ?_
  refine cndf (xAB ?_)
  repeat first|refine sgo ?_|refine sop ?_
  exact xAC ⟨.inr rfl, oAny rfl⟩
theorem xTV {n : Nat} (h0 : 0 < n) (h1 : n ≤ 1000000) : VC Tryz.prog 81 [.nils, .int .i64 n] [] (.own ⟨0, 0⟩ n 0 0) [blkV 8 (List.replicate n (encM xJG))] := by
  refine vcs vf81 ?_
  have s1 : bin .sub (.int .i64 0) (.int .i64 (([] : List (List PV)).length : Int)) = some (.int .i64 0) := rfl
  have s2 : bin .sub (.int .i64 (n : Int)) (.int .i64 0) = some (.int .i64 (n : Int)) := by
    show some (PV.int .i64 (IntKind.i64.wrap ((n : Int) - 0))) = _
    rw [Int.sub_zero, xB0 (by omega) (by omega)]
  repeat first|refine sgo ?_|refine sop ?_
  refine cndf (xAB ?_) rfl (decide_eq_false (by omega))
  repeat first|refine sgo ?_|refine o_v0 xJ3 ?_|refine xBE s1 ?_|refine xBE s2 ?_|refine sop ?_
  refine cndt ?_ rfl (decide_eq_true (by omega))
  repeat first|refine sgo ?_|refine o_v0 xJ3 ?_|refine o_v0 vsln ?_|refine o_v (xUa (n := n)) ?_|refine xGe (a := 0) (z := 0) ?_|refine sop ?_
  exact xAC ⟨.inr rfl, xKM rfl rfl rfl (by decide)⟩
def totM (ls : List (List MsgL)) : Nat := (ls.map List.length).sum
theorem xK3 (l : List MsgL) (ls : List (List MsgL)) : totM (l :: ls) = l.length + totM ls := by simp [totM]
theorem xK1 (ls : List (List MsgL)) : ls.flatten.length = totM ls := by simp [totM, List.length_flatten]
set_option maxHeartbeats 1000000 in
theorem xO6 {q : PV} {ls : List (List MsgL)} (hq : Sl q (ls.map xC0)) (hl : ls.length ≤ 1000000) (ht : totM ls ≤ 1000000) : VC Tryz.prog 45 [q] [] (ownV ⟨0, 0⟩ (ls.flatten.map encM)) [blkV 8 (ls.flatten.map encM)] := by
  refine vcs vf45 ?_
  have hml : (ls.map xC0).length = ls.length := List.length_map ..
  have htf := xK1 ls
  repeat first|refine sgo ?_|refine sop ?_
  refine xAE (fun (g : Nat × Nat) => [(0, q), (3, .int .i64 g.2), (9, q), (10, .int .i64 (ls.map xC0).length), (11, .int .i64 g.1)])
    (fun g => []) (fun g => ls.length - g.1)
    (fun g => g.1 ≤ ls.length ∧ g.2 + totM (ls.drop g.1) = totM ls) (0, 0) goes ⟨Nat.zero_le _, by simp⟩ ?_
  rintro ⟨i, n⟩ ⟨hi, hn⟩
  dsimp only at hi hn ⊢
  repeat first|refine sgo ?_|refine sop ?_
  refine cnd (fun h => xAB ?_) (fun h => xAD ?_)
  · have hlt : i < ls.length := by have h' := of_decide_eq_true h; omega
    obtain ⟨l, hl⟩ : ∃ x, ls[i]? = some x := ⟨_, List.getElem?_eq_getElem hlt⟩
    have hle := gm (enc := xC0) (n := (i : Int)) hl (by omega)
    rw [xAo hl, xK3] at hn
    have hll : (l.map encM).length = l.length := List.length_map ..
    repeat first|refine sgo ?_|refine sop ?_
    refine cndf (xAB ?_) rfl (decide_eq_false (by omega))
    repeat first|refine sgo ?_|refine sop ?_
    exact agn (i + 1, n + l.length) ⟨by simp only; omega, by simp only; omega⟩ (goes (h1 := by
      refine ⟨rfl, ?_, rfl, rfl, rfl, trivial⟩
      exact congrArg (fun z => some (PV.int .i64 z)) (by simp only [hll]; omega)))
  have hge : i = ls.length := by have h' := of_decide_eq_false h; omega
  subst hge
  have hn2 : n = totM ls := by rw [List.drop_length] at hn; simpa [totM] using hn
  subst hn2
  clear hn h
  rcases Nat.eq_zero_or_pos (totM ls) with h0 | hpos
  · have hall : ∀ (m : List (List MsgL)), totM m = 0 → ∀ l ∈ m, l = [] := by
      intro m
      induction m with
      | nil => intro _ l hl; cases hl
      | cons x m ih =>
        intro h l hl
        rw [xK3] at h
        rcases List.mem_cons.1 hl with rfl | hl
        · exact List.length_eq_zero_iff.1 (by omega)
        · exact ih (by omega) l hl
    have hfl : ls.flatten = [] := List.length_eq_zero_iff.1 (by omega)
    rw [hfl, h0]
    repeat first|refine sgo ?_|refine cv0 xRE ?_|refine sop ?_
    refine xAE (fun (g : Nat) => [(6, ownV ⟨1, 106512⟩ (([] : List MsgL).map encM)), (25, q), (26, .int .i64 (ls.map xC0).length), (27, .int .i64 g)])
      (fun g => [(⟨1, 106512⟩, blkV 8 (([] : List MsgL).map encM))]) (fun g => ls.length - g)
      (fun g => g ≤ ls.length) 0 ((Imp.nil (t := 6) (b := ⟨1, 106512⟩) (esz := 8) rfl rfl (by decide)).trans goes) (Nat.zero_le _) ?_
    intro i hi
    (try dsimp only)
    repeat first|refine sgo ?_|refine sop ?_
    refine cnd (fun h => xAB ?_) (fun h => xAD ?_)
    · have hlt : i < ls.length := by have h' := of_decide_eq_true h; omega
      obtain ⟨l, hl⟩ : ∃ x, ls[i]? = some x := ⟨_, List.getElem?_eq_getElem hlt⟩
      have hle := gm (enc := xC0) (n := (i : Int)) hl (by omega)
      have hl0 := hall ls h0 l (List.mem_of_getElem? hl)
      subst hl0
      repeat first|refine sgo ?_|refine o_v (vaps encM [] []) ?_|refine sop ?_
      exact agn (i + 1) (by omega) goes
    · repeat first|refine sgo ?_|refine sop ?_
      exact xAC ⟨.inr rfl, oOwn rfl⟩
  · have hrep : List.replicate (totM ls) (encM xJG) = (List.replicate (totM ls) xJG).map encM := by rw [List.map_replicate]
    have hg := xTV hpos ht
    rw [hrep] at hg
    generalize totM ls = N at *
    have hcl : (blkV 8 ((List.replicate N xJG).map encM)).frz = false ∧ ∀ e ∈ (blkV 8 ((List.replicate N xJG).map encM)).els, ∀ c ∈ e, cS c = true := ⟨rfl, by intro e he; obtain ⟨a, _, rfl⟩ := List.mem_map.1 he; simp [cS, cN, clean]⟩
    repeat first|refine sgo ?_|refine cv hg ?_|refine sop ?_
    refine xAE (fun (g : Nat × List MsgL) => [(6, .own ⟨1, 73736⟩ N 0 g.2.length), (25, q), (26, .int .i64 (ls.map xC0).length), (27, .int .i64 g.1)])
      (fun g => [(⟨1, 73736⟩, blkV 8 ((g.2 ++ List.replicate (N - g.2.length) xJG).map encM))]) (fun g => ls.length - g.1)
      (fun g => g.1 ≤ ls.length ∧ g.2 ++ (ls.drop g.1).flatten = ls.flatten) (0, []) goes ⟨Nat.zero_le _, rfl⟩ ?_
    rintro ⟨i, o⟩ ⟨hi, hv⟩
    dsimp only at hi hv ⊢
    have hol := congrArg List.length hv
    rw [List.length_append, htf] at hol
    repeat first|refine sgo ?_|refine sop ?_
    refine cnd (fun h => xAB ?_) (fun h => xAD ?_)
    · have hlt : i < ls.length := by have h' := of_decide_eq_true h; omega
      obtain ⟨l, hl⟩ : ∃ x, ls[i]? = some x := ⟨_, List.getElem?_eq_getElem hlt⟩
      have hle := gm (enc := xC0) (n := (i : Int)) hl (by omega)
      rw [xAo hl, List.flatten_cons] at hv hol
      rw [List.length_append] at hol
      have e1 : o ++ l ++ (List.replicate (N - o.length) xJG).drop l.length = (o ++ l) ++ List.replicate (N - (o ++ l).length) xJG := by
        rw [List.drop_replicate, List.length_append]; congr 2; omega
      have hrl : (List.replicate (N - o.length) xJG).length = N - o.length := List.length_replicate ..
      have e2 : o.length + l.length = (o ++ l).length := List.length_append.symm
      repeat first|refine sgo ?_|refine o_v (xUb encM o l (List.replicate (N - o.length) xJG) e1 e2) ?_|refine sop ?_
      refine agn (i + 1, o ++ l) ⟨by simp only; omega, by rw [← hv]; simp⟩ goes
    · have hge : i = ls.length := by have h' := of_decide_eq_false h; omega
      subst hge
      rw [List.drop_length] at hv hol
      rw [List.flatten_nil, List.append_nil] at hv
      rw [List.flatten_nil, List.length_nil] at hol
      subst hv
      simp only [htf, Nat.sub_self, List.replicate_zero, List.append_nil]
      repeat first|refine sgo ?_|refine sop ?_
      exact xAC ⟨.inr rfl, oOwn rfl⟩
end Go.Proofs
open Go.V Go.Pu
set_option linter.unusedVariables false
set_option linter.unusedSimpArgs false
set_option maxRecDepth 20000
namespace Go.Proofs
def vc101 := vcm Tryz.prog 101
theorem vf101 : VF Tryz.prog 101 = some (14, vc101, [.tmp 4]) := by kernel_rfl
def vc102 := vcm Tryz.prog 102
theorem vf102 : VF Tryz.prog 102 = some (18, vc102, []) := by kernel_rfl
abbrev bxD (d : List SpanL) : Blk := ⟨true, false, 1, [[.sh false (d.map encS)]]⟩
theorem xUB {q p : PV} {l m : List SpanL} (hq : Sl q (l.map encS)) (hp : Sl p (m.map encS)) (hl : l.length ≤ 20000) (hm : m.length ≤ 20000) (hlm : l.length * (m.length + 1) ≤ 60000) : VC Tryz.prog 138 [q, p] [] (.sh false ((xBG l m).map encS)) [] := xCm (xLZ hq hp hl hm hlm)
theorem xRZ {m : MsgL} (hm : MsgSz m) {d : List SpanL} (hd : d.length ≤ 19000) : VC Tryz.prog 101 [.ptr ⟨0, 0⟩ 1 0 0, .agg (encM m)] [bxD d] (.bool (covL m d)) [bxD d] := by
  have hw := xKv hm
  have hmi := xUB (q := .sh false ((xAM m).map encS)) (p := .sh false (d.map encS)) Sl.sh Sl.sh (by have := xC6 m; omega) (by omega) (by have h1 := xC6 m; exact Nat.le_trans (Nat.mul_le_mul h1 (Nat.succ_le_succ hd)) (by decide))
  have e : covL m d = ((((xBG (xAM m) d).map encS).length : Int) == 0) := by
    unfold covL
    rw [List.length_map, Bool.eq_iff_iff]
    simp
  rw [e]
  refine vcs vf101 ?_
  repeat first|refine sgo ?_|refine cf hw ?_|refine cf hmi ?_|refine sop ?_
  refine xAC ⟨.inr rfl, ?_⟩
  exact oG []
theorem xVJ {m : MsgL} (hm : MsgSz m) {d : List SpanL} (hd : d.length ≤ 19000) : VC Tryz.prog 102 [.ptr ⟨0, 0⟩ 1 0 0, .agg (encM m)] [bxD d] (.tup []) [bxD (nxtL m d)] := by
  have hk := xTM hm
  have hr := xSc hm
  have hkl := xIV m
  have hrl := xFw m
  have hc := xCm (xO5 (q := .sh false ([d, xBH m].map xKm)) (ls := [d, xBH m]) Sl.sh (by simp) (by simp [totS]; omega))
  have e : ([d, xBH m].flatten : List SpanL) = d ++ xBH m := by simp
  rw [e] at hc
  have hdk : (d ++ xBH m).length ≤ 19010 := by rw [List.length_append]; omega
  have hmi := xUB (q := .sh false ((d ++ xBH m).map encS)) (p := .sh false ((xBj m).map encS)) Sl.sh Sl.sh (by omega) (by omega) (Nat.le_trans (Nat.mul_le_mul hdk (Nat.succ_le_succ hrl)) (by decide))
  refine xBV vf102 ?_ (Nat.le_of_ble_eq_true rfl) (by intro vs h; cases h; simp)
  repeat first|refine sgo ?_|refine cf hk ?_|refine cf hr ?_|refine cf hc ?_|refine cf hmi ?_|refine sop ?_
  refine ⟨.inl rfl, ?_⟩
  exact oG []
end Go.Proofs
open Go.V Go.Pu
set_option linter.unusedVariables false
set_option linter.unusedSimpArgs false
set_option maxRecDepth 20000
namespace Go.Proofs
def vc104 := vcm Tryz.prog 104
theorem vf104 : VF Tryz.prog 104 = some (28, vc104, []) := by kernel_rfl
def vc103 := vcm Tryz.prog 103
theorem vf103 : VF Tryz.prog 103 = some (4, vc103, [.tmp 2]) := by kernel_rfl
theorem xKn {α : Type} {enc : α → List PV} {n : Nat} {zs : List α} {i : Nat} {x : α} {k : Nat} (h : zs[i]? = some x) (hk : k = i) : (blkV n (zs.map enc)).els[k]? = some (enc x) := by
  show (zs.map enc)[k]? = _
  rw [hk, List.getElem?_map, h]; rfl
def RevP {α : Type} (xs ys : List α) (i : Nat) : Prop := ys.length = xs.length ∧ ∀ k, ys[k]? = if k < i ∨ xs.length ≤ k + i then xs.reverse[k]? else xs[k]?
theorem xNT {α : Type} {xs ys : List α} {i : Nat} (h : RevP xs ys i) (hi : xs.length ≤ 2 * i + 1) : ys = xs.reverse := by
  apply List.ext_getElem?
  intro k
  rw [h.2]
  split
  · rfl
  · rename_i hk
    have hk' : k = i ∧ xs.length = 2 * i + 1 := by omega
    rw [List.getElem?_reverse (by omega)]
    congr 1
    omega
theorem xNS {α : Type} {xs ys : List α} {i : Nat} {x y : α} (h : RevP xs ys i) (hi : 2 * i + 1 < xs.length) (hx : ys[i]? = some x) (hy : ys[xs.length - 1 - i]? = some y) : RevP xs ((ys.set i y).set (xs.length - 1 - i) x) (i + 1) := by
  have hl := h.1
  refine ⟨by simpa using hl, fun k => ?_⟩
  have hx2 := h.2 i
  rw [hx, if_neg (by omega)] at hx2
  have hy2 := h.2 (xs.length - 1 - i)
  rw [hy, if_neg (by omega)] at hy2
  rw [List.getElem?_set, List.length_set, List.getElem?_set]
  by_cases h1 : xs.length - 1 - i = k
  · rw [if_pos h1, if_pos (by omega), if_pos (by omega), hx2, List.getElem?_reverse (by omega)]
    congr 1
    omega
  · rw [if_neg h1]
    by_cases h2 : i = k
    · rw [if_pos h2, if_pos (by omega), if_pos (by omega), hy2, List.getElem?_reverse (by omega)]
      congr 1
      omega
    · rw [if_neg h2, h.2 k]
      by_cases h3 : k < i ∨ xs.length ≤ k + i
      · rw [if_pos h3, if_pos (by omega)]
      · rw [if_neg h3, if_neg (by omega)]
set_option maxHeartbeats 2000000 in
theorem rev_vc {xs : List MsgL} {N : Nat} (hN : N = xs.length) (hl : xs.length ≤ 60000) : VC Tryz.prog 104 [.own ⟨0, 0⟩ N 0 N] [blkV 8 (xs.map encM)] (.tup []) [blkV 8 (xs.reverse.map encM)] := by
  refine xBV vf104 ?_ (Nat.le_of_ble_eq_true rfl) (by intro vs h; cases h; simp)
  repeat first|refine sgo ?_|refine sop ?_
  refine xAE (fun (g : Nat × List MsgL) => [(0, .own ⟨0, 0⟩ N 0 N), (2, .int .i64 g.1), (3, .int .i64 ((N : Int) - 1 - (g.1 : Int)))])
    (fun g => [(⟨0, 0⟩, blkV 8 (g.2.map encM))]) (fun g => xs.length - g.1) (fun g => 2 * g.1 ≤ xs.length + 1 ∧ RevP xs g.2 g.1) (0, xs)
    (goes (h1 := by refine ⟨rfl, rfl, ?_, trivial⟩; exact congrArg (fun z => some (PV.int .i64 z)) (by simp))) ⟨by simp only; omega, rfl, fun k => ?_⟩ ?_
  · simp only [Nat.not_lt_zero, Nat.add_zero, false_or]
    split
    · rename_i hk
      rw [List.getElem?_eq_none (by omega), List.getElem?_eq_none (by simp; omega)]
    · rfl
  rintro ⟨i, ys⟩ ⟨hi, hr⟩
  dsimp only at hi hr ⊢
  have hyl := hr.1
  by_cases hA : 2 * i + 1 < xs.length
  · have hd : decide ((i : Int) < (N : Int) - 1 - (i : Int)) = true := decide_eq_true (by omega)
    obtain ⟨x, hx⟩ : ∃ x, ys[i]? = some x := ⟨_, List.getElem?_eq_getElem (by omega)⟩
    obtain ⟨y, hy⟩ : ∃ y, ys[xs.length - 1 - i]? = some y := ⟨_, List.getElem?_eq_getElem (by omega)⟩
    have hx' := xKn (enc := encM) (n := 8) (k := 0 + (i : Int).toNat) hx (by omega)
    have hy' := xKn (enc := encM) (n := 8) (k := 0 + ((N : Int) - 1 - (i : Int)).toNat) hy (by omega)
    have hk1 : 0 + (i : Int).toNat = i := by omega
    have hk2 : 0 + ((N : Int) - 1 - (i : Int)).toNat = xs.length - 1 - i := by omega
    have hst := xNS hr hA hx hy
    repeat first|refine sgo ?_|refine sop ?_
    refine cndt (xAB ?_)
    refine xAb (xA0 (rg ?_))
    repeat first|refine xAP ?_|refine xAJ ?_|refine o_v (vst encM y) ?_|refine o_v (vst encM x) ?_|refine sop ?_
    refine nl ?_
    rw [hk1, hk2]
    generalize (ys.set i y).set (xs.length - 1 - i) x = zs at hst
    repeat first|refine sgo ?_|refine sop ?_
    exact agn (Q := fun _ _ => True) (i + 1, zs) ⟨by simp only; omega, hst⟩ (xAi (h1 := by refine ⟨rfl, rfl, ?_, trivial⟩; exact congrArg (fun z => some (PV.int .i64 z)) (by simp only; omega)))
  · have hd : decide ((i : Int) < (N : Int) - 1 - (i : Int)) = false := decide_eq_false (by omega)
    have := xNT hr (by omega)
    subst this
    repeat first|refine sgo ?_|refine sop ?_
    refine cndf (xAD ?_)
    exact ⟨.inl rfl, oL1 rfl⟩
theorem xTm {l : List MsgL} : VC Tryz.prog 103 [.sh false (l.map encM)] [] (.fn 143 [.ptr ⟨0, 0⟩ 1 0 0]) [⟨true, false, 1, [[.sh false (l.map encM)]]⟩] := by
  refine vcs vf103 ?_
  repeat first|refine sgo ?_|refine sop ?_
  refine xAC ⟨.inr rfl, ?_⟩
  exact oG [⟨1, 0⟩] (v' := .fn 143 [.ptr ⟨0, 0⟩ 1 0 0]) (hout' := [⟨true, false, 1, [[.sh false (l.map encM)]]⟩])
end Go.Proofs
open Go.V Go.Pu
set_option linter.unusedVariables false
set_option linter.unusedSimpArgs false
set_option maxRecDepth 20000
namespace Go.Proofs
def vc80 := vcm Tryz.prog 80
theorem vf80 : VF Tryz.prog 80 = some (42, vc80, [.tmp 4, .tmp 5]) := by kernel_rfl
def vc143 := vcm Tryz.prog 143
theorem vf143 : VF Tryz.prog 143 = some (19, vc143, []) := by kernel_rfl
abbrev LT0 : Tmps := [(6, .ptr ⟨0, 1000⟩ 1 0 0), (7, .ptr ⟨0, 1001⟩ 1 0 0), (8, .ptr ⟨0, 1002⟩ 1 0 0), (9, .ptr ⟨0, 1003⟩ 1 0 0), (21, .fn 143 [.ptr ⟨0, 1004⟩ 1 0 0])]
abbrev LH (l : List MsgL) (d : List SpanL) (o : List MsgL) : Heap := [(⟨0, 1000⟩, bxD d), (⟨0, 1001⟩, ⟨true, false, 1, [[.fn 1000101 [.ptr ⟨0, 1000⟩ 1 0 0]]]⟩), (⟨0, 1002⟩, ⟨true, false, 1, [[.fn 1000102 [.ptr ⟨0, 1000⟩ 1 0 0]]]⟩),
  (⟨0, 1003⟩, ⟨true, false, 1, [[ownV ⟨1, 7⟩ (o.map encM)]]⟩), (⟨1, 7⟩, blkV 8 (o.map encM)), (⟨0, 1004⟩, ⟨true, false, 1, [[.sh false (l.map encM)]]⟩)]
theorem l_live {hf : HF} {a : Bid} {o : List MsgL} {d : List SpanL} (ha : hf a = some (blkV 8 (o.map encM))) : xBe hf [] [ownV a (o.map encM), .sh false (d.map encS)] = some ([a], [.sh false (o.map encM), .sh false (d.map encS)]) := by
  have h1 : xCZ hf [] (ownV a (o.map encM)) = some ([a], .sh false (o.map encM)) := xAZ ha rfl
  have h2 : xCZ hf [] (.sh false (d.map encS)) = some ([], .sh false (d.map encS)) := xAA rfl
  rw [xBe, xBe, h1, h2]
  rfl
theorem xLn {l : List MsgL} {i : Nat} {m : MsgL} (h : l[i]? = some m) : (l.take (i + 1)).reverse = m :: (l.take i).reverse := by
  rw [List.take_add_one, h]
  simp
set_option maxHeartbeats 8000000 in
theorem xVl {l : List MsgL} {q : PV} {dead : List SpanL} (hq : Sl q (dead.map encS)) (hl : l.length ≤ 6200) (hm : ∀ m ∈ l, MsgSz m) (hd : dead.length ≤ 50) :
    VC Tryz.prog 80 [.sh false (l.map encM), q] [] (.tup [.sh false ((xDl l dead).1.map encM), .sh false ((xDl l dead).2.map encS)]) [] := by
  have hno := xCm (xMm (q := q) (xs := dead) hq (by omega))
  have hnl := xDE dead
  have hcl := hq.closed
  have hml : (l.map encM).length = l.length := List.length_map _
  refine xPK (hout := [blkV 8 ((xDl l dead).1.map encM)]) (vs := [ownV ⟨0, 0⟩ ((xDl l dead).1.map encM), .sh false ((xDl l dead).2.map encS)]) ?_ (l_live rfl) (by simp) (by simp)
  refine xBV vf80 ?_ (Nat.le_of_ble_eq_true rfl) (by intro vs h; cases h; simp)
  --fns 12 61
  refine xAb (rg ?_)
  repeat first|refine xAP ?_|refine sop ?_
  refine nl ?_
  refine xAb (rg ?_)
  repeat first|refine xAP ?_|refine cf hno ?_|refine sop ?_
  refine nl ?_
  refine xAb (rg ?_)
  repeat first|refine xAP ?_|refine sop ?_
  refine nl ?_
  refine xAb (rg ?_)
  repeat first|refine xAP ?_|refine sop ?_
  refine nl ?_
  refine xCC (lvl := 1) (fun _ => LT0) (fun (_ : Unit) => LH l (xDl l dead).2 ((xBy l.reverse (xAS dead)))) (fun _ => True) ?_ ?_
  · repeat first|refine sgo ?_|refine cf (xTm (l := l)) ?_|refine sop ?_
    refine rng (f := 143) (lvlI := 2) (T := LT0) (H := LH l (xAS dead) [])
      ((((((Imp.nilH (b := ⟨1, 7⟩) (b1 := ⟨1, 24576⟩) (esz := 8) rfl rfl (by decide)).trans (Imp.ren' (b := ⟨1, 8216⟩) (c := ⟨0, 1000⟩) (by decide) (.inr rfl))).trans (Imp.ren' (b := ⟨1, 16416⟩) (c := ⟨0, 1001⟩) (by decide) (.inr rfl))).trans
        (Imp.ren' (b := ⟨1, 16424⟩) (c := ⟨0, 1002⟩) (by decide) (.inr rfl))).trans (Imp.ren' (b := ⟨1, 24576⟩) (c := ⟨0, 1003⟩) (by decide) (.inr rfl))).trans (Imp.ren' (b := ⟨1, 32776⟩) (c := ⟨0, 1004⟩) (by decide) (.inr rfl)) |>.trans xAi) vf143 ?_
    intro y
    refine xCX (xCv ?_)
    repeat first|refine sgo ?_|refine sop ?_
    refine xDf ?_
    refine xHf (fun (g : Nat × List SpanL × List MsgL) => [(0, .yld y), (1, .ptr ⟨0, 1004⟩ 1 0 0), (3, .int .i64 ((g.1 : Int) - 1))]) (fun g => LH l g.2.1 g.2.2) (fun g => g.1)
      (fun g => g.1 ≤ l.length ∧ g.2.2 ++ xBy (l.take g.1).reverse g.2.1 = xBy l.reverse (xAS dead) ∧ xIr (l.take g.1).reverse g.2.1 = (xDl l dead).2 ∧ g.2.1.length + 3 * g.1 ≤ 18700 ∧ g.2.2.length + g.1 ≤ 6200)
      (l.length, xAS dead, []) (xAi (h1 := by refine ⟨rfl, rfl, ?_, trivial⟩; exact congrArg (fun z => some (PV.int .i64 z)) (by simp))) ⟨Nat.le_refl _, by simp only [List.take_length, List.nil_append], by simp only [List.take_length]; rfl, by simp only; omega, by simp only [List.length_nil]; omega⟩ ?_
    rintro ⟨i, d, o⟩ ⟨hi, hv, hdd, hdl, hol⟩
    dsimp only at hi hv hdd hdl hol ⊢
    refine xCX (xCv ?_)
    repeat first|refine sgo ?_|refine sop ?_
    refine cnd (fun h => xAB ?_) (fun h => xAD ?_)
    · obtain ⟨j, rfl⟩ : ∃ j, i = j + 1 := ⟨i - 1, by have h' := of_decide_eq_true h; omega⟩
      obtain ⟨m, hx⟩ : ∃ m, l[j]? = some m := ⟨_, List.getElem?_eq_getElem (by omega)⟩
      have hxe := gm (enc := encM) (n := ((j + 1 : Nat) : Int) - 1) hx (by omega)
      have hlt2 : ((j + 1 : Nat) : Int) - 1 < ((l.map encM).length : Nat) := by omega
      have hge2 : 0 ≤ ((j + 1 : Nat) : Int) - 1 := by omega
      have hmz := hm m (List.mem_of_getElem? hx)
      rw [xLn hx] at hv hdd
      refine xCX (xDf (xCX (xGQ (xHQ 6 ?_))))
      repeat first|refine sgo ?_|refine sop ?_
      refine yl (T := [(0, .yld y), (1, .ptr ⟨0, 1004⟩ 1 0 0), (3, .int .i64 (((j + 1 : Nat) : Int) - 1)), (11, .yld y), (12, .int .i64 (((j + 1 : Nat) : Int) - 1)), (16, .agg (encM m))]) (H := LH l d o) 3 xAi ?_
      repeat first|refine sgo ?_|refine sop ?_
      refine ⟨rfl, ?_⟩
      have hco := xRZ hmz (d := d) (by omega)
      have hpa := xVJ hmz (d := d) (by omega)
      have hnl := xQb m d
      rw [xBy] at hv
      rw [xIr] at hdd
      cases hc : covL m d with
      | true =>
        rw [hc] at hco
        rw [if_pos hc] at hv hdd
        repeat first|refine sgo ?_|refine cl (lent := [⟨0, 1000⟩]) hco (ht := Targ.bd (f' := 1000101) rfl rfl) ?_|refine sop ?_
        refine cndf (xAB ?_)
        refine xFX ?_
        repeat first|refine sgo ?_|refine sop ?_
        refine xEu (xCv (xAB ?_))
        refine xCv ?_
        repeat first|refine sgo ?_|refine sop ?_
        exact agL (j, d, o) ⟨by simp only; omega, hv, hdd, by simp only; omega, by simp only; omega⟩ (xAi (h1 := by refine ⟨rfl, rfl, ?_, trivial⟩; exact congrArg (fun z => some (PV.int .i64 z)) (by simp only; omega)))
      | false =>
        rw [hc] at hco
        rw [if_neg (by rw [hc]; simp)] at hv hdd
        repeat first|refine sgo ?_|refine cl (lent := [⟨0, 1000⟩]) hco (ht := Targ.bd (f' := 1000101) rfl rfl) ?_|refine sop ?_
        refine cndt ?_
        repeat first|refine sgo ?_|refine o_v (vap encM m) ?_|refine cl (lent := [⟨0, 1000⟩]) hpa (ht := Targ.bd (f' := 1000102) rfl rfl) ?_|refine sop ?_
        refine xFX ?_
        repeat first|refine sgo ?_|refine sop ?_
        refine xEu (xCv (xAB ?_))
        refine xCv ?_
        repeat first|refine sgo ?_|refine sop ?_
        exact agL (j, nxtL m d, o ++ [m]) ⟨by simp only; omega, by rw [← hv]; simp, hdd, by simp only; omega, by simp only [List.length_append, List.length_cons, List.length_nil]; omega⟩ (xAi (h1 := by refine ⟨rfl, rfl, ?_, trivial⟩; exact congrArg (fun z => some (PV.int .i64 z)) (by simp only; omega)))
    · have hi0 : i = 0 := by have h' := of_decide_eq_false h; omega
      subst hi0
      simp only [List.take_zero, List.reverse_nil, xBy, xIr, List.append_nil] at hv hdd
      rw [← hdd, ← hv]
      exact mid0 () trivial xAi
  · intro _ _
    have hrl : (xBy l.reverse (xAS dead)).length ≤ 6200 := by
      have := (xHZ l.reverse (xAS dead)).length_le
      rw [List.length_reverse] at this
      omega
    have hrv := rev_vc (xs := xBy l.reverse (xAS dead)) (N := ((xBy l.reverse (xAS dead)).map encM).length) (by simp) (by omega)
    repeat first|refine sgo ?_|refine cl (lent := [⟨1, 7⟩]) hrv ?_|refine sop ?_
    refine xAC ⟨.inr rfl, ?_⟩
    have hlr : ((xDl l dead).1.map encM).length = ((xBy l.reverse (xAS dead)).map encM).length := by simp [xDl]
    exact oG [⟨1, 7⟩] (v' := .tup [.own ⟨0, 0⟩ ((xBy l.reverse (xAS dead)).map encM).length 0 ((xBy l.reverse (xAS dead)).map encM).length, .sh false ((xDl l dead).2.map encS)]) (hv := by rw [← hlr])
end Go.Proofs
open Go.V Go.Pu
set_option linter.unusedVariables false
set_option linter.unusedSimpArgs false
set_option maxRecDepth 20000
namespace Go.Proofs
def vc44 := vcm Tryz.prog 44
theorem vf44 : VF Tryz.prog 44 = some (11, vc44, [.tmp 2]) := by kernel_rfl
theorem xP8 {l : List MsgL} (hl : l.length ≤ 6200) (hm : ∀ m ∈ l, MsgSz m) : VC Tryz.prog 44 [.sh false (l.map encM)] [] (.sh false ((xCF l).map encM)) [] := by
  have h := xVl (l := l) (q := .nils) (dead := []) (.inl ⟨rfl, rfl⟩) hl hm (by simp)
  refine vcs vf44 ?_
  repeat first|refine sgo ?_|refine cf h ?_|refine sop ?_
  exact xAC ⟨.inr rfl, oAny rfl⟩
end Go.Proofs
open Go.V Go.Pu
set_option linter.unusedVariables false
set_option linter.unusedSimpArgs false
set_option maxRecDepth 20000
namespace Go.Proofs
theorem veqM (a b : MsgL) {neg : Bool} {lvl site : Nat} {tf : TF} {hf : HF} {x y : VX} (hx : ev tf x = some (.agg (encM a)) := by rfl) (hy : ev tf y = some (.agg (encM b)) := by rfl) :
    vop lvl site tf hf (.eqc neg [1, 2, 2, 2, 2, 2, 2, 1] x y) = some ⟨.bool (if neg then !decide (a = b) else decide (a = b)), [], []⟩ := by
  obtain ⟨a1, a2, a3, ⟨a4, a5⟩, a6, a7, a8⟩ := a
  obtain ⟨b1, b2, b3, ⟨b4, b5⟩, b6, b7, b8⟩ := b
  have h : (a1 == b1 && (a2 == b2 && (a3 == b3 && (a4 == b4 && (a5 == b5 && (a6 == b6 && (a7 == b7 && a8 == b8))))))) = decide ((⟨a1, a2, a3, ⟨a4, a5⟩, a6, a7, a8⟩ : MsgL) = ⟨b1, b2, b3, ⟨b4, b5⟩, b6, b7, b8⟩) := by
    rw [Bool.eq_iff_iff]
    simp [and_assoc]
  rw [← h]
  simp [vop, hx, hy, xAv, xB3, retV]
end Go.Proofs
