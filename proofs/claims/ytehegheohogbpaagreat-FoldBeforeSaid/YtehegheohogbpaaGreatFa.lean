/- Fa -/
import Derived.Test.YtehegheohogbpaaGreatMa
import Derived.Test.YtehegheohogbpaaGreatPu
import Derived.Test.YtehegheohogbpaaGreatVD
open Go.V Go.Pu
set_option linter.unusedVariables false
set_option linter.unusedSimpArgs false
set_option maxRecDepth 20000
namespace Go.Proofs
def vc76 := vcm Tryz.prog 76
theorem vf76 : VF Tryz.prog 76 = some (27, vc76, [.tmp 4]) := by kernel_rfl
def vc58 := vcm Tryz.prog 58
theorem vf58 : VF Tryz.prog 58 = some (36, vc58, [.tmp 2]) := by kernel_rfl
def vc66 := vcm Tryz.prog 66
theorem vf66 : VF Tryz.prog 66 = some (27, vc66, [.tmp 4]) := by kernel_rfl
def vc38 := vcm Tryz.prog 38
theorem vf38 : VF Tryz.prog 38 = some (36, vc38, [.tmp 2]) := by kernel_rfl
abbrev xJP (l : List SpanL) : List PV := [.sh false (l.map encS)]
abbrev xJQ (l : List MsgL) : List PV := [.sh false (l.map encM)]
def zS : SpanL := ⟨[], []⟩
def xHz : SpanL := ⟨[], []⟩
theorem xOz : VC Tryz.prog 76 [.nils, .int .i64 0] [] .nils [] := by
  refine vcs vf76 ?_
  repeat first|refine sgo ?_|refine sop ?_
  refine cndf (xAB ?_)
  repeat first|refine sgo ?_|refine o_v0 xIl ?_|refine sop ?_
  refine cndf (xAB ?_)
  repeat first|refine sgo ?_|refine sop ?_
  exact xAC ⟨.inr rfl, oAny rfl⟩
theorem xQx {n : Nat} (h0 : 0 < n) (h1 : n ≤ 1000000) : VC Tryz.prog 76 [.nils, .int .i64 n] [] (.own ⟨0, 0⟩ n 0 0) [blkV 2 (List.replicate n (encS xHz))] := by
  refine vcs vf76 ?_
  have s1 : bin .sub (.int .i64 0) (.int .i64 (([] : List (List PV)).length : Int)) = some (.int .i64 0) := rfl
  have s2 : bin .sub (.int .i64 (n : Int)) (.int .i64 0) = some (.int .i64 (n : Int)) := by
    show some (PV.int .i64 (IntKind.i64.wrap ((n : Int) - 0))) = _
    rw [Int.sub_zero, xBv (by omega) (by omega)]
  repeat first|refine sgo ?_|refine sop ?_
  refine cndf (xAB ?_) rfl (decide_eq_false (by omega))
  repeat first|refine sgo ?_|refine o_v0 xIl ?_|refine xBR s1 ?_|refine xBR s2 ?_|refine sop ?_
  refine cndt ?_ rfl (decide_eq_true (by omega))
  repeat first|refine sgo ?_|refine o_v0 xIl ?_|refine o_v0 vsln ?_|refine o_v (xRx (n := n)) ?_|refine xFc (a := 0) (z := 0) ?_|refine sop ?_
  exact xAC ⟨.inr rfl, xI1 rfl rfl rfl (by decide)⟩
def totS (ls : List (List SpanL)) : Nat := (ls.map List.length).sum
theorem xJe (l : List SpanL) (ls : List (List SpanL)) : totS (l :: ls) = l.length + totS ls := by simp [totS]
theorem xNd (ls : List (List SpanL)) : ls.flatten.length = totS ls := by simp [totS, List.length_flatten]
set_option maxHeartbeats 1000000 in
theorem xNJ {q : PV} {ls : List (List SpanL)} (hq : Sl q (ls.map xJP)) (hl : ls.length ≤ 1000000) (ht : totS ls ≤ 1000000) : VC Tryz.prog 58 [q] [] (ownV ⟨0, 0⟩ (ls.flatten.map encS)) [blkV 2 (ls.flatten.map encS)] := by
  refine vcs vf58 ?_
  have hml : (ls.map xJP).length = ls.length := List.length_map ..
  have htf := xNd ls
  repeat first|refine sgo ?_|refine sop ?_
  refine xAF (fun (g : Nat × Nat) => [(0, q), (3, .int .i64 g.2), (9, q), (10, .int .i64 (ls.map xJP).length), (11, .int .i64 g.1)])
    (fun g => []) (fun g => ls.length - g.1)
    (fun g => g.1 ≤ ls.length ∧ g.2 + totS (ls.drop g.1) = totS ls) (0, 0) goes ⟨Nat.zero_le _, by simp⟩ ?_
  rintro ⟨i, n⟩ ⟨hi, hn⟩
  dsimp only at hi hn ⊢
  repeat first|refine sgo ?_|refine sop ?_
  refine cnd (fun h => xAB ?_) (fun h => xAE ?_)
  · have hlt : i < ls.length := by have h' := of_decide_eq_true h; omega
    obtain ⟨l, hl⟩ : ∃ x, ls[i]? = some x := ⟨_, List.getElem?_eq_getElem hlt⟩
    have hle := gm (enc := xJP) (n := (i : Int)) hl (by omega)
    rw [xAn hl, xJe] at hn
    have hll : (l.map encS).length = l.length := List.length_map ..
    repeat first|refine sgo ?_|refine sop ?_
    refine cndf (xAB ?_) rfl (decide_eq_false (by omega))
    repeat first|refine sgo ?_|refine sop ?_
    exact agn (i + 1, n + l.length) ⟨by simp only; omega, by simp only; omega⟩ (goes (h1 := by
      refine ⟨rfl, ?_, rfl, rfl, rfl, trivial⟩
      exact congrArg (fun z => some (PV.int .i64 z)) (by simp only [hll]; omega)))
  have hge : i = ls.length := by have h' := of_decide_eq_false h; omega
  subst hge
  have hn2 : n = totS ls := by rw [List.drop_length] at hn; simpa [totS] using hn
  subst hn2
  clear hn h
  rcases Nat.eq_zero_or_pos (totS ls) with h0 | hpos
  · have hall : ∀ (m : List (List SpanL)), totS m = 0 → ∀ l ∈ m, l = [] := by
      intro m
      induction m with
      | nil => intro _ l hl; cases hl
      | cons x m ih =>
        intro h l hl
        rw [xJe] at h
        rcases List.mem_cons.1 hl with rfl | hl
        · exact List.length_eq_zero_iff.1 (by omega)
        · exact ih (by omega) l hl
    have hfl : ls.flatten = [] := List.length_eq_zero_iff.1 (by omega)
    rw [hfl, h0]
    repeat first|refine sgo ?_|refine cv0 xOz ?_|refine sop ?_
    refine xAF (fun (g : Nat) => [(6, ownV ⟨1, 106512⟩ (([] : List SpanL).map encS)), (25, q), (26, .int .i64 (ls.map xJP).length), (27, .int .i64 g)])
      (fun g => [(⟨1, 106512⟩, blkV 2 (([] : List SpanL).map encS))]) (fun g => ls.length - g)
      (fun g => g ≤ ls.length) 0 ((Imp.nil (t := 6) (b := ⟨1, 106512⟩) (esz := 2) rfl rfl (by decide)).trans goes) (Nat.zero_le _) ?_
    intro i hi
    (try dsimp only)
    repeat first|refine sgo ?_|refine sop ?_
    refine cnd (fun h => xAB ?_) (fun h => xAE ?_)
    · have hlt : i < ls.length := by have h' := of_decide_eq_true h; omega
      obtain ⟨l, hl⟩ : ∃ x, ls[i]? = some x := ⟨_, List.getElem?_eq_getElem hlt⟩
      have hle := gm (enc := xJP) (n := (i : Int)) hl (by omega)
      have hl0 := hall ls h0 l (List.mem_of_getElem? hl)
      subst hl0
      repeat first|refine sgo ?_|refine o_v (vaps encS [] []) ?_|refine sop ?_
      exact agn (i + 1) (by omega) goes
    · repeat first|refine sgo ?_|refine sop ?_
      exact xAC ⟨.inr rfl, oOwn rfl⟩
  · have hrep : List.replicate (totS ls) (encS xHz) = (List.replicate (totS ls) xHz).map encS := by rw [List.map_replicate]
    have hg := xQx hpos ht
    rw [hrep] at hg
    generalize totS ls = N at *
    have hcl : (blkV 2 ((List.replicate N xHz).map encS)).frz = false ∧ ∀ e ∈ (blkV 2 ((List.replicate N xHz).map encS)).els, ∀ c ∈ e, cS c = true := ⟨rfl, by intro e he; obtain ⟨a, _, rfl⟩ := List.mem_map.1 he; simp [cS, cN, clean]⟩
    repeat first|refine sgo ?_|refine cv hg ?_|refine sop ?_
    refine xAF (fun (g : Nat × List SpanL) => [(6, .own ⟨1, 73736⟩ N 0 g.2.length), (25, q), (26, .int .i64 (ls.map xJP).length), (27, .int .i64 g.1)])
      (fun g => [(⟨1, 73736⟩, blkV 2 ((g.2 ++ List.replicate (N - g.2.length) xHz).map encS))]) (fun g => ls.length - g.1)
      (fun g => g.1 ≤ ls.length ∧ g.2 ++ (ls.drop g.1).flatten = ls.flatten) (0, []) goes ⟨Nat.zero_le _, rfl⟩ ?_
    rintro ⟨i, o⟩ ⟨hi, hv⟩
    dsimp only at hi hv ⊢
    have hol := congrArg List.length hv
    rw [List.length_append, htf] at hol
    repeat first|refine sgo ?_|refine sop ?_
    refine cnd (fun h => xAB ?_) (fun h => xAE ?_)
    · have hlt : i < ls.length := by have h' := of_decide_eq_true h; omega
      obtain ⟨l, hl⟩ : ∃ x, ls[i]? = some x := ⟨_, List.getElem?_eq_getElem hlt⟩
      have hle := gm (enc := xJP) (n := (i : Int)) hl (by omega)
      rw [xAn hl, List.flatten_cons] at hv hol
      rw [List.length_append] at hol
      have e1 : o ++ l ++ (List.replicate (N - o.length) xHz).drop l.length = (o ++ l) ++ List.replicate (N - (o ++ l).length) xHz := by
        rw [List.drop_replicate, List.length_append]; congr 2; omega
      have hrl : (List.replicate (N - o.length) xHz).length = N - o.length := List.length_replicate ..
      have e2 : o.length + l.length = (o ++ l).length := List.length_append.symm
      repeat first|refine sgo ?_|refine o_v (xRy encS o l (List.replicate (N - o.length) xHz) e1 e2) ?_|refine sop ?_
      refine agn (i + 1, o ++ l) ⟨by simp only; omega, by rw [← hv]; simp⟩ goes
    · have hge : i = ls.length := by have h' := of_decide_eq_false h; omega
      subst hge
      rw [List.drop_length] at hv hol
      rw [List.flatten_nil, List.append_nil] at hv
      rw [List.flatten_nil, List.length_nil] at hol
      subst hv
      simp only [htf, Nat.sub_self, List.replicate_zero, List.append_nil]
      repeat first|refine sgo ?_|refine sop ?_
      exact xAC ⟨.inr rfl, oOwn rfl⟩
def xH0 : MsgL := ⟨0, [], [], ⟨[], []⟩, [], [], 0⟩
theorem xO0 : VC Tryz.prog 66 [.nils, .int .i64 0] [] .nils [] := by
  refine vcs vf66 ?_
  repeat first|refine sgo ?_|refine sop ?_
  refine cndf (xAB ?_)
  repeat first|refine sgo ?_|refine o_v0 xIl ?_|refine sop ?_
  refine cndf (xAB ?_)
  repeat first|refine sgo ?_|refine sop ?_
  exact xAC ⟨.inr rfl, oAny rfl⟩
theorem xQy {n : Nat} (h0 : 0 < n) (h1 : n ≤ 1000000) : VC Tryz.prog 66 [.nils, .int .i64 n] [] (.own ⟨0, 0⟩ n 0 0) [blkV 8 (List.replicate n (encM xH0))] := by
  refine vcs vf66 ?_
  have s1 : bin .sub (.int .i64 0) (.int .i64 (([] : List (List PV)).length : Int)) = some (.int .i64 0) := rfl
  have s2 : bin .sub (.int .i64 (n : Int)) (.int .i64 0) = some (.int .i64 (n : Int)) := by
    show some (PV.int .i64 (IntKind.i64.wrap ((n : Int) - 0))) = _
    rw [Int.sub_zero, xBv (by omega) (by omega)]
  repeat first|refine sgo ?_|refine sop ?_
  refine cndf (xAB ?_) rfl (decide_eq_false (by omega))
  repeat first|refine sgo ?_|refine o_v0 xIl ?_|refine xBR s1 ?_|refine xBR s2 ?_|refine sop ?_
  refine cndt ?_ rfl (decide_eq_true (by omega))
  repeat first|refine sgo ?_|refine o_v0 xIl ?_|refine o_v0 vsln ?_|refine o_v (xRx (n := n)) ?_|refine xFc (a := 0) (z := 0) ?_|refine sop ?_
  exact xAC ⟨.inr rfl, xI1 rfl rfl rfl (by decide)⟩
def totM (ls : List (List MsgL)) : Nat := (ls.map List.length).sum
theorem xJf (l : List MsgL) (ls : List (List MsgL)) : totM (l :: ls) = l.length + totM ls := by simp [totM]
theorem xNe (ls : List (List MsgL)) : ls.flatten.length = totM ls := by simp [totM, List.length_flatten]
set_option maxHeartbeats 1000000 in
theorem xNK {q : PV} {ls : List (List MsgL)} (hq : Sl q (ls.map xJQ)) (hl : ls.length ≤ 1000000) (ht : totM ls ≤ 1000000) : VC Tryz.prog 38 [q] [] (ownV ⟨0, 0⟩ (ls.flatten.map encM)) [blkV 8 (ls.flatten.map encM)] := by
  refine vcs vf38 ?_
  have hml : (ls.map xJQ).length = ls.length := List.length_map ..
  have htf := xNe ls
  repeat first|refine sgo ?_|refine sop ?_
  refine xAF (fun (g : Nat × Nat) => [(0, q), (3, .int .i64 g.2), (9, q), (10, .int .i64 (ls.map xJQ).length), (11, .int .i64 g.1)])
    (fun g => []) (fun g => ls.length - g.1)
    (fun g => g.1 ≤ ls.length ∧ g.2 + totM (ls.drop g.1) = totM ls) (0, 0) goes ⟨Nat.zero_le _, by simp⟩ ?_
  rintro ⟨i, n⟩ ⟨hi, hn⟩
  dsimp only at hi hn ⊢
  repeat first|refine sgo ?_|refine sop ?_
  refine cnd (fun h => xAB ?_) (fun h => xAE ?_)
  · have hlt : i < ls.length := by have h' := of_decide_eq_true h; omega
    obtain ⟨l, hl⟩ : ∃ x, ls[i]? = some x := ⟨_, List.getElem?_eq_getElem hlt⟩
    have hle := gm (enc := xJQ) (n := (i : Int)) hl (by omega)
    rw [xAn hl, xJf] at hn
    have hll : (l.map encM).length = l.length := List.length_map ..
    repeat first|refine sgo ?_|refine sop ?_
    refine cndf (xAB ?_) rfl (decide_eq_false (by omega))
    repeat first|refine sgo ?_|refine sop ?_
    exact agn (i + 1, n + l.length) ⟨by simp only; omega, by simp only; omega⟩ (goes (h1 := by
      refine ⟨rfl, ?_, rfl, rfl, rfl, trivial⟩
      exact congrArg (fun z => some (PV.int .i64 z)) (by simp only [hll]; omega)))
  have hge : i = ls.length := by have h' := of_decide_eq_false h; omega
  subst hge
  have hn2 : n = totM ls := by rw [List.drop_length] at hn; simpa [totM] using hn
  subst hn2
  clear hn h
  rcases Nat.eq_zero_or_pos (totM ls) with h0 | hpos
  · have hall : ∀ (m : List (List MsgL)), totM m = 0 → ∀ l ∈ m, l = [] := by
      intro m
      induction m with
      | nil => intro _ l hl; cases hl
      | cons x m ih =>
        intro h l hl
        rw [xJf] at h
        rcases List.mem_cons.1 hl with rfl | hl
        · exact List.length_eq_zero_iff.1 (by omega)
        · exact ih (by omega) l hl
    have hfl : ls.flatten = [] := List.length_eq_zero_iff.1 (by omega)
    rw [hfl, h0]
    repeat first|refine sgo ?_|refine cv0 xO0 ?_|refine sop ?_
    refine xAF (fun (g : Nat) => [(6, ownV ⟨1, 106512⟩ (([] : List MsgL).map encM)), (25, q), (26, .int .i64 (ls.map xJQ).length), (27, .int .i64 g)])
      (fun g => [(⟨1, 106512⟩, blkV 8 (([] : List MsgL).map encM))]) (fun g => ls.length - g)
      (fun g => g ≤ ls.length) 0 ((Imp.nil (t := 6) (b := ⟨1, 106512⟩) (esz := 8) rfl rfl (by decide)).trans goes) (Nat.zero_le _) ?_
    intro i hi
    (try dsimp only)
    repeat first|refine sgo ?_|refine sop ?_
    refine cnd (fun h => xAB ?_) (fun h => xAE ?_)
    · have hlt : i < ls.length := by have h' := of_decide_eq_true h; omega
      obtain ⟨l, hl⟩ : ∃ x, ls[i]? = some x := ⟨_, List.getElem?_eq_getElem hlt⟩
      have hle := gm (enc := xJQ) (n := (i : Int)) hl (by omega)
      have hl0 := hall ls h0 l (List.mem_of_getElem? hl)
      subst hl0
      repeat first|refine sgo ?_|refine o_v (vaps encM [] []) ?_|refine sop ?_
      exact agn (i + 1) (by omega) goes
    · repeat first|refine sgo ?_|refine sop ?_
      exact xAC ⟨.inr rfl, oOwn rfl⟩
  · have hrep : List.replicate (totM ls) (encM xH0) = (List.replicate (totM ls) xH0).map encM := by rw [List.map_replicate]
    have hg := xQy hpos ht
    rw [hrep] at hg
    generalize totM ls = N at *
    have hcl : (blkV 8 ((List.replicate N xH0).map encM)).frz = false ∧ ∀ e ∈ (blkV 8 ((List.replicate N xH0).map encM)).els, ∀ c ∈ e, cS c = true := ⟨rfl, by intro e he; obtain ⟨a, _, rfl⟩ := List.mem_map.1 he; simp [cS, cN, clean]⟩
    repeat first|refine sgo ?_|refine cv hg ?_|refine sop ?_
    refine xAF (fun (g : Nat × List MsgL) => [(6, .own ⟨1, 73736⟩ N 0 g.2.length), (25, q), (26, .int .i64 (ls.map xJQ).length), (27, .int .i64 g.1)])
      (fun g => [(⟨1, 73736⟩, blkV 8 ((g.2 ++ List.replicate (N - g.2.length) xH0).map encM))]) (fun g => ls.length - g.1)
      (fun g => g.1 ≤ ls.length ∧ g.2 ++ (ls.drop g.1).flatten = ls.flatten) (0, []) goes ⟨Nat.zero_le _, rfl⟩ ?_
    rintro ⟨i, o⟩ ⟨hi, hv⟩
    dsimp only at hi hv ⊢
    have hol := congrArg List.length hv
    rw [List.length_append, htf] at hol
    repeat first|refine sgo ?_|refine sop ?_
    refine cnd (fun h => xAB ?_) (fun h => xAE ?_)
    · have hlt : i < ls.length := by have h' := of_decide_eq_true h; omega
      obtain ⟨l, hl⟩ : ∃ x, ls[i]? = some x := ⟨_, List.getElem?_eq_getElem hlt⟩
      have hle := gm (enc := xJQ) (n := (i : Int)) hl (by omega)
      rw [xAn hl, List.flatten_cons] at hv hol
      rw [List.length_append] at hol
      have e1 : o ++ l ++ (List.replicate (N - o.length) xH0).drop l.length = (o ++ l) ++ List.replicate (N - (o ++ l).length) xH0 := by
        rw [List.drop_replicate, List.length_append]; congr 2; omega
      have hrl : (List.replicate (N - o.length) xH0).length = N - o.length := List.length_replicate ..
      have e2 : o.length + l.length = (o ++ l).length := List.length_append.symm
      repeat first|refine sgo ?_|refine o_v (xRy encM o l (List.replicate (N - o.length) xH0) e1 e2) ?_|refine sop ?_
      refine agn (i + 1, o ++ l) ⟨by simp only; omega, by rw [← hv]; simp⟩ goes
    · have hge : i = ls.length := by have h' := of_decide_eq_false h; omega
      subst hge
      rw [List.drop_length] at hv hol
      rw [List.flatten_nil, List.append_nil] at hv
      rw [List.flatten_nil, List.length_nil] at hol
      subst hv
      simp only [htf, Nat.sub_self, List.replicate_zero, List.append_nil]
      repeat first|refine sgo ?_|refine sop ?_
      exact xAC ⟨.inr rfl, oOwn rfl⟩
end Go.Proofs
open Go.V Go.Pu
set_option linter.unusedVariables false
set_option linter.unusedSimpArgs false
set_option maxRecDepth 20000
namespace Go.Proofs
def vc30 := vcm Tryz.prog 30
theorem vf30 : VF Tryz.prog 30 = some (14, vc30, [.tmp 4]) := by kernel_rfl
def vc31 := vcm Tryz.prog 31
theorem vf31 : VF Tryz.prog 31 = some (18, vc31, []) := by kernel_rfl
abbrev bxD (d : List SpanL) : Blk := ⟨true, false, 1, [[.sh false (d.map encS)]]⟩
theorem xRa {q p : PV} {l m : List SpanL} (hq : Sl q (l.map encS)) (hp : Sl p (m.map encS)) (hl : l.length ≤ 200) (hm : m.length ≤ 200) : VC Tryz.prog 56 [q, p] [] (.sh false ((xBT l m).map encS)) [] := xCJ (xQW hq hp hl hm)
theorem xPH {m : MsgL} (hm : MsgSz m) {d : List SpanL} (hd : d.length ≤ 200) : VC Tryz.prog 30 [.ptr ⟨0, 0⟩ 1 0 0, .agg (encM m)] [bxD d] (.bool (covL m d)) [bxD d] := by
  have hw := xJY hm
  have hmi := xRa (q := .sh false ((xAR m).map encS)) (p := .sh false (d.map encS)) Sl.sh Sl.sh (by have := xDF m; omega) hd
  have e : covL m d = ((((xBT (xAR m) d).map encS).length : Int) == 0) := by
    unfold covL
    rw [List.length_map, Bool.eq_iff_iff]
    simp
  rw [e]
  refine vcs vf30 ?_
  repeat first|refine sgo ?_|refine cf hw ?_|refine cf hmi ?_|refine sop ?_
  refine xAC ⟨.inr rfl, ?_⟩
  exact oG []
theorem xSb {m : MsgL} (hm : MsgSz m) {d : List SpanL} (hd : d.length ≤ 190) : VC Tryz.prog 31 [.ptr ⟨0, 0⟩ 1 0 0, .agg (encM m)] [bxD d] (.tup []) [bxD (nxtL m d)] := by
  have hk := xQp hm
  have hr := xQC hm
  have hkl := xHJ m
  have hrl := xGu m
  have hc := xCJ (xNJ (q := .sh false ([d, xA2 m].map xJP)) (ls := [d, xA2 m]) Sl.sh (by simp) (by simp [totS]; omega))
  have e : ([d, xA2 m].flatten : List SpanL) = d ++ xA2 m := by simp
  rw [e] at hc
  have hmi := xRa (q := .sh false ((d ++ xA2 m).map encS)) (p := .sh false ((xCN m).map encS)) Sl.sh Sl.sh (by rw [List.length_append]; omega) (by omega)
  refine xCz vf31 ?_ (Nat.le_of_ble_eq_true rfl) (by intro vs h; cases h; simp)
  repeat first|refine sgo ?_|refine cf hk ?_|refine cf hr ?_|refine cf hc ?_|refine cf hmi ?_|refine sop ?_
  refine ⟨.inl rfl, ?_⟩
  exact oG []
end Go.Proofs
open Go.V Go.Pu
set_option linter.unusedVariables false
set_option linter.unusedSimpArgs false
set_option maxRecDepth 20000
namespace Go.Proofs
def vc33 := vcm Tryz.prog 33
theorem vf33 : VF Tryz.prog 33 = some (28, vc33, []) := by kernel_rfl
def vc32 := vcm Tryz.prog 32
theorem vf32 : VF Tryz.prog 32 = some (4, vc32, [.tmp 2]) := by kernel_rfl
theorem xO7 {zs : List MsgL} {i : Nat} {x : MsgL} {k : Nat} (h : zs[i]? = some x) (hk : k = i) : (blkV 8 (zs.map encM)).els[k]? = some (encM x) := by
  show (zs.map encM)[k]? = _
  rw [hk, List.getElem?_map, h]; rfl
def RevP (xs ys : List MsgL) (i : Nat) : Prop := ys.length = xs.length ∧ ∀ k, ys[k]? = if k < i ∨ xs.length ≤ k + i then xs.reverse[k]? else xs[k]?
theorem xP9 {xs ys : List MsgL} {i : Nat} (h : RevP xs ys i) (hi : xs.length ≤ 2 * i + 1) : ys = xs.reverse := by
  apply List.ext_getElem?
  intro k
  rw [h.2]
  split
  · rfl
  · rename_i hk
    have hk' : k = i ∧ xs.length = 2 * i + 1 := by omega
    rw [List.getElem?_reverse (by omega)]
    congr 1
    omega
theorem xP8 {xs ys : List MsgL} {i : Nat} {x y : MsgL} (h : RevP xs ys i) (hi : 2 * i + 1 < xs.length) (hx : ys[i]? = some x) (hy : ys[xs.length - 1 - i]? = some y) : RevP xs ((ys.set i y).set (xs.length - 1 - i) x) (i + 1) := by
  have hl := h.1
  refine ⟨by simpa using hl, fun k => ?_⟩
  have hx2 := h.2 i
  rw [hx, if_neg (by omega)] at hx2
  have hy2 := h.2 (xs.length - 1 - i)
  rw [hy, if_neg (by omega)] at hy2
  rw [List.getElem?_set, List.length_set, List.getElem?_set]
  by_cases h1 : xs.length - 1 - i = k
  · rw [if_pos h1, if_pos (by omega), if_pos (by omega), hx2, List.getElem?_reverse (by omega)]
    congr 1
    omega
  · rw [if_neg h1]
    by_cases h2 : i = k
    · rw [if_pos h2, if_pos (by omega), if_pos (by omega), hy2, List.getElem?_reverse (by omega)]
      congr 1
      omega
    · rw [if_neg h2, h.2 k]
      by_cases h3 : k < i ∨ xs.length ≤ k + i
      · rw [if_pos h3, if_pos (by omega)]
      · rw [if_neg h3, if_neg (by omega)]
set_option maxHeartbeats 2000000 in
theorem rev_vc {xs : List MsgL} {N : Nat} (hN : N = xs.length) (hl : xs.length ≤ 60000) : VC Tryz.prog 33 [.own ⟨0, 0⟩ N 0 N] [blkV 8 (xs.map encM)] (.tup []) [blkV 8 (xs.reverse.map encM)] := by
  refine xCz vf33 ?_ (Nat.le_of_ble_eq_true rfl) (by intro vs h; cases h; simp)
  repeat first|refine sgo ?_|refine sop ?_
  refine xAF (fun (g : Nat × List MsgL) => [(0, .own ⟨0, 0⟩ N 0 N), (2, .int .i64 g.1), (3, .int .i64 ((N : Int) - 1 - (g.1 : Int)))])
    (fun g => [(⟨0, 0⟩, blkV 8 (g.2.map encM))]) (fun g => xs.length - g.1) (fun g => 2 * g.1 ≤ xs.length + 1 ∧ RevP xs g.2 g.1) (0, xs)
    (goes (h1 := by refine ⟨rfl, rfl, ?_, trivial⟩; exact congrArg (fun z => some (PV.int .i64 z)) (by simp))) ⟨by simp only; omega, rfl, fun k => ?_⟩ ?_
  · simp only [Nat.not_lt_zero, Nat.add_zero, false_or]
    split
    · rename_i hk
      rw [List.getElem?_eq_none (by omega), List.getElem?_eq_none (by simp; omega)]
    · rfl
  rintro ⟨i, ys⟩ ⟨hi, hr⟩
  dsimp only at hi hr ⊢
  have hyl := hr.1
  by_cases hA : 2 * i + 1 < xs.length
  · have hd : decide ((i : Int) < (N : Int) - 1 - (i : Int)) = true := decide_eq_true (by omega)
    obtain ⟨x, hx⟩ : ∃ x, ys[i]? = some x := ⟨_, List.getElem?_eq_getElem (by omega)⟩
    obtain ⟨y, hy⟩ : ∃ y, ys[xs.length - 1 - i]? = some y := ⟨_, List.getElem?_eq_getElem (by omega)⟩
    have hx' := xO7 (k := 0 + (i : Int).toNat) hx (by omega)
    have hy' := xO7 (k := 0 + ((N : Int) - 1 - (i : Int)).toNat) hy (by omega)
    have hk1 : 0 + (i : Int).toNat = i := by omega
    have hk2 : 0 + ((N : Int) - 1 - (i : Int)).toNat = xs.length - 1 - i := by omega
    have hst := xP8 hr hA hx hy
    repeat first|refine sgo ?_|refine sop ?_
    refine cndt (xAB ?_)
    refine xBE (xAz (rg ?_))
    repeat first|refine xAd ?_|refine xAG ?_|refine o_v (vst encM y) ?_|refine o_v (vst encM x) ?_|refine sop ?_
    refine nl ?_
    rw [hk1, hk2]
    generalize (ys.set i y).set (xs.length - 1 - i) x = zs at hst
    repeat first|refine sgo ?_|refine sop ?_
    exact agn (Q := fun _ _ => True) (i + 1, zs) ⟨by simp only; omega, hst⟩ (xCC (h1 := by refine ⟨rfl, rfl, ?_, trivial⟩; exact congrArg (fun z => some (PV.int .i64 z)) (by simp only; omega)))
  · have hd : decide ((i : Int) < (N : Int) - 1 - (i : Int)) = false := decide_eq_false (by omega)
    have := xP9 hr (by omega)
    subst this
    repeat first|refine sgo ?_|refine sop ?_
    refine cndf (xAE ?_)
    exact ⟨.inl rfl, oL1 rfl⟩
theorem xRB {l : List MsgL} : VC Tryz.prog 32 [.sh false (l.map encM)] [] (.fn 61 [.ptr ⟨0, 0⟩ 1 0 0]) [⟨true, false, 1, [[.sh false (l.map encM)]]⟩] := by
  refine vcs vf32 ?_
  repeat first|refine sgo ?_|refine sop ?_
  refine xAC ⟨.inr rfl, ?_⟩
  exact oG [⟨1, 0⟩] (v' := .fn 61 [.ptr ⟨0, 0⟩ 1 0 0]) (hout' := [⟨true, false, 1, [[.sh false (l.map encM)]]⟩])
end Go.Proofs
open Go.V Go.Pu
set_option linter.unusedVariables false
set_option linter.unusedSimpArgs false
set_option maxRecDepth 20000
namespace Go.Proofs
def vc12 := vcm Tryz.prog 12
theorem vf12 : VF Tryz.prog 12 = some (42, vc12, [.tmp 4, .tmp 5]) := by kernel_rfl
def vc61 := vcm Tryz.prog 61
theorem vf61 : VF Tryz.prog 61 = some (19, vc61, []) := by kernel_rfl
abbrev LT0 : Tmps := [(6, .ptr ⟨0, 1000⟩ 1 0 0), (7, .ptr ⟨0, 1001⟩ 1 0 0), (8, .ptr ⟨0, 1002⟩ 1 0 0), (9, .ptr ⟨0, 1003⟩ 1 0 0), (21, .fn 61 [.ptr ⟨0, 1004⟩ 1 0 0])]
abbrev LH (l : List MsgL) (d : List SpanL) (o : List MsgL) : Heap := [(⟨0, 1000⟩, bxD d), (⟨0, 1001⟩, ⟨true, false, 1, [[.fn 1000030 [.ptr ⟨0, 1000⟩ 1 0 0]]]⟩), (⟨0, 1002⟩, ⟨true, false, 1, [[.fn 1000031 [.ptr ⟨0, 1000⟩ 1 0 0]]]⟩),
  (⟨0, 1003⟩, ⟨true, false, 1, [[ownV ⟨1, 7⟩ (o.map encM)]]⟩), (⟨1, 7⟩, blkV 8 (o.map encM)), (⟨0, 1004⟩, ⟨true, false, 1, [[.sh false (l.map encM)]]⟩)]
theorem l_live {hf : HF} {a : Bid} {o : List MsgL} {d : List SpanL} (ha : hf a = some (blkV 8 (o.map encM))) : xBH hf [] [ownV a (o.map encM), .sh false (d.map encS)] = some ([a], [.sh false (o.map encM), .sh false (d.map encS)]) := by
  have h1 : xCQ hf [] (ownV a (o.map encM)) = some ([a], .sh false (o.map encM)) := xAZ ha rfl
  have h2 : xCQ hf [] (.sh false (d.map encS)) = some ([], .sh false (d.map encS)) := xAA rfl
  rw [xBH, xBH, h1, h2]
  rfl
theorem xKJ {l : List MsgL} {i : Nat} {m : MsgL} (h : l[i]? = some m) : (l.take (i + 1)).reverse = m :: (l.take i).reverse := by
  rw [List.take_add_one, h]
  simp
set_option maxHeartbeats 8000000 in
theorem xJB {l : List MsgL} {q : PV} {dead : List SpanL} (hq : Sl q (dead.map encS)) (hl : l.length ≤ 40) (hm : ∀ m ∈ l, MsgSz m) (hd : dead.length ≤ 50) :
    VC Tryz.prog 12 [.sh false (l.map encM), q] [] (.tup [.sh false ((xBV l dead).1.map encM), .sh false ((xBV l dead).2.map encS)]) [] := by
  have hno := xCJ (xLB (q := q) (xs := dead) hq (by omega))
  have hnl := xCl dead
  have hcl := hq.closed
  have hml : (l.map encM).length = l.length := List.length_map _
  refine xNY (hout := [blkV 8 ((xBV l dead).1.map encM)]) (vs := [ownV ⟨0, 0⟩ ((xBV l dead).1.map encM), .sh false ((xBV l dead).2.map encS)]) ?_ (l_live rfl) (by simp) (by simp)
  refine xCz vf12 ?_ (Nat.le_of_ble_eq_true rfl) (by intro vs h; cases h; simp)
  --fns 12 61
  refine xBE (rg ?_)
  repeat first|refine xAd ?_|refine sop ?_
  refine nl ?_
  refine xBE (rg ?_)
  repeat first|refine xAd ?_|refine cf hno ?_|refine sop ?_
  refine nl ?_
  refine xBE (rg ?_)
  repeat first|refine xAd ?_|refine sop ?_
  refine nl ?_
  refine xBE (rg ?_)
  repeat first|refine xAd ?_|refine sop ?_
  refine nl ?_
  refine xB4 (lvl := 1) (fun _ => LT0) (fun (_ : Unit) => LH l (xBV l dead).2 ((xBa l.reverse (xAO dead)))) (fun _ => True) ?_ ?_
  · repeat first|refine sgo ?_|refine cf (xRB (l := l)) ?_|refine sop ?_
    refine rng (f := 61) (lvlI := 2) (T := LT0) (H := LH l (xAO dead) [])
      ((((((Imp.nilH (b := ⟨1, 7⟩) (b1 := ⟨1, 24576⟩) (esz := 8) rfl rfl (by decide)).trans (Imp.ren' (b := ⟨1, 8216⟩) (c := ⟨0, 1000⟩) (by decide) (.inr rfl))).trans (Imp.ren' (b := ⟨1, 16416⟩) (c := ⟨0, 1001⟩) (by decide) (.inr rfl))).trans
        (Imp.ren' (b := ⟨1, 16424⟩) (c := ⟨0, 1002⟩) (by decide) (.inr rfl))).trans (Imp.ren' (b := ⟨1, 24576⟩) (c := ⟨0, 1003⟩) (by decide) (.inr rfl))).trans (Imp.ren' (b := ⟨1, 32776⟩) (c := ⟨0, 1004⟩) (by decide) (.inr rfl)) |>.trans xCC) vf61 ?_
    intro y
    refine xMZ (xNM ?_)
    repeat first|refine sgo ?_|refine sop ?_
    refine xMa ?_
    refine xQ8 (fun (g : Nat × List SpanL × List MsgL) => [(0, .yld y), (1, .ptr ⟨0, 1004⟩ 1 0 0), (3, .int .i64 ((g.1 : Int) - 1))]) (fun g => LH l g.2.1 g.2.2) (fun g => g.1)
      (fun g => g.1 ≤ l.length ∧ g.2.2 ++ xBa (l.take g.1).reverse g.2.1 = xBa l.reverse (xAO dead) ∧ xFR (l.take g.1).reverse g.2.1 = (xBV l dead).2 ∧ g.2.1.length + 3 * g.1 ≤ 170 ∧ g.2.2.length + g.1 ≤ 40)
      (l.length, xAO dead, []) (xCC (h1 := by refine ⟨rfl, rfl, ?_, trivial⟩; exact congrArg (fun z => some (PV.int .i64 z)) (by simp))) ⟨Nat.le_refl _, by simp only [List.take_length, List.nil_append], by simp only [List.take_length]; rfl, by simp only; omega, by simp only [List.length_nil]; omega⟩ ?_
    rintro ⟨i, d, o⟩ ⟨hi, hv, hdd, hdl, hol⟩
    dsimp only at hi hv hdd hdl hol ⊢
    refine xMZ (xNM ?_)
    repeat first|refine sgo ?_|refine sop ?_
    refine cnd (fun h => xAB ?_) (fun h => xAE ?_)
    · obtain ⟨j, rfl⟩ : ∃ j, i = j + 1 := ⟨i - 1, by have h' := of_decide_eq_true h; omega⟩
      obtain ⟨m, hx⟩ : ∃ m, l[j]? = some m := ⟨_, List.getElem?_eq_getElem (by omega)⟩
      have hxe := gm (enc := encM) (n := ((j + 1 : Nat) : Int) - 1) hx (by omega)
      have hlt2 : ((j + 1 : Nat) : Int) - 1 < ((l.map encM).length : Nat) := by omega
      have hge2 : 0 ≤ ((j + 1 : Nat) : Int) - 1 := by omega
      have hmz := hm m (List.mem_of_getElem? hx)
      rw [xKJ hx] at hv hdd
      refine xMZ (xMa (xMZ (xPQ (xPt 6 ?_))))
      repeat first|refine sgo ?_|refine sop ?_
      refine yl (T := [(0, .yld y), (1, .ptr ⟨0, 1004⟩ 1 0 0), (3, .int .i64 (((j + 1 : Nat) : Int) - 1)), (11, .yld y), (12, .int .i64 (((j + 1 : Nat) : Int) - 1)), (16, .agg (encM m))]) (H := LH l d o) 3 xCC ?_
      repeat first|refine sgo ?_|refine sop ?_
      refine ⟨rfl, ?_⟩
      have hco := xPH hmz (d := d) (by omega)
      have hpa := xSb hmz (d := d) (by omega)
      have hnl := xK8 m d
      rw [xBa] at hv
      rw [xFR] at hdd
      cases hc : covL m d with
      | true =>
        rw [hc] at hco
        rw [if_pos hc] at hv hdd
        repeat first|refine sgo ?_|refine cl (lent := [⟨0, 1000⟩]) hco (ht := Targ.bd (f' := 1000030) rfl rfl) ?_|refine sop ?_
        refine cndf (xAB ?_)
        refine xNi ?_
        repeat first|refine sgo ?_|refine sop ?_
        refine xPR (xNM (xAB ?_))
        refine xNM ?_
        repeat first|refine sgo ?_|refine sop ?_
        exact agL (j, d, o) ⟨by simp only; omega, hv, hdd, by simp only; omega, by simp only; omega⟩ (xCC (h1 := by refine ⟨rfl, rfl, ?_, trivial⟩; exact congrArg (fun z => some (PV.int .i64 z)) (by simp only; omega)))
      | false =>
        rw [hc] at hco
        rw [if_neg (by rw [hc]; simp)] at hv hdd
        repeat first|refine sgo ?_|refine cl (lent := [⟨0, 1000⟩]) hco (ht := Targ.bd (f' := 1000030) rfl rfl) ?_|refine sop ?_
        refine cndt ?_
        repeat first|refine sgo ?_|refine o_v (vap encM m) ?_|refine cl (lent := [⟨0, 1000⟩]) hpa (ht := Targ.bd (f' := 1000031) rfl rfl) ?_|refine sop ?_
        refine xNi ?_
        repeat first|refine sgo ?_|refine sop ?_
        refine xPR (xNM (xAB ?_))
        refine xNM ?_
        repeat first|refine sgo ?_|refine sop ?_
        exact agL (j, nxtL m d, o ++ [m]) ⟨by simp only; omega, by rw [← hv]; simp, hdd, by simp only; omega, by simp only [List.length_append, List.length_cons, List.length_nil]; omega⟩ (xCC (h1 := by refine ⟨rfl, rfl, ?_, trivial⟩; exact congrArg (fun z => some (PV.int .i64 z)) (by simp only; omega)))
    · have hi0 : i = 0 := by have h' := of_decide_eq_false h; omega
      subst hi0
      simp only [List.take_zero, List.reverse_nil, xBa, xFR, List.append_nil] at hv hdd
      rw [← hdd, ← hv]
      exact mid0 () trivial xCC
  · intro _ _
    have hrl : (xBa l.reverse (xAO dead)).length ≤ 40 := by
      have := (xFJ l.reverse (xAO dead)).length_le
      rw [List.length_reverse] at this
      omega
    have hrv := rev_vc (xs := xBa l.reverse (xAO dead)) (N := ((xBa l.reverse (xAO dead)).map encM).length) (by simp) (by omega)
    repeat first|refine sgo ?_|refine cl (lent := [⟨1, 7⟩]) hrv ?_|refine sop ?_
    refine xAC ⟨.inr rfl, ?_⟩
    have hlr : ((xBV l dead).1.map encM).length = ((xBa l.reverse (xAO dead)).map encM).length := by simp [xBV]
    exact oG [⟨1, 7⟩] (v' := .tup [.own ⟨0, 0⟩ ((xBa l.reverse (xAO dead)).map encM).length 0 ((xBa l.reverse (xAO dead)).map encM).length, .sh false ((xBV l dead).2.map encS)]) (hv := by rw [← hlr])
end Go.Proofs
open Go.V Go.Pu
set_option linter.unusedVariables false
set_option linter.unusedSimpArgs false
set_option maxRecDepth 20000
namespace Go.Proofs
def vc16 := vcm Tryz.prog 16
theorem vf16 : VF Tryz.prog 16 = some (11, vc16, [.tmp 2]) := by kernel_rfl
def vc18 := vcm Tryz.prog 18
theorem vf18 : VF Tryz.prog 18 = some (10, vc18, [.tmp 4]) := by kernel_rfl
def vc13 := vcm Tryz.prog 13
theorem vf13 : VF Tryz.prog 13 = some (52, vc13, [.cell true 2 4]) := by kernel_rfl
theorem xD1 {l : List MsgL} (hl : l.length ≤ 40) (hm : ∀ m ∈ l, MsgSz m) : VC Tryz.prog 16 [.sh false (l.map encM)] [] (.sh false ((xAX l).map encM)) [] := by
  have h := xJB (l := l) (q := .nils) (dead := []) (.inl ⟨rfl, rfl⟩) hl hm (by simp)
  refine vcs vf16 ?_
  repeat first|refine sgo ?_|refine cf h ?_|refine sop ?_
  exact xAC ⟨.inr rfl, oAny rfl⟩
theorem xI6 {a b : List MsgL} (hl : a.length + b.length ≤ 40) (ha : ∀ m ∈ a, MsgSz m) (hb : ∀ m ∈ b, MsgSz m) : VC Tryz.prog 18 [.sh false (a.map encM), .sh false (b.map encM)] [] (.sh false ((xAX (a ++ b)).map encM)) [] := by
  have hc := xNK (q := .sh false ([a, b].map xJQ)) (ls := [a, b]) Sl.sh (by simp) (by simp [totM]; omega)
  have e : ([a, b].flatten : List MsgL) = a ++ b := by simp
  rw [e] at hc
  have hr := xD1 (l := a ++ b) (by rw [List.length_append]; omega) (fun m h => (List.mem_append.1 h).elim (ha m) (hb m))
  refine vcs vf18 ?_
  repeat first|refine sgo ?_|refine cv hc ?_|refine cf hr ?_|refine sop ?_
  exact xAC ⟨.inr rfl, oAny rfl⟩
theorem rnormC {q : PV} {l : List SpanL} (hq : Sl q (l.map encS)) (hl : l.length ≤ 100000) : VC Tryz.prog 34 [q] [] (.sh false ((xAO l).map encS)) [] := xCJ (xIu hq hl)
theorem xN7 {q p : PV} {l m : List SpanL} (hq : Sl q (l.map encS)) (hp : Sl p (m.map encS)) (hl : l.length ≤ 200) (hm : m.length ≤ 200) : VC Tryz.prog 35 [q, p] [] (.sh false ((xBT l m).map encS)) [] := by
  rw [xOZ]
  exact xCJ (xN6 hq hp hl hm)
set_option maxHeartbeats 4000000 in
theorem xP7 {l : List MsgL} {q : PV} {dead : List SpanL} (hq : Sl q (dead.map encS)) (hl : l.length ≤ 40) (hm : ∀ m ∈ l, MsgSz m) (hd : dead.length ≤ 50) :
    VC Tryz.prog 13 [.sh false (l.map encM), q] [] (.agg [.sh false ((xBV l dead).1.map encM), .sh false ((xBV l dead).2.map encS)]) [] := by
  have hno := rnormC (q := q) (l := dead) hq (by omega)
  have hnl := xCl dead
  have hcl := hq.closed
  have hml : (l.map encM).length = l.length := List.length_map _
  refine vcs vf13 ?_
  repeat first|refine sgo ?_|refine cf hno ?_|refine sop ?_
  refine xEk (Imp.wr (t := 5) rfl (xAZ (els := ([] : List MsgL).map encM) rfl rfl)) ?_
  refine xAF (fun (g : Nat × List SpanL × List MsgL) => [(0, .sh false (l.map encM)), (4, .ptr ⟨1, 0⟩ 1 0 0), (5, .sh false (g.2.2.map encM)), (6, .sh false (g.2.1.map encS)), (7, .int .i64 ((g.1 : Int) - 1))]) (fun g => [(⟨1, 0⟩, ⟨true, false, 2, [[.nils, .nils]]⟩)]) (fun g => g.1)
    (fun g => g.1 ≤ l.length ∧ (xBa (l.take g.1).reverse g.2.1).reverse ++ g.2.2 = (xBV l dead).1 ∧ xFR (l.take g.1).reverse g.2.1 = (xBV l dead).2 ∧ g.2.1.length + 3 * g.1 ≤ 170 ∧ g.2.2.length + g.1 ≤ 40)
    (l.length, xAO dead, []) (xCC (h1 := by refine ⟨rfl, rfl, rfl, rfl, ?_, trivial⟩; exact congrArg (fun z => some (PV.int .i64 z)) (by simp))) ⟨Nat.le_refl _, by simp only [List.take_length, List.append_nil]; rfl, by simp only [List.take_length]; rfl, by simp only; omega, by simp only [List.length_nil]; omega⟩ ?_
  rintro ⟨i, d, o⟩ ⟨hi, hv, hdd, hdl, hol⟩
  dsimp only at hi hv hdd hdl hol ⊢
  repeat first|refine sgo ?_|refine sop ?_
  refine cnd (fun h => xAB ?_) (fun h => xAE ?_)
  · obtain ⟨j, rfl⟩ : ∃ j, i = j + 1 := ⟨i - 1, by have h' := of_decide_eq_true h; omega⟩
    obtain ⟨m, hx⟩ : ∃ m, l[j]? = some m := ⟨_, List.getElem?_eq_getElem (by omega)⟩
    have hxe := gm (enc := encM) (n := ((j + 1 : Nat) : Int) - 1) hx (by omega)
    have hlt2 : ((j + 1 : Nat) : Int) - 1 < ((l.map encM).length : Nat) := by omega
    have hge2 : 0 ≤ ((j + 1 : Nat) : Int) - 1 := by omega
    have hmz := hm m (List.mem_of_getElem? hx)
    have hwl := xDF m
    have hkl := xHJ m
    have hrl := xGu m
    have hnx := xK8 m d
    have hw := xEN hmz
    have hk := xN8 hmz
    have hrd := xN4 hmz
    have m1 := xN7 (q := .sh false ((xAR m).map encS)) (p := .sh false (d.map encS)) Sl.sh Sl.sh (by omega) (by omega)
    have m2 := xN7 (q := .sh false ((d ++ xA2 m).map encS)) (p := .sh false ((xCN m).map encS)) Sl.sh Sl.sh (by rw [List.length_append]; omega) (by omega)
    rw [xKJ hx] at hv hdd
    rw [xBa] at hv
    rw [xFR] at hdd
    have e : ((((xBT (xAR m) d).map encS).length : Int) == 0) = covL m d := by
      unfold covL
      rw [List.length_map, Bool.eq_iff_iff]
      simp
    cases hc : covL m d with
    | true =>
      rw [hc] at e
      rw [if_pos hc] at hv hdd
      repeat first|refine sgo ?_|refine cf hw ?_|refine cf m1 ?_|refine sop ?_
      refine cndt (xAE ?_)
      repeat first|refine sgo ?_|refine sop ?_
      exact agn (Q := fun _ _ => True) (j, d, o) ⟨by simp only; omega, hv, hdd, by simp only; omega, by simp only; omega⟩ (xCC (h1 := by refine ⟨rfl, rfl, rfl, rfl, ?_, trivial⟩; exact congrArg (fun z => some (PV.int .i64 z)) (by simp only; omega)))
    | false =>
      rw [hc] at e
      rw [if_neg (by rw [hc]; simp)] at hv hdd
      repeat first|refine sgo ?_|refine cf hw ?_|refine cf m1 ?_|refine sop ?_
      refine cndf (xAB ?_)
      repeat first|refine sgo ?_|refine o_v (vaps encM [m] o) ?_|refine o_v (vaps encS [] d) ?_|refine cf hk ?_|refine o_v (vaps encS d (xA2 m)) ?_|refine cf hrd ?_|refine cf m2 ?_|refine sop ?_
      refine agn (Q := fun _ _ => True) (j, nxtL m d, [m] ++ o) ⟨by simp only; omega, by rw [← hv]; simp, hdd, by simp only; omega, by simp only [List.length_append, List.length_cons, List.length_nil]; omega⟩ ((Imp.wr (t := 5) rfl (xAZ rfl rfl)).trans (xCC (h1 := by refine ⟨rfl, rfl, rfl, rfl, ?_, trivial⟩; exact congrArg (fun z => some (PV.int .i64 z)) (by simp only; omega))))
  · have hi0 : i = 0 := by have h' := of_decide_eq_false h; omega
    subst hi0
    simp only [List.take_zero, List.reverse_nil, xBa, xFR, List.nil_append] at hv hdd
    rw [← hdd, ← hv]
    repeat first|refine sgo ?_|refine sop ?_
    exact xAC ⟨.inr rfl, oAny rfl⟩
end Go.Proofs
open Go.V Go.Pu
set_option linter.unusedVariables false
set_option linter.unusedSimpArgs false
set_option maxRecDepth 20000
namespace Go.Proofs
def vc17 := vcm Tryz.prog 17
theorem vf17 : VF Tryz.prog 17 = some (6, vc17, [.tmp 2]) := by kernel_rfl
def vc19 := vcm Tryz.prog 19
theorem vf19 : VF Tryz.prog 19 = some (13, vc19, [.tmp 4]) := by kernel_rfl
def vc14 : VCode :=
 (.seq
 (.region 0 false [
 .e 4 (.copy (.c (.bool false))) 0])
 (.seq
 (.seq
 (.region 1 false [
 .e 6 (.copy (.t 0)) 8192,
 .e 7 (.len (.t 6)) 8200,
 .e 8 (.copy (.t 1)) 8208,
 .e 9 (.len (.t 8)) 8216,
 .e 10 (.bin .neq (.t 7) (.t 9)) 8224])
 (.cond (.t 10)
 (.seq
 (.region 2 false [
 .e 4 (.copy (.c (.bool false))) 16384])
 .ret)
 .skip))
 (.seq
 (.seq
 (.region 3 false [
 .e 5 (.copy (.c (.int .i64 0))) 24576])
 (.block 0
 (.loop
 (.seq
 (.seq
 (.region 4 false [
 .e 11 (.copy (.t 5)) 32768,
 .e 12 (.copy (.t 0)) 32776,
 .e 13 (.len (.t 12)) 32784,
 .e 14 (.bin .lss (.t 11) (.t 13)) 32792])
 (.cond (.t 14)
 .skip
 (.exit 0)))
 (.seq
 (.block 1
 (.seq
 (.region 6 true [
 .e 17 (.copy (.t 0)) 49152,
 .e 18 (.copy (.t 5)) 49160,
 .f 19 (.iaddr 8 (.t 17) (.t 18)) 49168 [0, 1],
 .f 20 (.load true 8 (.t 19)) 49176 [2, 0, 1],
 .e 21 (.copy (.t 1)) 49184,
 .e 22 (.copy (.t 5)) 49192,
 .f 23 (.iaddr 8 (.t 21) (.t 22)) 49200 [4, 5],
 .f 24 (.load true 8 (.t 23)) 49208 [6, 4, 5],
 .f 25 (.eqc true [1, 2, 2, 2, 2, 2, 2, 1] (.t 20) (.t 24)) 49216 [3, 2, 0, 1, 7, 6, 4, 5]])
 (.cond (.t 25)
 (.seq
 (.region 7 false [
 .e 4 (.copy (.c (.bool false))) 57344])
 .ret)
 .skip)))
 (.region 5 false [
 .e 15 (.copy (.t 5)) 40960,
 .e 16 (.bin .add (.t 15) (.c (.int .i64 1))) 40968,
 .e 5 (.copy (.t 16)) 40976]))))))
 (.seq
 (.region 8 false [
 .e 4 (.copy (.c (.bool true))) 65536])
 .ret))))
theorem vf14 : VF Tryz.prog 14 = some (26, vc14, [.tmp 4]) := by kernel_rfl
def vc15 : VCode :=
 (.seq
 (.region 0 false [
 .e 4 (.copy (.c (.bool false))) 0])
 (.seq
 (.seq
 (.region 1 false [
 .e 6 (.copy (.t 0)) 8192,
 .e 7 (.len (.t 6)) 8200,
 .e 8 (.copy (.t 1)) 8208,
 .e 9 (.len (.t 8)) 8216,
 .e 10 (.bin .neq (.t 7) (.t 9)) 8224])
 (.cond (.t 10)
 (.seq
 (.region 2 false [
 .e 4 (.copy (.c (.bool false))) 16384])
 .ret)
 .skip))
 (.seq
 (.seq
 (.region 3 false [
 .e 5 (.copy (.c (.int .i64 0))) 24576])
 (.block 0
 (.loop
 (.seq
 (.seq
 (.region 4 false [
 .e 11 (.copy (.t 5)) 32768,
 .e 12 (.copy (.t 0)) 32776,
 .e 13 (.len (.t 12)) 32784,
 .e 14 (.bin .lss (.t 11) (.t 13)) 32792])
 (.cond (.t 14)
 .skip
 (.exit 0)))
 (.seq
 (.block 1
 (.seq
 (.region 6 true [
 .e 17 (.copy (.t 0)) 49152,
 .e 18 (.copy (.t 5)) 49160,
 .f 19 (.iaddr 2 (.t 17) (.t 18)) 49168 [0, 1],
 .f 20 (.load true 2 (.t 19)) 49176 [2, 0, 1],
 .e 21 (.copy (.t 1)) 49184,
 .e 22 (.copy (.t 5)) 49192,
 .f 23 (.iaddr 2 (.t 21) (.t 22)) 49200 [4, 5],
 .f 24 (.load true 2 (.t 23)) 49208 [6, 4, 5],
 .f 25 (.eqc true [2, 2] (.t 20) (.t 24)) 49216 [3, 2, 0, 1, 7, 6, 4, 5]])
 (.cond (.t 25)
 (.seq
 (.region 7 false [
 .e 4 (.copy (.c (.bool false))) 57344])
 .ret)
 .skip)))
 (.region 5 false [
 .e 15 (.copy (.t 5)) 40960,
 .e 16 (.bin .add (.t 15) (.c (.int .i64 1))) 40968,
 .e 5 (.copy (.t 16)) 40976]))))))
 (.seq
 (.region 8 false [
 .e 4 (.copy (.c (.bool true))) 65536])
 .ret))))
theorem vf15 : VF Tryz.prog 15 = some (26, vc15, [.tmp 4]) := by kernel_rfl
def vc21 := vcm Tryz.prog 21
theorem vf21 : VF Tryz.prog 21 = some (52, vc21, [.tmp 4]) := by kernel_rfl
theorem xM0 {l : List MsgL} (hl : l.length ≤ 40) (hm : ∀ m ∈ l, MsgSz m) : VC Tryz.prog 17 [.sh false (l.map encM)] [] (.sh false ((xAX l).map encM)) [] := by
  have h := xP7 (l := l) (q := .nils) (dead := []) (.inl ⟨rfl, rfl⟩) hl hm (by simp)
  refine vcs vf17 ?_
  repeat first|refine sgo ?_|refine cf h ?_|refine sop ?_
  exact xAC ⟨.inr rfl, oAny rfl⟩
theorem rmerge_vc {a b : List MsgL} (hl : a.length + b.length ≤ 40) (ha : ∀ m ∈ a, MsgSz m) (hb : ∀ m ∈ b, MsgSz m) : VC Tryz.prog 19 [.sh false (a.map encM), .sh false (b.map encM)] [] (.sh false ((xAX (a ++ b)).map encM)) [] := by
  have hr := xM0 (l := a ++ b) (by rw [List.length_append]; omega) (fun m h => (List.mem_append.1 h).elim (ha m) (hb m))
  refine vcs vf19 ?_
  repeat first|refine sgo ?_|refine o_v (vaps encM [] a) ?_|refine o_v (vaps encM a b) ?_|refine cf hr ?_|refine sop ?_
  exact xAC ⟨.inr rfl, oAny rfl⟩
theorem veqM (a b : MsgL) {neg : Bool} {lvl site : Nat} {tf : TF} {hf : HF} {x y : VX} (hx : ev tf x = some (.agg (encM a)) := by rfl) (hy : ev tf y = some (.agg (encM b)) := by rfl) :
    vop lvl site tf hf (.eqc neg [1, 2, 2, 2, 2, 2, 2, 1] x y) = some ⟨.bool (if neg then !decide (a = b) else decide (a = b)), [], []⟩ := by
  obtain ⟨a1, a2, a3, ⟨a4, a5⟩, a6, a7, a8⟩ := a
  obtain ⟨b1, b2, b3, ⟨b4, b5⟩, b6, b7, b8⟩ := b
  have h : (a1 == b1 && (a2 == b2 && (a3 == b3 && (a4 == b4 && (a5 == b5 && (a6 == b6 && (a7 == b7 && a8 == b8))))))) = decide ((⟨a1, a2, a3, ⟨a4, a5⟩, a6, a7, a8⟩ : MsgL) = ⟨b1, b2, b3, ⟨b4, b5⟩, b6, b7, b8⟩) := by
    rw [Bool.eq_iff_iff]
    simp [and_assoc]
  rw [← h]
  simp [vop, hx, hy, xAo, xCS, retV]
theorem veqS (a b : SpanL) {neg : Bool} {lvl site : Nat} {tf : TF} {hf : HF} {x y : VX} (hx : ev tf x = some (.agg (encS a)) := by rfl) (hy : ev tf y = some (.agg (encS b)) := by rfl) :
    vop lvl site tf hf (.eqc neg [2, 2] x y) = some ⟨.bool (if neg then !decide (a = b) else decide (a = b)), [], []⟩ := by
  obtain ⟨a4, a5⟩ := a
  obtain ⟨b4, b5⟩ := b
  have h : (a4 == b4 && a5 == b5) = decide ((⟨a4, a5⟩ : SpanL) = ⟨b4, b5⟩) := by
    rw [Bool.eq_iff_iff]
    simp
  rw [← h]
  simp [vop, hx, hy, xAo, xCS, retV]
theorem sameM_vc {a b : List MsgL} (ha : a.length ≤ 60000) (hb : b.length ≤ 60000) : VC Tryz.prog 14 [.sh false (a.map encM), .sh false (b.map encM)] [] (.bool (decide (a = b))) [] := by
  refine vcs vf14 ?_
  repeat first|refine sgo ?_|refine sop ?_
  refine cnd (fun h => ?_) (fun h => xAB ?_)
  · repeat first|refine sgo ?_|refine sop ?_
    refine xAC ⟨.inr rfl, oB ?_⟩
    symm
    rw [decide_eq_false_iff_not]
    rintro rfl
    simp at h
  have hab : a.length = b.length := by simp at h; omega
  repeat first|refine sgo ?_|refine sop ?_
  refine xAF (fun (g : Nat) => [(0, .sh false (a.map encM)), (1, .sh false (b.map encM)), (5, .int .i64 g)]) (fun g => []) (fun g => a.length - g)
    (fun g => g ≤ a.length ∧ a.take g = b.take g) 0 goes ⟨Nat.zero_le _, rfl⟩ ?_
  rintro i ⟨hi, hv⟩
  repeat first|refine sgo ?_|refine sop ?_
  refine cnd (fun h => xAB ?_) (fun h => xAE ?_)
  · have hlt : i < a.length := by have h' := of_decide_eq_true h; simp only [List.length_map] at h'; omega
    obtain ⟨x, hx⟩ : ∃ x, a[i]? = some x := ⟨_, List.getElem?_eq_getElem hlt⟩
    obtain ⟨y, hy⟩ : ∃ y, b[i]? = some y := ⟨_, List.getElem?_eq_getElem (by omega)⟩
    have hxe := gm (enc := encM) (n := (i : Int)) hx (by omega)
    have hye := gm (enc := encM) (n := (i : Int)) hy (by omega)
    repeat first|refine sgo ?_|refine o_v (veqM x y) ?_|refine sop ?_
    refine cnd (fun h2 => ?_) (fun h2 => xAB ?_)
    · repeat first|refine sgo ?_|refine sop ?_
      refine xAC ⟨.inr rfl, oB ?_⟩
      have h2 : ¬ x = y := by simpa using h2
      symm
      rw [decide_eq_false_iff_not]
      rintro rfl
      rw [hx] at hy
      exact h2 (by simpa using hy)
    · repeat first|refine sgo ?_|refine sop ?_
      have h2 : x = y := by simpa using h2
      refine agn (i + 1) ⟨by omega, ?_⟩ goes
      rw [List.take_add_one, List.take_add_one, hx, hy, hv, h2]
  · have hge : i = a.length := by have h' := of_decide_eq_false h; simp only [List.length_map] at h'; omega
    subst hge
    rw [List.take_length, hab, List.take_length] at hv
    repeat first|refine sgo ?_|refine sop ?_
    exact xAC ⟨.inr rfl, oB (decide_eq_true hv).symm⟩
theorem sameS_vc {a b : List SpanL} (ha : a.length ≤ 60000) (hb : b.length ≤ 60000) : VC Tryz.prog 15 [.sh false (a.map encS), .sh false (b.map encS)] [] (.bool (decide (a = b))) [] := by
  refine vcs vf15 ?_
  repeat first|refine sgo ?_|refine sop ?_
  refine cnd (fun h => ?_) (fun h => xAB ?_)
  · repeat first|refine sgo ?_|refine sop ?_
    refine xAC ⟨.inr rfl, oB ?_⟩
    symm
    rw [decide_eq_false_iff_not]
    rintro rfl
    simp at h
  have hab : a.length = b.length := by simp at h; omega
  repeat first|refine sgo ?_|refine sop ?_
  refine xAF (fun (g : Nat) => [(0, .sh false (a.map encS)), (1, .sh false (b.map encS)), (5, .int .i64 g)]) (fun g => []) (fun g => a.length - g)
    (fun g => g ≤ a.length ∧ a.take g = b.take g) 0 goes ⟨Nat.zero_le _, rfl⟩ ?_
  rintro i ⟨hi, hv⟩
  repeat first|refine sgo ?_|refine sop ?_
  refine cnd (fun h => xAB ?_) (fun h => xAE ?_)
  · have hlt : i < a.length := by have h' := of_decide_eq_true h; simp only [List.length_map] at h'; omega
    obtain ⟨x, hx⟩ : ∃ x, a[i]? = some x := ⟨_, List.getElem?_eq_getElem hlt⟩
    obtain ⟨y, hy⟩ : ∃ y, b[i]? = some y := ⟨_, List.getElem?_eq_getElem (by omega)⟩
    have hxe := gm (enc := encS) (n := (i : Int)) hx (by omega)
    have hye := gm (enc := encS) (n := (i : Int)) hy (by omega)
    repeat first|refine sgo ?_|refine o_v (veqS x y) ?_|refine sop ?_
    refine cnd (fun h2 => ?_) (fun h2 => xAB ?_)
    · repeat first|refine sgo ?_|refine sop ?_
      refine xAC ⟨.inr rfl, oB ?_⟩
      have h2 : ¬ x = y := by simpa using h2
      symm
      rw [decide_eq_false_iff_not]
      rintro rfl
      rw [hx] at hy
      exact h2 (by simpa using hy)
    · repeat first|refine sgo ?_|refine sop ?_
      have h2 : x = y := by simpa using h2
      refine agn (i + 1) ⟨by omega, ?_⟩ goes
      rw [List.take_add_one, List.take_add_one, hx, hy, hv, h2]
  · have hge : i = a.length := by have h' := of_decide_eq_false h; simp only [List.length_map] at h'; omega
    subst hge
    rw [List.take_length, hab, List.take_length] at hv
    repeat first|refine sgo ?_|refine sop ?_
    exact xAC ⟨.inr rfl, oB (decide_eq_true hv).symm⟩
set_option maxHeartbeats 1000000 in
theorem covered_vc {m d : MsgL} (hm : MsgSz m) : VC Tryz.prog 21 [.agg (encM m), .agg (encM d)] [] (.bool (xDk m d)) [] := by
  have hw := xEN hm
  have hwl := xDF m
  have hfin : xDk m d = (xAR m).all fun s => xA9 s d.sp := rfl
  generalize xDk m d = res at hfin ⊢
  generalize xAR m = ws at hw hwl hfin
  have hml : (ws.map encS).length = ws.length := List.length_map _
  refine vcs vf21 ?_
  repeat first|refine sgo ?_|refine cf hw ?_|refine sop ?_
  refine xAF (fun (g : Nat) => [(3, .ptr ⟨1, 8⟩ 1 0 0), (5, .sh false (ws.map encS)), (6, .int .i64 g)]) (fun g => [(⟨1, 8⟩, ⟨true, false, 8, [encM d]⟩)]) (fun g => ws.length - g)
    (fun g => g ≤ ws.length ∧ (ws.drop g).all (fun s => xA9 s d.sp) = res) 0 xCC ⟨Nat.zero_le _, by rw [List.drop_zero, hfin]⟩ ?_
  rintro i ⟨hi, hv⟩
  repeat first|refine sgo ?_|refine sop ?_
  refine cnd (fun h => xAB ?_) (fun h => xAE ?_)
  · have hlt : i < ws.length := by have h' := of_decide_eq_true h; omega
    obtain ⟨s, hs⟩ : ∃ x, ws[i]? = some x := ⟨_, List.getElem?_eq_getElem hlt⟩
    have hse := gm (enc := encS) (n := (i : Int)) hs (by omega)
    rw [xAn hs, List.all_cons] at hv
    cases c1 : (d.sp.hi == []) with
    | true =>
      cases c2 : Op.bytesLess s.lo d.sp.lo with
      | true =>
        have e : xA9 s d.sp = false := by unfold xA9; rw [c2]; rfl
        rw [e] at hv
        repeat first|refine sgo ?_|refine sop ?_
        refine cndt ?_
        repeat first|refine sgo ?_|refine sop ?_
        exact xAC ⟨.inr rfl, oB (show false = res by simpa only [Bool.false_and] using hv)⟩
      | false =>
        have e : xA9 s d.sp = true := by unfold xA9; rw [c2, c1]; rfl
        rw [e] at hv
        repeat first|refine sgo ?_|refine sop ?_
        refine cndf (xAB ?_)
        repeat first|refine sgo ?_|refine sop ?_
        exact agn (Q := fun _ _ => True) (i + 1) ⟨by omega, by simpa only [Bool.true_and] using hv⟩ xCC
    | false =>
      cases c3 : (s.hi == []) with
      | true =>
        have c4 : (!(s.hi == [])) = false := by rw [c3]; rfl
        have e : xA9 s d.sp = false := by unfold xA9; rw [c1, c3]; simp
        cases c2 : Op.bytesLess s.lo d.sp.lo with
        | true =>
          rw [e] at hv
          repeat first|refine sgo ?_|refine sop ?_
          refine cndt ?_
          repeat first|refine sgo ?_|refine sop ?_
          exact xAC ⟨.inr rfl, oB (show false = res by simpa only [Bool.false_and] using hv)⟩
        | false =>
          rw [e] at hv
          repeat first|refine sgo ?_|refine sop ?_
          refine cndt ?_
          repeat first|refine sgo ?_|refine sop ?_
          exact xAC ⟨.inr rfl, oB (show false = res by simpa only [Bool.false_and] using hv)⟩
      | false =>
        have c4 : (!(s.hi == [])) = true := by rw [c3]; rfl
        cases c5 : (Op.bytesLess s.hi d.sp.hi || s.hi == d.sp.hi) with
        | true =>
          cases c2 : Op.bytesLess s.lo d.sp.lo with
          | true =>
            have e : xA9 s d.sp = false := by unfold xA9; rw [c2]; rfl
            rw [e] at hv
            repeat first|refine sgo ?_|refine sop ?_
            refine cndt ?_
            repeat first|refine sgo ?_|refine sop ?_
            exact xAC ⟨.inr rfl, oB (show false = res by simpa only [Bool.false_and] using hv)⟩
          | false =>
            have e : xA9 s d.sp = true := by unfold xA9; rw [c2, c1, c3, c5]; rfl
            rw [e] at hv
            repeat first|refine sgo ?_|refine sop ?_
            refine cndf (ht := by rw [c5]; rfl) (xAB ?_)
            repeat first|refine sgo ?_|refine sop ?_
            exact agn (Q := fun _ _ => True) (i + 1) ⟨by omega, by simpa only [Bool.true_and] using hv⟩ xCC
        | false =>
          have e : xA9 s d.sp = false := by unfold xA9; rw [c1, c3, c5]; simp
          cases c2 : Op.bytesLess s.lo d.sp.lo with
          | true =>
            rw [e] at hv
            repeat first|refine sgo ?_|refine sop ?_
            refine cndt ?_
            repeat first|refine sgo ?_|refine sop ?_
            exact xAC ⟨.inr rfl, oB (show false = res by simpa only [Bool.false_and] using hv)⟩
          | false =>
            rw [e] at hv
            repeat first|refine sgo ?_|refine sop ?_
            refine cndt (ht := by rw [c5]; rfl) ?_
            repeat first|refine sgo ?_|refine sop ?_
            exact xAC ⟨.inr rfl, oB (show false = res by simpa only [Bool.false_and] using hv)⟩
  · have hge : i = ws.length := by have h' := of_decide_eq_false h; omega
    subst hge
    rw [List.drop_length] at hv
    repeat first|refine sgo ?_|refine sop ?_
    exact xAC ⟨.inr rfl, oB (show true = res by rw [← hv]; rfl)⟩
end Go.Proofs
open Go.V Go.Pu
set_option linter.unusedVariables false
set_option linter.unusedSimpArgs false
set_option maxRecDepth 20000
namespace Go.Proofs
def dL : PV → Option (List (List PV))
  | .nils => some []
  | .she => some []
  | .sh _ l => some l
  | _ => none
theorem dL_sl {p : PV} {l : List (List PV)} (h : dL p = some l) : Sl p l := by
  cases p <;> simp only [dL] at h <;> first
    | (cases h; exact .inl ⟨rfl, rfl⟩)
    | (cases h; exact .inr (.inl ⟨rfl, rfl⟩))
    | (cases h; exact Sl.sh)
    | cases h
def dM : List PV → Option MsgL
  | [.int .i64 k, .str a, .str b, .str c, .str d, .str e, .str f, .int .i64 n] => some ⟨k, a, b, ⟨c, d⟩, e, f, n⟩
  | _ => none
theorem dM_ok {e : List PV} {x : MsgL} (h : dM e = some x) : e = encM x := by
  unfold dM at h
  split at h
  · cases h; rfl
  · cases h
def dS : List PV → Option SpanL
  | [.str c, .str d] => some ⟨c, d⟩
  | _ => none
theorem dS_ok {e : List PV} {x : SpanL} (h : dS e = some x) : e = encS x := by
  unfold dS at h
  split at h
  · cases h; rfl
  · cases h
def dAll {α : Type} (f : List PV → Option α) : List (List PV) → Option (List α)
  | [] => some []
  | e :: r => (f e).bind fun x => (dAll f r).map (x :: ·)
theorem xLL {α : Type} {f : List PV → Option α} {enc : α → List PV} (hf : ∀ e x, f e = some x → e = enc x) : ∀ {l : List (List PV)} {xs : List α}, dAll f l = some xs → l = xs.map enc
  | [], xs, h => by cases h; rfl
  | e :: r, xs, h => by
    unfold dAll at h
    obtain ⟨x, hx, h⟩ := bind_some h
    obtain ⟨ys, hy, rfl⟩ := map_some h
    rw [xLL hf hy, hf _ _ hx]; rfl
def dMs (p : PV) : Option (List MsgL) := (dL p).bind (dAll dM)
def dSs (p : PV) : Option (List SpanL) := (dL p).bind (dAll dS)
theorem xMT {p : PV} {xs : List MsgL} (h : dMs p = some xs) : Sl p (xs.map encM) := by
  obtain ⟨l, h1, h2⟩ := bind_some h
  rw [← xLL (fun e x => dM_ok) h2]
  exact dL_sl h1
theorem dSs_ok {p : PV} {xs : List SpanL} (h : dSs p = some xs) : Sl p (xs.map encS) := by
  obtain ⟨l, h1, h2⟩ := bind_some h
  rw [← xLL (fun e x => dS_ok) h2]
  exact dL_sl h1
def szB (m : MsgL) : Bool := decide (1 ≤ m.kind) && decide (m.kind ≤ 6) && Nat.ble m.key.length 1000 && Nat.ble m.fr.length 1000 && Nat.ble m.to.length 1000
def szA : List MsgL → Bool
  | [] => true
  | m :: r => szB m && szA r
theorem xJj : ∀ {l : List MsgL}, szA l = true → ∀ m ∈ l, MsgSz m
  | x :: r, h, m, hm => by
    unfold szA at h
    rw [Bool.and_eq_true] at h
    rcases List.mem_cons.1 hm with rfl | hm
    · have h1 := h.1
      unfold szB at h1
      simp only [Bool.and_eq_true, decide_eq_true_eq] at h1
      obtain ⟨⟨⟨⟨a, b⟩, c⟩, d⟩, e⟩ := h1
      have c := Nat.le_of_ble_eq_true c
      have d := Nat.le_of_ble_eq_true d
      have e := Nat.le_of_ble_eq_true e
      exact ⟨⟨a, b⟩, by omega, by omega, by omega⟩
    · exact xJj h.2 m hm
def orc : V.Call := fun f args hin => match Nat.beq f 12, Nat.beq f 16, Nat.beq f 18, args, hin with
  | true, _, _, [p, q], [] => (dMs p).bind fun l => (dSs q).bind fun d => match szA l && Nat.ble l.length 40 && Nat.ble d.length 50 with
    | true => some (.tup [.sh false ((xBV l d).1.map encM), .sh false ((xBV l d).2.map encS)], [])
    | false => none
  | _, true, _, [p], [] => (dMs p).bind fun l => match szA l && Nat.ble l.length 40 with
    | true => some (.sh false ((xAX l).map encM), [])
    | false => none
  | _, _, true, [p, q], [] => (dMs p).bind fun l => (dMs q).bind fun k => match szA l && szA k && Nat.ble (l.length + k.length) 40 with
    | true => some (.sh false ((xAX (l ++ k)).map encM), [])
    | false => none
  | _, _, _, _, _ => none
theorem xQK : xCI Tryz.prog orc := by
  intro f args hin v hout h
  unfold orc at h
  split at h
  · rename_i p q hf
    obtain ⟨l, hl, h⟩ := bind_some h
    obtain ⟨d, hd, h⟩ := bind_some h
    split at h
    · rename_i hc
      cases h
      simp only [Bool.and_eq_true] at hc
      have hf : f = 12 := Nat.eq_of_beq_eq_true (by assumption)
      subst hf
      exact xDt (xJB (q := .sh false (d.map encS)) Sl.sh (Nat.le_of_ble_eq_true hc.1.2) (xJj hc.1.1) (Nat.le_of_ble_eq_true hc.2)) (.cons (PLe.sl (xMT hl)) (.cons (PLe.sl (dSs_ok hd)) .nil)) (PLe.refl _)
    · cases h
  · rename_i p hf
    obtain ⟨l, hl, h⟩ := bind_some h
    split at h
    · rename_i hc
      cases h
      simp only [Bool.and_eq_true] at hc
      have hf : f = 16 := Nat.eq_of_beq_eq_true (by assumption)
      subst hf
      exact xDt (xD1 (Nat.le_of_ble_eq_true hc.2) (xJj hc.1)) (.cons (PLe.sl (xMT hl)) .nil) (PLe.refl _)
    · cases h
  · obtain ⟨l, hl, h⟩ := bind_some h
    obtain ⟨k, hk, h⟩ := bind_some h
    split at h
    · rename_i hc
      cases h
      simp only [Bool.and_eq_true] at hc
      have hf : f = 18 := Nat.eq_of_beq_eq_true (by assumption)
      subst hf
      exact xDt (xI6 (Nat.le_of_ble_eq_true hc.2) (xJj hc.1.1) (xJj hc.1.2)) (.cons (PLe.sl (xMT hl)) (.cons (PLe.sl (xMT hk)) .nil)) (PLe.refl _)
    · cases h
  · cases h
theorem xMw : run Tryz.prog orc noX 400 20 10 [] [] = some (.bool true, []) := by kernel_rfl
theorem xE7 : VC Tryz.prog 10 [] [] (.bool true) [] := xLg xQK xLw 20 _ _ _ _ _ xMw
end Go.Proofs
open Go.V Go.Pu
set_option linter.unusedVariables false
set_option linter.unusedSimpArgs false
set_option maxRecDepth 20000
namespace Go.Proofs
theorem xM8 {l : List RawM} (hl : l.length ≤ 9223372036854775807) (hr : ∀ r ∈ l, r.ok) (n : Nat) (hn : n ≤ 1000) : VC Tryz.prog 11 [.sh false (l.map encW), .int .i64 n] [] (.sh false ((xBX l n).map encM)) [] := xIm (xS4 hl hr n hn) (xAZ rfl rfl)
theorem xFh {l : List RawM} {n : Nat} : ∀ m ∈ xBX l n, MsgSz m := fun m hm => MsgSz.of (xFi m hm) (xES m hm)
theorem xIQ (l : List RawM) (n : Nat) : (xBX l n).length ≤ n := by unfold xBX; rw [List.length_map, List.length_take]; omega
theorem list_w {l : List RawM} {n : Nat} : ∀ m ∈ xBX l n, MsgW m := by
  intro m hm
  obtain ⟨x, _, rfl⟩ := List.mem_map.1 hm
  exact xRb x
theorem xRI {a b : List MsgL} (h : a.Sublist b) (hb : ∀ m ∈ b, MsgSz m) : ∀ m ∈ a, MsgSz m := fun m hm => hb m (h.subset hm)
theorem decW {q : List PV} (n : q.length = 6) (h : ∀ (j : Nat) (p : PV), j < 6 → q[j]? = some p → InTy (.int .u8) p) : ∃ r : RawM, q = encW r ∧ r.ok := by
  obtain ⟨a, b, c, d, e, f, rfl⟩ := list6 n
  obtain ⟨a, rfl, h1⟩ := xJJ (h 0 _ (by omega) rfl)
  obtain ⟨b, rfl, h2⟩ := xJJ (h 1 _ (by omega) rfl)
  obtain ⟨c, rfl, h3⟩ := xJJ (h 2 _ (by omega) rfl)
  obtain ⟨d, rfl, h4⟩ := xJJ (h 3 _ (by omega) rfl)
  obtain ⟨e, rfl, h5⟩ := xJJ (h 4 _ (by omega) rfl)
  obtain ⟨f, rfl, h6⟩ := xJJ (h 5 _ (by omega) rfl)
  exact ⟨⟨a, b, c, d, e, f⟩, rfl, h1, h2, h3, h4, h5, h6⟩
theorem xMb {j : Nat} (h : j < 6) : [CTy.int .u8, .int .u8, .int .u8, .int .u8, .int .u8, .int .u8][j]? = some (.int .u8) := by
  match j, h with
  | 0, _ => rfl
  | 1, _ => rfl
  | 2, _ => rfl
  | 3, _ => rfl
  | 4, _ => rfl
  | 5, _ => rfl
theorem xNI {l : List (List PV)} (h : InTy (.sl [.int .u8, .int .u8, .int .u8, .int .u8, .int .u8, .int .u8]) (.sh false l)) : ∃ rs : List RawM, l = rs.map encW ∧ (∀ r ∈ rs, r.ok) ∧ rs.length ≤ 9223372036854775807 := by
  obtain ⟨xs, h1, h2⟩ := xHg (enc := fun (a : { r : RawM // r.ok }) => encW a.1) h fun e hl hc => by
    obtain ⟨r, rfl, hr⟩ := decW hl fun j p hj hp => hc j _ _ (xMb hj) hp
    exact ⟨⟨r, hr⟩, rfl⟩
  refine ⟨xs.map (·.1), by rw [h1, List.map_map]; rfl, fun r hr => ?_, by simpa [maxLen] using h2⟩
  obtain ⟨a, _, rfl⟩ := List.mem_map.1 hr
  exact a.2
theorem decW1 {q : List PV} (n : q.length = [CTy.int .u8, .int .u8, .int .u8, .int .u8, .int .u8, .int .u8].length) (i : ∀ (j : Nat) (c : CTy) (p : PV), [CTy.int .u8, .int .u8, .int .u8, .int .u8, .int .u8, .int .u8][j]? = some c → q[j]? = some p → InTy c p) : ∃ r : RawM, q = encW r ∧ r.ok :=
  decW n fun j p hj hp => i j _ p (xMb hj) hp
theorem decSp {l : List (List PV)} (h : InTy (.sl [.str, .str]) (.sh false l)) : ∃ xs : List SpanL, l = xs.map encS ∧ xs.length ≤ maxLen := by
  obtain ⟨xs, h1, h2⟩ := xHg (enc := encS) h fun e hl hc => by
    obtain ⟨a, b, rfl⟩ := list2 hl
    obtain ⟨x, rfl, _⟩ := xKM (hc 0 _ _ rfl rfl)
    obtain ⟨y, rfl, _⟩ := xKM (hc 1 _ _ rfl rfl)
    exact ⟨⟨x, y⟩, rfl⟩
  exact ⟨xs, h1, by simpa using h2⟩
theorem sub_stepM {g w : List MsgL} {x y : MsgL} (h : (y :: g).Sublist (x :: w)) : if x = y then g.Sublist w else (y :: g).Sublist w := by
  split
  · rename_i e
    subst e
    exact List.Sublist.of_cons_cons h
  · rename_i e
    cases h with
    | cons _ h => exact h
    | cons_cons _ h => exact (e rfl).elim
theorem vneM (a : MsgL) {lvl site : Nat} {tf : TF} {hf : HF} {x y : VX} (hx : ev tf x = some (.agg (encM a)) := by rfl) (hy : ev tf y = some (.agg (encM a)) := by rfl) :
    vop lvl site tf hf (.eqc true [1, 2, 2, 2, 2, 2, 2, 1] x y) = some ⟨.bool false, [], []⟩ := by
  have h := veqM a a (neg := true) (lvl := lvl) (site := site) (hf := hf) hx hy
  rw [h]
  simp
theorem xSV {l : List MsgL} (hw : ∀ m ∈ l, MsgW m) (h : l ≠ []) : ∃ m, l[l.length - 1]? = some m ∧ (xAX l)[(xAX l).length - 1]? = some m ∧ 0 < (xAX l).length := by
  have e := List.dropLast_concat_getLast h
  have h1 := xCm (l := l.dropLast) (m := l.getLast h) (hw _ (List.getLast_mem h))
  rw [e] at h1
  refine ⟨l.getLast h, ?_, ?_, ?_⟩
  · rw [List.getLast_eq_getElem]
    exact List.getElem?_eq_getElem _
  · rw [h1]
    simp
  · rw [h1]
    simp
end Go.Proofs
