/- Fa -/
import Derived.Test.YtehekbmdfbjoeaaGreatMa
import Derived.Test.YtehekbmdfbjoeaaGreatPu
import Derived.Test.YtehekbmdfbjoeaaGreatVD
import Derived.Test.YtehekbmdfbjoeaaGreatSc
open Go.V Go.Pu
set_option linter.unusedVariables false
set_option linter.unusedSimpArgs false
set_option maxRecDepth 20000
namespace Go.Proofs
def vc87 := vcm Tryz.prog 87
theorem vf87 : VF Tryz.prog 87 = some (27, vc87, [.tmp 4]) := by kernel_rfl
def vc73 := vcm Tryz.prog 73
theorem vf73 : VF Tryz.prog 73 = some (36, vc73, [.tmp 2]) := by kernel_rfl
abbrev xKI (l : List SpanL) : List PV := [.sh false (l.map encS)]
abbrev encMM (l : List MsgL) : List PV := [.sh false (l.map encM)]
def zS : SpanL := ⟨[], []⟩
def xIj : SpanL := ⟨[], []⟩
theorem xQT : VC Tryz.prog 87 [.nils, .int .i64 0] [] .nils [] := by
  refine vcs vf87 ?_
  repeat first|refine sgo ?_|refine sop ?_
  refine cndf (xAA ?_)
  repeat first|refine sgo ?_|refine o_v0 xNp ?_|refine sop ?_
  refine cndf (xAA ?_)
  repeat first|refine sgo ?_|refine sop ?_
  exact xAC ⟨.inr rfl, oAny rfl⟩
theorem xSf {n : Nat} (h0 : 0 < n) (h1 : n ≤ 1000000) : VC Tryz.prog 87 [.nils, .int .i64 n] [] (.own ⟨0, 0⟩ n 0 0) [blkV 2 (List.replicate n (encS xIj))] := by
  refine vcs vf87 ?_
  have s1 : bin .sub (.int .i64 0) (.int .i64 (([] : List (List PV)).length : Int)) = some (.int .i64 0) := rfl
  have s2 : bin .sub (.int .i64 (n : Int)) (.int .i64 0) = some (.int .i64 (n : Int)) := by
    show some (PV.int .i64 (IntKind.i64.wrap ((n : Int) - 0))) = _
    rw [Int.sub_zero, xCH (by omega) (by omega)]
  repeat first|refine sgo ?_|refine sop ?_
  refine cndf (xAA ?_) rfl (decide_eq_false (by omega))
  repeat first|refine sgo ?_|refine o_v0 xNp ?_|refine xBe s1 ?_|refine xBe s2 ?_|refine sop ?_
  refine cndt ?_ rfl (decide_eq_true (by omega))
  repeat first|refine sgo ?_|refine o_v0 xNp ?_|refine o_v0 vsln ?_|refine o_v (vappz (n := n)) ?_|refine xHh (a := 0) (z := 0) ?_|refine sop ?_
  exact xAC ⟨.inr rfl, xL8 rfl rfl rfl (by decide)⟩
def totS (ls : List (List SpanL)) : Nat := (ls.map List.length).sum
theorem xKU (l : List SpanL) (ls : List (List SpanL)) : totS (l :: ls) = l.length + totS ls := by simp [totS]
theorem xOs (ls : List (List SpanL)) : ls.flatten.length = totS ls := by simp [totS, List.length_flatten]
set_option maxHeartbeats 1000000 in
theorem xOV {q : PV} {ls : List (List SpanL)} (hq : Sl q (ls.map xKI)) (hl : ls.length ≤ 1000000) (ht : totS ls ≤ 1000000) : VC Tryz.prog 73 [q] [] (ownV ⟨0, 0⟩ (ls.flatten.map encS)) [blkV 2 (ls.flatten.map encS)] := by
  refine vcs vf73 ?_
  have hml : (ls.map xKI).length = ls.length := List.length_map ..
  have htf := xOs ls
  repeat first|refine sgo ?_|refine sop ?_
  refine xAE (fun (g : Nat × Nat) => [(0, q), (3, .int .i64 g.2), (9, q), (10, .int .i64 (ls.map xKI).length), (11, .int .i64 g.1)])
    (fun g => []) (fun g => ls.length - g.1)
    (fun g => g.1 ≤ ls.length ∧ g.2 + totS (ls.drop g.1) = totS ls) (0, 0) goes ⟨Nat.zero_le _, by simp⟩ ?_
  rintro ⟨i, n⟩ ⟨hi, hn⟩
  dsimp only at hi hn ⊢
  repeat first|refine sgo ?_|refine sop ?_
  refine cnd (fun h => xAA ?_) (fun h => xAD ?_)
  · have hlt : i < ls.length := by have h' := of_decide_eq_true h; omega
    obtain ⟨l, hl⟩ : ∃ x, ls[i]? = some x := ⟨_, List.getElem?_eq_getElem hlt⟩
    have hle := gm (enc := xKI) (n := (i : Int)) hl (by omega)
    rw [xAt hl, xKU] at hn
    have hll : (l.map encS).length = l.length := List.length_map ..
    repeat first|refine sgo ?_|refine sop ?_
    refine cndf (xAA ?_) rfl (decide_eq_false (by omega))
    repeat first|refine sgo ?_|refine sop ?_
    exact agn (i + 1, n + l.length) ⟨by simp only; omega, by simp only; omega⟩ (goes (h1 := by
      refine ⟨rfl, ?_, rfl, rfl, rfl, trivial⟩
      exact congrArg (fun z => some (PV.int .i64 z)) (by simp only [hll]; omega)))
  have hge : i = ls.length := by have h' := of_decide_eq_false h; omega
  subst hge
  have hn2 : n = totS ls := by rw [List.drop_length] at hn; simpa [totS] using hn
  subst hn2
  clear hn h
  rcases Nat.eq_zero_or_pos (totS ls) with h0 | hpos
  · have hall : ∀ (m : List (List SpanL)), totS m = 0 → ∀ l ∈ m, l = [] := by
      intro m
      induction m with
      | nil => intro _ l hl; cases hl
      | cons x m ih =>
        intro h l hl
        rw [xKU] at h
        rcases List.mem_cons.1 hl with rfl | hl
        · exact List.length_eq_zero_iff.1 (by omega)
        · exact ih (by omega) l hl
    have hfl : ls.flatten = [] := List.length_eq_zero_iff.1 (by omega)
    rw [hfl, h0]
    repeat first|refine sgo ?_|refine cv0 xQT ?_|refine sop ?_
    refine xAE (fun (g : Nat) => [(6, ownV ⟨1, 106512⟩ (([] : List SpanL).map encS)), (25, q), (26, .int .i64 (ls.map xKI).length), (27, .int .i64 g)])
      (fun g => [(⟨1, 106512⟩, blkV 2 (([] : List SpanL).map encS))]) (fun g => ls.length - g)
      (fun g => g ≤ ls.length) 0 ((Imp.nil (t := 6) (b := ⟨1, 106512⟩) (esz := 2) rfl rfl (by decide)).trans goes) (Nat.zero_le _) ?_
    intro i hi
    (try dsimp only)
    repeat first|refine sgo ?_|refine sop ?_
    refine cnd (fun h => xAA ?_) (fun h => xAD ?_)
    · have hlt : i < ls.length := by have h' := of_decide_eq_true h; omega
      obtain ⟨l, hl⟩ : ∃ x, ls[i]? = some x := ⟨_, List.getElem?_eq_getElem hlt⟩
      have hle := gm (enc := xKI) (n := (i : Int)) hl (by omega)
      have hl0 := hall ls h0 l (List.mem_of_getElem? hl)
      subst hl0
      repeat first|refine sgo ?_|refine o_v (vaps encS [] []) ?_|refine sop ?_
      exact agn (i + 1) (by omega) goes
    · repeat first|refine sgo ?_|refine sop ?_
      exact xAC ⟨.inr rfl, oOwn rfl⟩
  · have hrep : List.replicate (totS ls) (encS xIj) = (List.replicate (totS ls) xIj).map encS := by rw [List.map_replicate]
    have hg := xSf hpos ht
    rw [hrep] at hg
    generalize totS ls = N at *
    have hcl : (blkV 2 ((List.replicate N xIj).map encS)).frz = false ∧ ∀ e ∈ (blkV 2 ((List.replicate N xIj).map encS)).els, ∀ c ∈ e, cS c = true := ⟨rfl, by intro e he; obtain ⟨a, _, rfl⟩ := List.mem_map.1 he; simp [cS, cN, clean]⟩
    repeat first|refine sgo ?_|refine cv hg ?_|refine sop ?_
    refine xAE (fun (g : Nat × List SpanL) => [(6, .own ⟨1, 73736⟩ N 0 g.2.length), (25, q), (26, .int .i64 (ls.map xKI).length), (27, .int .i64 g.1)])
      (fun g => [(⟨1, 73736⟩, blkV 2 ((g.2 ++ List.replicate (N - g.2.length) xIj).map encS))]) (fun g => ls.length - g.1)
      (fun g => g.1 ≤ ls.length ∧ g.2 ++ (ls.drop g.1).flatten = ls.flatten) (0, []) goes ⟨Nat.zero_le _, rfl⟩ ?_
    rintro ⟨i, o⟩ ⟨hi, hv⟩
    dsimp only at hi hv ⊢
    have hol := congrArg List.length hv
    rw [List.length_append, htf] at hol
    repeat first|refine sgo ?_|refine sop ?_
    refine cnd (fun h => xAA ?_) (fun h => xAD ?_)
    · have hlt : i < ls.length := by have h' := of_decide_eq_true h; omega
      obtain ⟨l, hl⟩ : ∃ x, ls[i]? = some x := ⟨_, List.getElem?_eq_getElem hlt⟩
      have hle := gm (enc := xKI) (n := (i : Int)) hl (by omega)
      rw [xAt hl, List.flatten_cons] at hv hol
      rw [List.length_append] at hol
      have e1 : o ++ l ++ (List.replicate (N - o.length) xIj).drop l.length = (o ++ l) ++ List.replicate (N - (o ++ l).length) xIj := by
        rw [List.drop_replicate, List.length_append]; congr 2; omega
      have hrl : (List.replicate (N - o.length) xIj).length = N - o.length := List.length_replicate ..
      have e2 : o.length + l.length = (o ++ l).length := List.length_append.symm
      repeat first|refine sgo ?_|refine o_v (vapfE encS o l (List.replicate (N - o.length) xIj) e1 e2) ?_|refine sop ?_
      refine agn (i + 1, o ++ l) ⟨by simp only; omega, by rw [← hv]; simp⟩ goes
    · have hge : i = ls.length := by have h' := of_decide_eq_false h; omega
      subst hge
      rw [List.drop_length] at hv hol
      rw [List.flatten_nil, List.append_nil] at hv
      rw [List.flatten_nil, List.length_nil] at hol
      subst hv
      simp only [htf, Nat.sub_self, List.replicate_zero, List.append_nil]
      repeat first|refine sgo ?_|refine sop ?_
      exact xAC ⟨.inr rfl, oOwn rfl⟩
def zeroM : MsgL := ⟨0, [], [], ⟨[], []⟩, [], [], 0⟩
def totM (ls : List (List MsgL)) : Nat := (ls.map List.length).sum
theorem tot_consM (l : List MsgL) (ls : List (List MsgL)) : totM (l :: ls) = l.length + totM ls := by simp [totM]
theorem tot_flatM (ls : List (List MsgL)) : ls.flatten.length = totM ls := by simp [totM, List.length_flatten]
end Go.Proofs
open Go.V Go.Pu
set_option linter.unusedVariables false
set_option linter.unusedSimpArgs false
set_option maxRecDepth 20000
namespace Go.Proofs
def vc25 := vcm Tryz.prog 25
theorem vf25 : VF Tryz.prog 25 = some (74, vc25, [.tmp 2]) := by kernel_rfl
def vc26 := vcm Tryz.prog 26
theorem vf26 : VF Tryz.prog 26 = some (37, vc26, [.tmp 4]) := by kernel_rfl
def vc72 := vcm Tryz.prog 72
theorem vf72 : VF Tryz.prog 72 = some (6, vc72, [.tmp 2]) := by kernel_rfl
def vc71 := vcm Tryz.prog 71
theorem vf71 : VF Tryz.prog 71 = some (17, vc71, [.tmp 4]) := by kernel_rfl
def vc46 := vcm Tryz.prog 46
theorem vf46 : VF Tryz.prog 46 = some (54, vc46, [.tmp 4, .tmp 5]) := by kernel_rfl
def vc15 := vcm Tryz.prog 15
theorem vf15 : VF Tryz.prog 15 = some (17, vc15, [.tmp 4]) := by kernel_rfl
def vc80 := vcm Tryz.prog 80
theorem vf80 : VF Tryz.prog 80 = some (21, vc80, [.tmp 4]) := by kernel_rfl
def vc70 := vcm Tryz.prog 70
theorem vf70 : VF Tryz.prog 70 = some (27, vc70, [.tmp 4]) := by kernel_rfl
def vc68 := vcm Tryz.prog 68
theorem vf68 : VF Tryz.prog 68 = some (18, vc68, [.tmp 4]) := by kernel_rfl
def vc81 := vcm Tryz.prog 81
theorem vf81 : VF Tryz.prog 81 = some (32, vc81, [.tmp 4]) := by kernel_rfl
theorem xPO {q : PV} (s : SpanL) {l : List Str} (hq : Sl q (l.map encT)) (hl : l.length ≤ 1000000) : VC Tryz.prog 26 [.agg (encS s), q] [] (ownV ⟨0, 0⟩ ((xBT s [] l).map encS)) [blkV 2 ((xBT s [] l).map encS)] := by
  refine vcs vf26 ?_
  have hm : ∀ b, VC Tryz.prog 59 [.agg (encS s), .agg (encS b)] [] (.agg (encS (xAV s b))) [] := fun b => by rw [xG4]; exact xGx s b
  repeat first|refine sgo ?_|refine sop ?_
  refine xAE (fun (g : Nat × Str × List SpanL) => [(1, q), (2, .ptr ⟨1, 0⟩ 1 0 0), (5, ownV ⟨1, 8192⟩ (g.2.2.map encS)), (6, .str g.2.1), (7, .int .i64 g.1)])
    (fun g => [(⟨1, 0⟩, ⟨true, false, 2, [encS s]⟩), (⟨1, 8192⟩, blkV 2 (g.2.2.map encS))]) (fun g => l.length - g.1)
    (fun g => g.1 ≤ l.length ∧ g.2.2.length = g.1 ∧ g.2.2 ++ xBT s g.2.1 (l.drop g.1) = xBT s [] l) (0, [], []) goes ⟨Nat.zero_le _, rfl, rfl⟩ ?_
  rintro ⟨i, lo, out⟩ ⟨hi, ho, hv⟩
  dsimp only at hi ho hv ⊢
  repeat first|refine sgo ?_|refine sop ?_
  refine cnd (fun h => xAA ?_) (fun h => xAD ?_)
  · have hlt : i < l.length := by have h' := of_decide_eq_true h; simp only [List.length_map] at h'; omega
    obtain ⟨x, hx⟩ : ∃ x, l[i]? = some x := ⟨_, List.getElem?_eq_getElem hlt⟩
    have hxe := gm (enc := encT) (n := (i : Int)) hx (by omega)
    rw [xAt hx, xBT] at hv
    repeat first|refine sgo ?_|refine cv0 (hm ⟨lo, x⟩) ?_|refine o_v (vap encS (xAV s ⟨lo, x⟩)) ?_|refine sop ?_
    refine agn (i + 1, x, out ++ [xAV s ⟨lo, x⟩]) ⟨by simp only; omega, by simp [ho], ?_⟩ goes
    rw [← hv]; simp
  · have hge : i = l.length := by have h' := of_decide_eq_false h; simp only [List.length_map] at h'; omega
    subst hge
    rw [List.drop_length, xBT] at hv
    repeat first|refine sgo ?_|refine cv0 (hm ⟨lo, []⟩) ?_|refine o_v (vap encS (xAV s ⟨lo, []⟩)) ?_|refine sop ?_
    exact xAC ⟨.inr rfl, oOwn (congrArg (List.map encS) hv)⟩
theorem xKt {q : PV} {l : List Str} (hq : Sl q (l.map encT)) (hl : l.length ≤ 1000000) : VC Tryz.prog 25 [q] [] (ownV ⟨0, 0⟩ ((pivL l).map encT)) [blkV 1 ((pivL l).map encT)] := by
  refine vcs vf25 ?_
  repeat first|refine sgo ?_|refine sop ?_
  refine xAE (fun (g : Nat × List Str) => [(0, q), (3, ownV ⟨1, 8192⟩ (g.2.map encT)), (4, .int .i64 g.1)]) (fun g => [(⟨1, 8192⟩, blkV 1 (g.2.map encT))]) (fun g => l.length - g.1)
    (fun g => g.1 ≤ l.length ∧ g.2.length ≤ g.1 ∧ (l.drop g.1).foldl xCK g.2 = pivL l) (0, []) goes ⟨Nat.zero_le _, Nat.le_refl _, rfl⟩ ?_
  rintro ⟨i, out⟩ ⟨hi, ho, hv⟩
  dsimp only at hi ho hv ⊢
  repeat first|refine sgo ?_|refine sop ?_
  refine cnd (fun h => xAA ?_) (fun h => xAD ?_)
  · have hlt : i < l.length := by have h' := of_decide_eq_true h; simp only [List.length_map] at h'; omega
    obtain ⟨x, hx⟩ : ∃ x, l[i]? = some x := ⟨_, List.getElem?_eq_getElem hlt⟩
    have hxe := gm (enc := encT) (n := (i : Int)) hx (by omega)
    rw [xAt hx, List.foldl_cons] at hv
    have hps := xHb out x
    repeat first|refine sgo ?_|refine sop ?_
    refine xAE (fun (g : Nat × List Str × Bool) => [(0, q), (3, ownV ⟨1, 8192⟩ (out.map encT)), (4, .int .i64 i), (5, ownV ⟨1, 40960⟩ (g.2.1.map encT)), (6, .bool g.2.2), (7, .int .i64 g.1)])
      (fun g => [(⟨1, 8192⟩, blkV 1 (out.map encT)), (⟨1, 40960⟩, blkV 1 (g.2.1.map encT))]) (fun g => out.length - g.1)
      (fun g => g.1 ≤ out.length ∧ g.2.1.length ≤ 2 * g.1 ∧ xAZ x (out.drop g.1) g.2.1 g.2.2 = xAZ x out [] (x == [])) (0, [], x == []) goes ⟨Nat.zero_le _, Nat.le_refl _, rfl⟩ ?_
    rintro ⟨k, nx, d⟩ ⟨hk, hn, hw⟩
    dsimp only at hk hn hw ⊢
    repeat first|refine sgo ?_|refine sop ?_
    refine cnd (fun h2 => xAA ?_) (fun h2 => xAD ?_)
    · have hlt2 : k < out.length := by have h' := of_decide_eq_true h2; simp only [List.length_map] at h'; omega
      obtain ⟨y, hy⟩ : ∃ y, out[k]? = some y := ⟨_, List.getElem?_eq_getElem hlt2⟩
      have hye := gm (enc := encT) (n := (k : Int)) hy (by omega)
      have hye2 : (blkV 1 (out.map encT)).els[0 + (k : Int).toNat]? = some (encT y) := by rw [Nat.zero_add]; exact hye
      rw [xAt hy, xAZ] at hw
      cases d with
      | true =>
        repeat first|refine sgo ?_|refine sop ?_
        refine cndf (xAA ?_)
        repeat first|refine sgo ?_|refine xAI ?_|refine o_v (vap encT y) ?_|refine sop ?_
        refine agn (k + 1, nx ++ [y], true) ⟨by simp only; omega, by simp only [List.length_append, List.length_cons, List.length_nil]; omega, ?_⟩ goes
        rw [if_neg (by simp)] at hw
        exact hw
      | false =>
        repeat first|refine sgo ?_|refine xAI ?_|refine sop ?_
        refine cnd (fun h3 => ?_) (fun h3 => xAA ?_)
        · repeat first|refine sgo ?_|refine xAI ?_|refine sop ?_
          refine cnd (fun h4 => ?_) (fun h4 => xAA ?_)
          · repeat first|refine sgo ?_|refine xAI ?_|refine o_v (vap encT x) ?_|refine o_v (vap encT y) ?_|refine sop ?_
            refine agn (k + 1, nx ++ [x] ++ [y], true) ⟨by simp only; omega, by simp only [List.length_append, List.length_cons, List.length_nil]; omega, ?_⟩ goes
            rw [if_pos ⟨rfl, h3⟩, if_pos h4] at hw
            exact hw
          · repeat first|refine sgo ?_|refine xAI ?_|refine o_v (vap encT y) ?_|refine sop ?_
            refine agn (k + 1, nx ++ [y], true) ⟨by simp only; omega, by simp only [List.length_append, List.length_cons, List.length_nil]; omega, ?_⟩ goes
            rw [if_pos ⟨rfl, h3⟩, if_neg (by simp [h4])] at hw
            exact hw
        · repeat first|refine sgo ?_|refine xAI ?_|refine o_v (vap encT y) ?_|refine sop ?_
          refine agn (k + 1, nx ++ [y], false) ⟨by simp only; omega, by simp only [List.length_append, List.length_cons, List.length_nil]; omega, ?_⟩ goes
          rw [if_neg (by simp [h3])] at hw
          exact hw
    · have hge : k = out.length := by have h' := of_decide_eq_false h2; simp only [List.length_map] at h'; omega
      subst hge
      rw [List.drop_length, xAZ] at hw
      repeat first|refine sgo ?_|refine sop ?_
      refine cnd (fun h3 => ?_) (fun h3 => xAA ?_)
      · have hd : d = false := by simpa using h3
        subst hd
        have hstep : xCK out x = nx ++ [x] := by unfold xCK; simp only [← hw, if_true]
        rw [hstep] at hv hps
        repeat first|refine sgo ?_|refine o_v (vap encT x) ?_|refine sop ?_
        exact agn (i + 1, nx ++ [x]) ⟨by simp only; omega, by simp only; omega, hv⟩ (xQU ⟨1, 40960⟩ ⟨1, 8192⟩)
      · have hd : d = true := by simpa using h3
        subst hd
        have hstep : xCK out x = nx := by unfold xCK; simp only [← hw]; rfl
        rw [hstep] at hv hps
        repeat first|refine sgo ?_|refine sop ?_
        exact agn (i + 1, nx) ⟨by simp only; omega, by simp only; omega, hv⟩ (xQU ⟨1, 40960⟩ ⟨1, 8192⟩)
  · have hge : i = l.length := by have h' := of_decide_eq_false h; simp only [List.length_map] at h'; omega
    subst hge
    rw [List.drop_length] at hv
    repeat first|refine sgo ?_|refine sop ?_
    exact xAC ⟨.inr rfl, oOwn (congrArg (List.map encT) hv)⟩
theorem xPv (a : Str) : VC Tryz.prog 72 [.str a] [] (.bool false) [] := by
  refine vcs vf72 ?_
  repeat' first|refine sgo ?_|refine scn ?_|refine sop ?_|refine xAC ⟨.inr rfl, ?_⟩|refine cnd (fun _ => ?_) (fun _ => ?_)|(refine xBa (fun _ => ?_) (fun _ => ?_) <;> first|refine xAi ?_|refine sop ?_)
  all_goals refine oB ?_
  all_goals simp
theorem xSq (a b : Str) : VC Tryz.prog 71 [.str a, .str b] [] (.bool (Op.bytesLess a b)) [] := by
  refine vcs vf71 ?_
  repeat' first|refine sgo ?_|refine scn ?_|refine cv0 (xM4 _) ?_|refine sop ?_|refine xAC ⟨.inr rfl, ?_⟩|refine cnd (fun _ => ?_) (fun _ => ?_)|(refine xBa (fun _ => ?_) (fun _ => ?_) <;> first|refine cv0 (xM4 _) ?_|refine xAi ?_|refine sop ?_)
  all_goals refine oB ?_
  all_goals simp_all
theorem halfS {n : Nat} : bin .shr (.int .u64 (n : Nat)) (.int .u64 1) = some (.int .u64 ((n / 2 : Nat) : Int)) := by
  show (if (1 : Int) < 0 then none else some (PV.int .u64 ((n : Int).fdiv (2 ^ (Int.toNat 1))))) = _
  rw [if_neg (by decide), Int.fdiv_eq_ediv_of_nonneg _ (by decide)]
  rfl
theorem noTupS {a b : PV} (ha : ∀ q, a ≠ .tup q) (hb : ∀ q, b ≠ .tup q) : ∀ vs, PV.tup [a, b] = .tup vs → ∀ p ∈ vs, ∀ q, p ≠ .tup q := by
  intro vs h p hp q
  cases h
  rcases List.mem_cons.1 hp with rfl | hp
  · exact ha q
  · rw [List.mem_singleton.1 hp]; exact hb q
set_option maxHeartbeats 1000000 in
theorem bsS_vc {q : PV} {t : List Str} (k : Str) (hs : t.Pairwise (fun a b => Op.bytesLess a b = true)) (hq : Sl q (t.map encT)) (hl : t.length ≤ 1000000) : VC Tryz.prog 46 [q, .str k] [] (.tup [.int .i64 (lbS t k), .bool (fdS t k)]) [] := by
  refine xCp vf46 ?_ (Nat.le_of_ble_eq_true rfl) (noTupS (by intro q h; cases h) (by intro q h; cases h))
  have hle := xQG k t
  have hget := fun m p => xUo hs k (m := m) (p := p)
  have hfd : (match t[lbS t k]? with | some p => p == k | none => false) = fdS t k := rfl
  have hml : (t.map encT).length = t.length := List.length_map ..
  generalize lbS t k = lb at *
  generalize fdS t k = fd at *
  repeat first|refine sgo ?_|refine sop ?_
  refine xAE (fun (g : Nat × Nat) => [(0, q), (1, .str k), (6, .int .i64 (t.map encT).length), (7, .int .i64 g.1), (8, .int .i64 g.2)])
    (fun g => []) (fun g => g.2 - g.1) (fun g => g.1 ≤ lb ∧ lb ≤ g.2 ∧ g.2 ≤ t.length) (0, t.length) (goes (h1 := by refine ⟨rfl, rfl, rfl, rfl, ?_, trivial⟩; exact congrArg (fun n : Nat => some (PV.int .i64 n)) hml)) ⟨Nat.zero_le _, hle, Nat.le_refl _⟩ ?_
  rintro ⟨i, j⟩ ⟨h1, h2, h3⟩
  dsimp only at h1 h2 h3 ⊢
  repeat first|refine sgo ?_|refine sop ?_
  refine cnd (fun h => xAA ?_) (fun h => xAD ?_)
  · have hlt : i < j := by have h' := of_decide_eq_true h; omega
    have c1 : IntKind.u64.wrap ((i : Int) + (j : Int)) = ((i + j : Nat) : Int) := by unfold IntKind.wrap; simp [IntKind.bits, IntKind.signed]; omega
    have c2 : IntKind.i64.wrap (((i + j) / 2 : Nat) : Int) = (((i + j) / 2 : Nat) : Int) := xCH (by omega) (by omega)
    obtain ⟨p, hp⟩ : ∃ x, t[(i + j) / 2]? = some x := ⟨_, List.getElem?_eq_getElem (by omega)⟩
    have hpe := gm (enc := encT) (n := (((i + j) / 2 : Nat) : Int)) hp (by omega)
    have hgp := hget _ _ hp
    repeat first|refine sgo ?_|refine xB6 ?_|refine xBe halfS ?_|refine cv0 (xSq p k) ?_|refine sop ?_
    refine cnd (fun h4 => ?_) (fun h4 => ?_)
    · have h5 := hgp.1 h4
      repeat first|refine sgo ?_|refine sop ?_
      exact agn ((i + j) / 2 + 1, j) ⟨by simp only; omega, by simp only; omega, by simp only; omega⟩ goes
    · have h5 : ¬ (i + j) / 2 < lb := fun h5 => by rw [hgp.2 h5] at h4; cases h4
      repeat first|refine sgo ?_|refine sop ?_
      exact agn (i, (i + j) / 2) ⟨by simp only; omega, by simp only; omega, by simp only; omega⟩ goes
  · have h' := of_decide_eq_false h
    have e : i = lb := by omega
    subst e
    repeat first|refine sgo ?_|refine sop ?_
    refine xBa (fun hg => ?_) (fun hg => ?_)
    · have hlt : i < t.length := by have h' := of_decide_eq_true hg; omega
      obtain ⟨p, hp⟩ : ∃ x, t[i]? = some x := ⟨_, List.getElem?_eq_getElem hlt⟩
      have hpe := gm (enc := encT) (n := (i : Int)) hp (by omega)
      rw [hp] at hfd
      repeat first|refine sgo ?_|refine cv0 (xPv p) ?_|refine sop ?_
      refine xBa (fun hg2 => ?_) (fun hg2 => ?_)
      · repeat first|refine sgo ?_|refine sop ?_
        refine xAC ⟨.inr rfl, oAny ?_⟩
        rw [← hfd]
        simp only [hg2]
        rfl
      · repeat first|refine sgo ?_|refine cv0 (xPv p) ?_|refine sop ?_
        refine xAC ⟨.inr rfl, oAny ?_⟩
        rw [← hfd]
        simp only [hg2]
        rfl
    · have hge : t.length ≤ i := by have h' := of_decide_eq_false hg; omega
      rw [List.getElem?_eq_none hge] at hfd
      repeat first|refine sgo ?_|refine sop ?_
      refine xAC ⟨.inr rfl, oAny ?_⟩
      rw [← hfd]
      rfl
theorem kid_vc {q : PV} {t : List Str} (k : Str) (hs : Asc t) (hq : Sl q (t.map encT)) (hl : t.length ≤ 1000000) : VC Tryz.prog 15 [.str k, q] [] (.int .i64 (atL k t)) [] := by
  refine vcs vf15 ?_
  have h1 := xTL k hs.2
  have h2 := xQG k t
  have hb := bsS_vc k hs.2 hq hl
  rw [← h1]
  generalize lbS t k = n at *
  generalize fdS t k = b at *
  cases b
  · repeat first|refine sgo ?_|refine cv0 hb ?_|refine sop ?_
    refine cndf (xAA ?_)
    repeat first|refine sgo ?_|refine sop ?_
    exact xAC ⟨.inr rfl, oI rfl⟩
  · repeat first|refine sgo ?_|refine cv0 hb ?_|refine sop ?_
    refine cndt ?_
    repeat first|refine sgo ?_|refine sop ?_
    exact xAC ⟨.inr rfl, oI rfl⟩
theorem xQr (a b : SpanL) : VC Tryz.prog 80 [.agg (encS a), .agg (encS b)] [] (.bool (xA7 a b)) [] := by
  refine vcs vf80 ?_
  repeat' first|refine sgo ?_|refine scn ?_|refine cv0 (xCQ b) ?_|refine cv0 (xQS a b.lo) ?_|refine cv0 (xCz a.hi b.hi) ?_|refine sop ?_|refine xAC ⟨.inr rfl, ?_⟩|refine cnd (fun _ => ?_) (fun _ => ?_)|(refine xBa (fun _ => ?_) (fun _ => ?_) <;> first|refine cv0 (xCQ b) ?_|refine cv0 (xQS a b.lo) ?_|refine cv0 (xCz a.hi b.hi) ?_|refine xAi ?_|refine sop ?_)
  all_goals refine oB ?_
  all_goals simp_all [xA7]
theorem xN9 (a b : SpanL) : VC Tryz.prog 70 [.agg (encS a), .agg (encS b)] [] (.bool (xGz a b)) [] := by
  refine vcs vf70 ?_
  repeat' first|refine sgo ?_|refine scn ?_|refine cv0 (xBn b) ?_|refine cv0 (xBn a) ?_|refine cv0 (xF9 a.hi b.hi) ?_|refine sop ?_|refine xAC ⟨.inr rfl, ?_⟩|refine cnd (fun _ => ?_) (fun _ => ?_)|(refine xBa (fun _ => ?_) (fun _ => ?_) <;> first|refine cv0 (xBn b) ?_|refine cv0 (xBn a) ?_|refine cv0 (xF9 a.hi b.hi) ?_|refine xAi ?_|refine sop ?_)
  all_goals refine oB ?_
  all_goals simp_all [xGz]
theorem in_vc {q : PV} {l : List SpanL} (k : Str) (hq : Sl q (l.map encS)) (hl : l.length ≤ maxLen) : VC Tryz.prog 68 [q, .str k] [] (.bool (inL l k)) [] := by
  refine vcs vf68 ?_
  unfold maxLen at hl
  repeat first|refine sgo ?_|refine sop ?_
  refine xAE (fun (g : Nat) => [(0, q), (1, .str k), (5, .int .i64 g)]) (fun g => []) (fun g => l.length - g)
    (fun g => g ≤ l.length ∧ (l.drop g).any (fun s => hasL s k) = inL l k) 0 goes ⟨Nat.zero_le _, rfl⟩ ?_
  rintro i ⟨hi, hv⟩
  (try dsimp only)
  repeat first|refine sgo ?_|refine sop ?_
  refine cnd (fun h => xAA ?_) (fun h => xAD ?_)
  · have hlt : i < l.length := by have h' := of_decide_eq_true h; simp only [List.length_map] at h'; omega
    obtain ⟨x, hx⟩ : ∃ x, l[i]? = some x := ⟨_, List.getElem?_eq_getElem hlt⟩
    have hxe := gm (enc := encS) (n := (i : Int)) hx (by omega)
    rw [xSw hx] at hv
    repeat first|refine sgo ?_|refine cv0 (xPR x k) ?_|refine sop ?_
    refine cnd (fun h2 => ?_) (fun h2 => xAA ?_)
    · repeat first|refine sgo ?_|refine sop ?_
      refine xAC ⟨.inr rfl, oB ?_⟩
      rw [← hv, h2]; rfl
    · repeat first|refine sgo ?_|refine sop ?_
      refine agn (i + 1) ⟨by omega, ?_⟩ goes
      rw [← hv, h2]; rfl
  · have hge : i = l.length := by have h' := of_decide_eq_false h; simp only [List.length_map] at h'; omega
    subst hge
    repeat first|refine sgo ?_|refine sop ?_
    refine xAC ⟨.inr rfl, oB ?_⟩
    rw [List.drop_length] at hv
    exact hv
theorem xRz {q : PV} (s : SpanL) {l : List Str} (hq : Sl q (l.map encT)) (hl : l.length ≤ 1000000) : VC Tryz.prog 81 [.agg (encS s), q] [] (ownV ⟨0, 0⟩ ((xBT s [] l).map encS)) [blkV 2 ((xBT s [] l).map encS)] := by
  refine vcs vf81 ?_
  repeat first|refine sgo ?_|refine sop ?_
  refine xAE (fun (g : Nat × Str × List SpanL) => [(2, .ptr ⟨1, 0⟩ 1 0 0), (5, ownV ⟨1, 49208⟩ (g.2.2.map encS)), (6, .str g.2.1), (9, q), (10, .int .i64 (l.map encT).length), (11, .int .i64 g.1)])
    (fun g => [(⟨1, 0⟩, ⟨true, false, 2, [encS s]⟩), (⟨1, 49208⟩, blkV 2 (g.2.2.map encS))]) (fun g => l.length - g.1)
    (fun g => g.1 ≤ l.length ∧ g.2.2.length = g.1 ∧ g.2.2 ++ xBT s g.2.1 (l.drop g.1) = xBT s [] l) (0, [], []) ((Imp.nil (t := 5) (b := ⟨1, 49208⟩) (esz := 2) rfl rfl (by decide)).trans goes) ⟨Nat.zero_le _, rfl, rfl⟩ ?_
  rintro ⟨i, lo, out⟩ ⟨hi, ho, hv⟩
  dsimp only at hi ho hv ⊢
  repeat first|refine sgo ?_|refine sop ?_
  refine cnd (fun h => xAA ?_) (fun h => xAD ?_)
  · have hlt : i < l.length := by have h' := of_decide_eq_true h; simp only [List.length_map] at h'; omega
    obtain ⟨x, hx⟩ : ∃ x, l[i]? = some x := ⟨_, List.getElem?_eq_getElem hlt⟩
    have hxe := gm (enc := encT) (n := (i : Int)) hx (by omega)
    rw [xAt hx, xBT] at hv
    repeat first|refine sgo ?_|refine cv0 (xF7 s ⟨lo, x⟩) ?_|refine o_v (vap encS (xAV s ⟨lo, x⟩)) ?_|refine sop ?_
    refine agn (i + 1, x, out ++ [xAV s ⟨lo, x⟩]) ⟨by simp only; omega, by simp [ho], ?_⟩ goes
    rw [← hv]; simp
  · have hge : i = l.length := by have h' := of_decide_eq_false h; simp only [List.length_map] at h'; omega
    subst hge
    rw [List.drop_length, xBT] at hv
    repeat first|refine sgo ?_|refine cv0 (xF7 s ⟨lo, []⟩) ?_|refine o_v (vap encS (xAV s ⟨lo, []⟩)) ?_|refine sop ?_
    exact xAC ⟨.inr rfl, oOwn (congrArg (List.map encS) hv)⟩
end Go.Proofs
open Go.V Go.Pu
set_option linter.unusedVariables false
set_option linter.unusedSimpArgs false
set_option maxRecDepth 20000
namespace Go.Proofs
def vc49 := vcm Tryz.prog 49
theorem vf49 : VF Tryz.prog 49 = some (11, vc49, [.tmp 2]) := by kernel_rfl
def vc52 := vcm Tryz.prog 52
theorem vf52 : VF Tryz.prog 52 = some (11, vc52, [.tmp 2]) := by kernel_rfl
def vc53 := vcm Tryz.prog 53
theorem vf53 : VF Tryz.prog 53 = some (11, vc53, [.tmp 2]) := by kernel_rfl
def vc56 := vcm Tryz.prog 56
theorem vf56 : VF Tryz.prog 56 = some (9, vc56, [.tmp 3]) := by kernel_rfl
def vc79 := vcm Tryz.prog 79
theorem vf79 : VF Tryz.prog 79 = some (8, vc79, [.tmp 3]) := by kernel_rfl
def vc95 := vcm Tryz.prog 95
theorem vf95 : VF Tryz.prog 95 = some (9, vc95, [.tmp 3]) := by kernel_rfl
def vc57 := vcm Tryz.prog 57
theorem vf57 : VF Tryz.prog 57 = some (9, vc57, [.tmp 4]) := by kernel_rfl
def vc100 := vcm Tryz.prog 100
theorem vf100 : VF Tryz.prog 100 = some (19, vc100, [.tmp 4]) := by kernel_rfl
def vc94 := vcm Tryz.prog 94
theorem vf94 : VF Tryz.prog 94 = some (9, vc94, [.tmp 4]) := by kernel_rfl
def vc88 := vcm Tryz.prog 88
theorem vf88 : VF Tryz.prog 88 = some (10, vc88, [.tmp 4]) := by kernel_rfl
def vc75 := vcm Tryz.prog 75
theorem vf75 : VF Tryz.prog 75 = some (10, vc75, [.tmp 4]) := by kernel_rfl
def vc76 := vcm Tryz.prog 76
theorem vf76 : VF Tryz.prog 76 = some (11, vc76, []) := by kernel_rfl
theorem xM6 (m : MsgL) : VC Tryz.prog 49 [.agg (encM m)] [] (.bool (xBA m)) [] := by
  refine vcs vf49 ?_
  repeat' first|refine sgo ?_|refine scn ?_|refine sop ?_|refine xAC ⟨.inr rfl, ?_⟩|refine cnd (fun _ => ?_) (fun _ => ?_)|(refine xBa (fun _ => ?_) (fun _ => ?_) <;> first|refine xAi ?_|refine sop ?_)
  all_goals refine oB ?_
  all_goals simp_all [xBA]
theorem xPQ (m : MsgL) : VC Tryz.prog 52 [.agg (encM m)] [] (.bool (xBA m)) [] := by
  refine vcs vf52 ?_
  repeat' first|refine sgo ?_|refine scn ?_|refine sop ?_|refine xAC ⟨.inr rfl, ?_⟩|refine cnd (fun _ => ?_) (fun _ => ?_)|(refine xBa (fun _ => ?_) (fun _ => ?_) <;> first|refine xAi ?_|refine sop ?_)
  all_goals refine oB ?_
  all_goals simp_all [xBA]
theorem xKo (m : MsgL) : VC Tryz.prog 53 [.agg (encM m)] [] (.bool (xAh m)) [] := by
  refine vcs vf53 ?_
  repeat' first|refine sgo ?_|refine scn ?_|refine sop ?_|refine xAC ⟨.inr rfl, ?_⟩|refine cnd (fun _ => ?_) (fun _ => ?_)|(refine xBa (fun _ => ?_) (fun _ => ?_) <;> first|refine xAi ?_|refine sop ?_)
  all_goals refine oB ?_
  all_goals simp_all [xAh]
abbrev bxS (s : SpanL) : Blk := ⟨true, false, 2, [encS s]⟩
abbrev bxB (b : List SpanL) : List Blk := [⟨true, false, 1, [[ownV ⟨0, 1⟩ (b.map encS)]]⟩, blkV 2 (b.map encS)]
theorem mA_vc (s y : SpanL) : VC Tryz.prog 79 [.agg (encS y), .ptr ⟨0, 0⟩ 1 0 0] [bxS s] (.bool (!xA7 s y)) [bxS s] := by
  refine vcs vf79 ?_
  repeat first|refine sgo ?_|refine cv0 (xQr s y) ?_|refine sop ?_
  refine xAC ⟨.inr rfl, ?_⟩
  exact oG []
theorem mB_vc (s y : SpanL) : VC Tryz.prog 56 [.agg (encS y), .ptr ⟨0, 0⟩ 1 0 0] [bxS s] (.bool (tch y s)) [bxS s] := by
  refine vcs vf56 ?_
  repeat first|refine sgo ?_|refine cv0 (xF7 y s) ?_|refine cv0 (xCQ (xAV y s)) ?_|refine sop ?_
  refine xAC ⟨.inr rfl, ?_⟩
  exact oG []
theorem mC_vc (s y : SpanL) : VC Tryz.prog 95 [.agg (encS y), .ptr ⟨0, 0⟩ 1 0 0] [bxS s] (.bool (tch y s)) [bxS s] := by
  refine vcs vf95 ?_
  repeat first|refine sgo ?_|refine cv0 (xF7 y s) ?_|refine cv0 (xCQ (xAV y s)) ?_|refine sop ?_
  refine xAC ⟨.inr rfl, ?_⟩
  exact oG []
def idxI {α : Type} (p : α → Bool) (l : List α) : Int := if l.any p = true then (l.findIdx p : Nat) else -1
theorem xFm {α : Type} {p : α → Bool} {l : List α} {i : Nat} {x : α} (hx : l[i]? = some x) (hp : p x = true) (hv : (l.take i).any p = false) : idxI p l = (i : Int) := by
  have hls : l = l.take i ++ x :: l.drop (i + 1) := by rw [← xAt hx, List.take_append_drop]
  have hi : i < l.length := (List.getElem?_eq_some_iff.1 hx).1
  have ha : l.any p = true := by rw [hls]; simp [hp]
  unfold idxI
  rw [if_pos ha]
  have : l.findIdx p = i := by
    rw [hls, List.findIdx_append, if_neg]
    · simp [List.findIdx_cons, hp]; omega
    · have h3 : ∀ y ∈ l.take i, p y = false := by simpa using hv
      intro h4
      have := List.findIdx_getElem (w := h4)
      rw [h3 _ (List.getElem_mem _)] at this
      cases this
  rw [this]
theorem xNS {α : Type} (p : α → Bool) (l : List α) : decide (idxI p l ≥ 0) = l.any p := by
  unfold idxI
  cases h : l.any p <;> simp
theorem xUv {l : List SpanL} (hl : l.length ≤ 60000) (s : SpanL) : VC Tryz.prog 83 [.sh false (l.map encS), .fn 79 [.ptr ⟨0, 0⟩ 1 0 0]] [(bxS s)] (.int .i64 (idxI (fun y => !xA7 s y) l)) [(bxS s)] := by
  refine vcs vf83 ?_
  repeat first|refine sgo ?_|refine sop ?_
  refine xAE (fun (g : Nat) => [(0, .sh false (l.map encS)), (1, .fn 79 [.ptr ⟨0, 0⟩ 1 0 0]), (7, .int .i64 (l.map encS).length), (8, .int .i64 g)]) (fun g => [(⟨0, 0⟩, (bxS s))]) (fun g => l.length - g)
    (fun g => g ≤ l.length ∧ (l.take g).any (fun y => !xA7 s y) = false) 0 xAS ⟨Nat.zero_le _, rfl⟩ ?_
  rintro i ⟨hi, hv⟩
  (try dsimp only at hi hv ⊢)
  repeat first|refine sgo ?_|refine sop ?_
  refine cnd (fun h => xAA ?_) (fun h => xAD ?_)
  · have hlt : i < l.length := by have h' := of_decide_eq_true h; simp only [List.length_map] at h'; omega
    obtain ⟨y, hy⟩ : ∃ y, l[i]? = some y := ⟨_, List.getElem?_eq_getElem hlt⟩
    have hxe := gm (enc := encS) (n := (i : Int)) hy (by omega)
    repeat first|refine sgo ?_|refine cl (lent := [⟨0, 0⟩]) (ht := (Targ.pl rfl rfl (Nat.le_of_ble_eq_true rfl))) (mA_vc s y) ?_|refine sop ?_
    refine cnd (fun h2 => ?_) (fun h2 => xAA ?_)
    · repeat first|refine sgo ?_|refine sop ?_
      refine xAC ⟨.inr rfl, ?_⟩
      rw [xFm (p := (fun y => !xA7 s y)) hy h2 hv]
      exact oG []
    · repeat first|refine sgo ?_|refine sop ?_
      refine agn (Q := fun _ _ => True) (i + 1) ⟨by omega, ?_⟩ xAS
      rw [List.take_add_one, hy]
      simp only [Option.toList, List.any_append, List.any_cons, List.any_nil, h2, Bool.or_false] at hv ⊢
      exact hv
  · have hge : i = l.length := by have h' := of_decide_eq_false h; simp only [List.length_map] at h'; omega
    subst hge
    rw [List.take_length] at hv
    repeat first|refine sgo ?_|refine sop ?_
    refine xAC ⟨.inr rfl, ?_⟩
    have e : idxI (fun y => !xA7 s y) l = -1 := by unfold idxI; rw [if_neg (by rw [hv]; simp)]
    rw [e]
    exact oG []
theorem xQv {l : List SpanL} (hl : l.length ≤ 60000) (s : SpanL) : VC Tryz.prog 57 [.sh false (l.map encS), .fn 79 [.ptr ⟨0, 0⟩ 1 0 0]] [(bxS s)] (.bool (l.any (fun y => !xA7 s y))) [(bxS s)] := by
  have h := xUv hl s
  rw [← xNS]
  refine vcs vf57 ?_
  repeat first|refine sgo ?_|refine cl (lent := [⟨0, 0⟩]) h ?_|refine sop ?_
  refine xAC ⟨.inr rfl, ?_⟩
  exact oG []
theorem xUu {l : List SpanL} (hl : l.length ≤ 60000) (s : SpanL) : VC Tryz.prog 83 [.sh false (l.map encS), .fn 56 [.ptr ⟨0, 0⟩ 1 0 0]] [(bxS s)] (.int .i64 (idxI (fun y => tch y s) l)) [(bxS s)] := by
  refine vcs vf83 ?_
  repeat first|refine sgo ?_|refine sop ?_
  refine xAE (fun (g : Nat) => [(0, .sh false (l.map encS)), (1, .fn 56 [.ptr ⟨0, 0⟩ 1 0 0]), (7, .int .i64 (l.map encS).length), (8, .int .i64 g)]) (fun g => [(⟨0, 0⟩, (bxS s))]) (fun g => l.length - g)
    (fun g => g ≤ l.length ∧ (l.take g).any (fun y => tch y s) = false) 0 xAS ⟨Nat.zero_le _, rfl⟩ ?_
  rintro i ⟨hi, hv⟩
  (try dsimp only at hi hv ⊢)
  repeat first|refine sgo ?_|refine sop ?_
  refine cnd (fun h => xAA ?_) (fun h => xAD ?_)
  · have hlt : i < l.length := by have h' := of_decide_eq_true h; simp only [List.length_map] at h'; omega
    obtain ⟨y, hy⟩ : ∃ y, l[i]? = some y := ⟨_, List.getElem?_eq_getElem hlt⟩
    have hxe := gm (enc := encS) (n := (i : Int)) hy (by omega)
    repeat first|refine sgo ?_|refine cl (lent := [⟨0, 0⟩]) (ht := (Targ.pl rfl rfl (Nat.le_of_ble_eq_true rfl))) (mB_vc s y) ?_|refine sop ?_
    refine cnd (fun h2 => ?_) (fun h2 => xAA ?_)
    · repeat first|refine sgo ?_|refine sop ?_
      refine xAC ⟨.inr rfl, ?_⟩
      rw [xFm (p := (fun y => tch y s)) hy h2 hv]
      exact oG []
    · repeat first|refine sgo ?_|refine sop ?_
      refine agn (Q := fun _ _ => True) (i + 1) ⟨by omega, ?_⟩ xAS
      rw [List.take_add_one, hy]
      simp only [Option.toList, List.any_append, List.any_cons, List.any_nil, h2, Bool.or_false] at hv ⊢
      exact hv
  · have hge : i = l.length := by have h' := of_decide_eq_false h; simp only [List.length_map] at h'; omega
    subst hge
    rw [List.take_length] at hv
    repeat first|refine sgo ?_|refine sop ?_
    refine xAC ⟨.inr rfl, ?_⟩
    have e : idxI (fun y => tch y s) l = -1 := by unfold idxI; rw [if_neg (by rw [hv]; simp)]
    rw [e]
    exact oG []
theorem xU9 {l : List SpanL} (hl : l.length ≤ 60000) (s : SpanL) : VC Tryz.prog 57 [.sh false (l.map encS), .fn 56 [.ptr ⟨0, 0⟩ 1 0 0]] [(bxS s)] (.bool (l.any (fun y => tch y s))) [(bxS s)] := by
  have h := xUu hl s
  rw [← xNS]
  refine vcs vf57 ?_
  repeat first|refine sgo ?_|refine cl (lent := [⟨0, 0⟩]) h ?_|refine sop ?_
  refine xAC ⟨.inr rfl, ?_⟩
  exact oG []
theorem xUt {l : List SpanL} (hl : l.length ≤ 60000) (s : SpanL) : VC Tryz.prog 100 [ownV ⟨0, 1⟩ (l.map encS), .fn 95 [.ptr ⟨0, 0⟩ 1 0 0]] [(bxS s), blkV 2 (l.map encS)] (.int .i64 (idxI (fun y => tch y s) l)) [(bxS s), blkV 2 (l.map encS)] := by
  refine vcs vf100 ?_
  repeat first|refine sgo ?_|refine sop ?_
  refine xAE (fun (g : Nat) => [(0, ownV ⟨0, 1⟩ (l.map encS)), (1, .fn 95 [.ptr ⟨0, 0⟩ 1 0 0]), (7, .int .i64 (l.map encS).length), (8, .int .i64 g)]) (fun g => [(⟨0, 0⟩, (bxS s)), (⟨0, 1⟩, blkV 2 (l.map encS))]) (fun g => l.length - g)
    (fun g => g ≤ l.length ∧ (l.take g).any (fun y => tch y s) = false) 0 xAS ⟨Nat.zero_le _, rfl⟩ ?_
  rintro i ⟨hi, hv⟩
  (try dsimp only at hi hv ⊢)
  repeat first|refine sgo ?_|refine sop ?_
  refine cnd (fun h => xAA ?_) (fun h => xAD ?_)
  · have hlt : i < l.length := by have h' := of_decide_eq_true h; simp only [List.length_map] at h'; omega
    obtain ⟨y, hy⟩ : ∃ y, l[i]? = some y := ⟨_, List.getElem?_eq_getElem hlt⟩
    have hxe : (blkV 2 (l.map encS)).els[((i : Nat) : Int).toNat]? = some (encS y) := gm (enc := encS) (n := (i : Int)) hy (by omega)
    repeat first|refine sgo ?_|refine cl (lent := [⟨0, 0⟩]) (ht := (Targ.pl rfl rfl (Nat.le_of_ble_eq_true rfl))) (mC_vc s y) ?_|refine sop ?_
    refine cnd (fun h2 => ?_) (fun h2 => xAA ?_)
    · repeat first|refine sgo ?_|refine sop ?_
      refine xAC ⟨.inr rfl, ?_⟩
      rw [xFm (p := (fun y => tch y s)) hy h2 hv]
      exact oG []
    · repeat first|refine sgo ?_|refine sop ?_
      refine agn (Q := fun _ _ => True) (i + 1) ⟨by omega, ?_⟩ xAS
      rw [List.take_add_one, hy]
      simp only [Option.toList, List.any_append, List.any_cons, List.any_nil, h2, Bool.or_false] at hv ⊢
      exact hv
  · have hge : i = l.length := by have h' := of_decide_eq_false h; simp only [List.length_map] at h'; omega
    subst hge
    rw [List.take_length] at hv
    repeat first|refine sgo ?_|refine sop ?_
    refine xAC ⟨.inr rfl, ?_⟩
    have e : idxI (fun y => tch y s) l = -1 := by unfold idxI; rw [if_neg (by rw [hv]; simp)]
    rw [e]
    exact oG []
theorem xU8 {l : List SpanL} (hl : l.length ≤ 60000) (s : SpanL) : VC Tryz.prog 94 [ownV ⟨0, 1⟩ (l.map encS), .fn 95 [.ptr ⟨0, 0⟩ 1 0 0]] [(bxS s), blkV 2 (l.map encS)] (.bool (l.any (fun y => tch y s))) [(bxS s), blkV 2 (l.map encS)] := by
  have h := xUt hl s
  rw [← xNS]
  refine vcs vf94 ?_
  repeat first|refine sgo ?_|refine cl (lent := [⟨0, 0⟩, ⟨0, 1⟩]) h ?_|refine sop ?_
  refine xAC ⟨.inr rfl, ?_⟩
  exact oG []
def hasB (b : List SpanL) (s : SpanL) : Bool := b.any fun y => tch y s
theorem xVI {b : List SpanL} (hb : b.length ≤ 60000) (s : SpanL) : VC Tryz.prog 88 [.ptr ⟨0, 0⟩ 1 0 0, .agg (encS s)] (bxB b) (.bool (hasB b s)) (bxB b) := by
  have h := xU8 hb s
  have e : b.any (fun y => tch y s) = hasB b s := rfl
  rw [e] at h
  refine vcs vf88 ?_
  repeat first|refine sgo ?_|refine cl (lent := [⟨1, 0⟩, ⟨0, 1⟩]) h ?_|refine sop ?_
  refine xAC ⟨.inr rfl, ?_⟩
  exact oG []
theorem xUs {l : List SpanL} (hl : l.length ≤ 60000) {b : (List SpanL)} (hb : b.length ≤ 60000) : VC Tryz.prog 83 [.sh false (l.map encS), .fn 1000088 [.ptr ⟨0, 0⟩ 1 0 0]] ((bxB b)) (.int .i64 (idxI (hasB b) l)) ((bxB b)) := by
  refine vcs vf83 ?_
  repeat first|refine sgo ?_|refine sop ?_
  refine xAE (fun (g : Nat) => [(0, .sh false (l.map encS)), (1, .fn 1000088 [.ptr ⟨0, 0⟩ 1 0 0]), (7, .int .i64 (l.map encS).length), (8, .int .i64 g)]) (fun g => [(⟨0, 0⟩, ⟨true, false, 1, [[ownV ⟨0, 1⟩ (b.map encS)]]⟩), (⟨0, 1⟩, blkV 2 (b.map encS))]) (fun g => l.length - g)
    (fun g => g ≤ l.length ∧ (l.take g).any (hasB b) = false) 0 xAS ⟨Nat.zero_le _, rfl⟩ ?_
  rintro i ⟨hi, hv⟩
  (try dsimp only at hi hv ⊢)
  repeat first|refine sgo ?_|refine sop ?_
  refine cnd (fun h => xAA ?_) (fun h => xAD ?_)
  · have hlt : i < l.length := by have h' := of_decide_eq_true h; simp only [List.length_map] at h'; omega
    obtain ⟨y, hy⟩ : ∃ y, l[i]? = some y := ⟨_, List.getElem?_eq_getElem hlt⟩
    have hxe := gm (enc := encS) (n := (i : Int)) hy (by omega)
    repeat first|refine sgo ?_|refine cl (lent := [⟨0, 0⟩, ⟨0, 1⟩]) (ht := (Targ.bd (f' := 1000088) rfl rfl)) (xVI hb y) ?_|refine sop ?_
    refine cnd (fun h2 => ?_) (fun h2 => xAA ?_)
    · repeat first|refine sgo ?_|refine sop ?_
      refine xAC ⟨.inr rfl, ?_⟩
      rw [xFm (p := (hasB b)) hy h2 hv]
      exact oG []
    · repeat first|refine sgo ?_|refine sop ?_
      refine agn (Q := fun _ _ => True) (i + 1) ⟨by omega, ?_⟩ xAS
      rw [List.take_add_one, hy]
      simp only [Option.toList, List.any_append, List.any_cons, List.any_nil, h2, Bool.or_false] at hv ⊢
      exact hv
  · have hge : i = l.length := by have h' := of_decide_eq_false h; simp only [List.length_map] at h'; omega
    subst hge
    rw [List.take_length] at hv
    repeat first|refine sgo ?_|refine sop ?_
    refine xAC ⟨.inr rfl, ?_⟩
    have e : idxI (hasB b) l = -1 := by unfold idxI; rw [if_neg (by rw [hv]; simp)]
    rw [e]
    exact oG []
theorem xU7 {l : List SpanL} (hl : l.length ≤ 60000) {b : (List SpanL)} (hb : b.length ≤ 60000) : VC Tryz.prog 57 [.sh false (l.map encS), .fn 1000088 [.ptr ⟨0, 0⟩ 1 0 0]] ((bxB b)) (.bool (l.any (hasB b))) ((bxB b)) := by
  have h := xUs hl hb
  rw [← xNS]
  refine vcs vf57 ?_
  repeat first|refine sgo ?_|refine cl (lent := [⟨0, 0⟩, ⟨0, 1⟩]) h ?_|refine sop ?_
  refine xAC ⟨.inr rfl, ?_⟩
  exact oG []
theorem xQV {b l : List SpanL} (hb : b.length ≤ 60000) (hl : l.length ≤ 60000) : VC Tryz.prog 75 [.ptr ⟨0, 0⟩ 1 0 0, .sh false (l.map encS)] (bxB b) (.bool (xFP b l)) (bxB b) := by
  have h := xU7 hl hb
  refine vcs vf75 ?_
  repeat first|refine sgo ?_|refine cl (lent := [⟨0, 0⟩, ⟨0, 1⟩]) h ?_|refine sop ?_
  refine xAC ⟨.inr rfl, ?_⟩
  exact oG []
theorem xTZ {b l : List SpanL} (hb : b.length ≤ 60000) (hl : l.length ≤ 60000) : VC Tryz.prog 76 [.ptr ⟨0, 0⟩ 1 0 0, .sh false (l.map encS)] (bxB b) (.tup []) (bxB (b ++ l)) := by
  refine xCp vf76 ?_ (Nat.le_of_ble_eq_true rfl) (by intro vs h; cases h; simp)
  repeat first|refine sgo ?_|refine o_v (vaps encS b l) ?_|refine sop ?_
  exact ⟨.inl rfl, oG []⟩
end Go.Proofs
open Go.V Go.Pu
set_option linter.unusedVariables false
set_option linter.unusedSimpArgs false
set_option maxRecDepth 20000
namespace Go.Proofs
def vc50 := vcm Tryz.prog 50
theorem vf50 : VF Tryz.prog 50 = some (19, vc50, [.tmp 4]) := by kernel_rfl
def vc51 := vcm Tryz.prog 51
theorem vf51 : VF Tryz.prog 51 = some (11, vc51, [.cell true 2 4]) := by kernel_rfl
def vc20 := vcm Tryz.prog 20
theorem vf20 : VF Tryz.prog 20 = some (17, vc20, [.tmp 4]) := by kernel_rfl
def vc23 := vcm Tryz.prog 23
theorem vf23 : VF Tryz.prog 23 = some (26, vc23, [.tmp 4]) := by kernel_rfl
def vc77 := vcm Tryz.prog 77
theorem vf77 : VF Tryz.prog 77 = some (30, vc77, [.tmp 4]) := by kernel_rfl
theorem xMX {f : Nat} {args : List PV} {l : List MsgL} (h : VC Tryz.prog f args [] (ownV ⟨0, 0⟩ (l.map encM)) [blkV 8 (l.map encM)]) : VC Tryz.prog f args [] (.sh false (l.map encM)) [] := xEp h (xAa rfl rfl)
theorem xOm {f : Nat} {args : List PV} (h : VC Tryz.prog f args [] .nils []) : VC Tryz.prog f args [] (.sh false (([] : List MsgL).map encM)) [] := xFu h xIh (PLe.sl (.inl ⟨rfl, rfl⟩))
theorem xUj (m : MsgL) (s : SpanL) : xCM m s = (!(xA2 m).any (fun y => !xA7 s y) && !(xAG m).any (fun y => !xA7 s y)) := by
  unfold xCM xAw
  rw [List.all_append, List.not_any_eq_all_not, List.not_any_eq_all_not]
  simp only [Bool.not_not]
theorem xQB {m : MsgL} (hm : MsgSz m) (s : SpanL) : VC Tryz.prog 50 [.agg (encM m), .agg (encS s)] [] (.bool (xCM m s)) [] := by
  have hr := xMo hm
  have hw := xFS hm
  have c1 := xQv (l := xA2 m) (by have := xDg m; omega) s
  have c2 := xQv (l := xAG m) (by have := xBh m; omega) s
  rw [xUj]
  generalize (xA2 m).any (fun y => !xA7 s y) = a at c1 ⊢
  generalize (xAG m).any (fun y => !xA7 s y) = b at c2 ⊢
  cases a
  · refine vcs vf50 ?_
    repeat first|refine sgo ?_|refine cf hr ?_|refine cl (lent := [⟨1, 8⟩]) c1 ?_|refine cf hw ?_|refine cl (lent := [⟨1, 8⟩]) c2 ?_|refine sop ?_
    exact xAC ⟨.inr rfl, oAny rfl⟩
  · refine vcs vf50 ?_
    repeat first|refine sgo ?_|refine cf hr ?_|refine cl (lent := [⟨1, 8⟩]) c1 ?_|refine sop ?_
    exact xAC ⟨.inr rfl, oAny rfl⟩
theorem xRE {q : PV} {pv : List Str} (hq : Sl q (pv.map encT)) (hl : pv.length ≤ 1000000) {i : Nat} {s : SpanL} (hs : (xAK pv)[i]? = some s) : VC Tryz.prog 51 [q, .int .i64 i] [] (.agg (encS s)) [] := by
  have hp := xRz allS hq hl
  have hc := hq.closed
  have e : xBT allS [] pv = xAK pv := rfl
  rw [e] at hp
  have hxe := gm (enc := encS) (n := (i : Int)) hs (by omega)
  have hlt : i < (xAK pv).length := (List.getElem?_eq_some_iff.1 hs).1
  have hml : ((xAK pv).map encS).length = (xAK pv).length := List.length_map _
  have hlt2 : (i : Int) < (((xAK pv).map encS).length : Nat) := by omega
  have hxe2 : (blkV 2 ((xAK pv).map encS)).els[((i : Nat) : Int).toNat]? = some (encS s) := hxe
  refine vcs vf51 ?_
  repeat first|refine sgo ?_|refine cv hp ?_|refine sop ?_
  exact xAC ⟨.inr rfl, oAny rfl⟩
theorem xOR {m : MsgL} (hm : MsgSz m) {q : PV} {pv : List Str} (ha : Asc pv) (hq : Sl q (pv.map encT)) (hl : pv.length ≤ 1000000) : VC Tryz.prog 20 [.agg (encM m), q] [] (.bool (xDr m pv)) [] := by
  have hmv := xM6 m
  obtain ⟨s, hs⟩ := xL2 pv m.fr
  have hk := kid_vc m.fr ha hq hl
  have har := xRE hq hl hs
  have hli := xQB hm s
  have hc := hq.closed
  unfold xDr
  rw [hs, Option.getD_some]
  generalize xBA m = b at hmv ⊢
  cases b
  · refine vcs vf20 ?_
    repeat first|refine sgo ?_|refine cv0 hmv ?_|refine sop ?_
    refine cndt ?_
    repeat first|refine sgo ?_|refine sop ?_
    exact xAC ⟨.inr rfl, oAny rfl⟩
  · refine vcs vf20 ?_
    repeat first|refine sgo ?_|refine cv0 hmv ?_|refine sop ?_
    refine cndf (xAA ?_)
    repeat first|refine sgo ?_|refine cv0 hk ?_|refine cv0 har ?_|refine cv0 hli ?_|refine sop ?_
    exact xAC ⟨.inr rfl, oAny rfl⟩
theorem xG3 {m : MsgL} (hm : MsgSz m) (s : SpanL) : VC Tryz.prog 23 [.agg (encM m), .agg (encS s)] [] (.sh false ((xAx m s).map encM)) [] := by
  have hrg := xKo m
  have hmt := xF7 m.sp s
  have hem := xCQ (xAV m.sp s)
  have hw := xFS hm
  have c2 := xU9 (l := xAG m) (by have := xBh m; omega) s
  unfold xAx
  generalize hrb : xAh m = b at hrg ⊢
  cases b
  · rw [if_neg (by simp)]
    generalize (xAG m).any (fun y => tch y s) = c at c2 ⊢
    cases c
    · rw [if_neg (by simp)]
      refine xOm ?_
      refine vcs vf23 ?_
      repeat first|refine sgo ?_|refine cv0 hrg ?_|refine sop ?_
      refine cndf (xAA ?_)
      repeat first|refine sgo ?_|refine cf hw ?_|refine cl (lent := [⟨1, 8⟩]) c2 ?_|refine sop ?_
      refine cndt ?_
      repeat first|refine sgo ?_|refine sop ?_
      exact xAC ⟨.inr rfl, oAny rfl⟩
    · rw [if_pos rfl]
      refine xMX ?_
      refine vcs vf23 ?_
      repeat first|refine sgo ?_|refine cv0 hrg ?_|refine sop ?_
      refine cndf (xAA ?_)
      repeat first|refine sgo ?_|refine cf hw ?_|refine cl (lent := [⟨1, 8⟩]) c2 ?_|refine sop ?_
      refine cndf (xAA ?_)
      repeat first|refine sgo ?_|refine sop ?_
      exact xAC ⟨.inr rfl, oOwn (by rfl)⟩
  · rw [if_pos rfl]
    generalize hee : xAJ (xAV m.sp s) = c at hem ⊢
    cases c
    · rw [if_neg (by simp)]
      refine xMX ?_
      refine vcs vf23 ?_
      repeat first|refine sgo ?_|refine cv0 hrg ?_|refine sop ?_
      refine cndt ?_
      repeat first|refine sgo ?_|refine cv0 hmt ?_|refine cv0 hem ?_|refine sop ?_
      refine cndf (xAA ?_)
      repeat first|refine sgo ?_|refine sop ?_
      exact xAC ⟨.inr rfl, oOwn (by rfl)⟩
    · rw [if_pos rfl]
      refine xOm ?_
      refine vcs vf23 ?_
      repeat first|refine sgo ?_|refine cv0 hrg ?_|refine sop ?_
      refine cndt ?_
      repeat first|refine sgo ?_|refine cv0 hmt ?_|refine cv0 hem ?_|refine sop ?_
      refine cndt ?_
      repeat first|refine sgo ?_|refine sop ?_
      exact xAC ⟨.inr rfl, oAny rfl⟩
theorem xUl {m : MsgL} (s : SpanL) : VC Tryz.prog 77 [.agg (encM m), .agg (encS s)] [] (.sh false ((xCs m s).map encM)) [] := by
  have hrg := xKo m
  have hmn := xSH (q := .sh false ([m.sp].map encS)) (p := .sh false ([s].map encS)) (l := [m.sp]) (m := [s]) Sl.sh Sl.sh (by simp) (by simp)
  unfold xCs
  generalize hrb : xAh m = b at hrg ⊢
  cases b
  · rw [if_neg (by simp)]
    refine xOm ?_
    refine vcs vf77 ?_
    repeat first|refine sgo ?_|refine cv0 hrg ?_|refine sop ?_
    refine cndt ?_
    repeat first|refine sgo ?_|refine sop ?_
    exact xAC ⟨.inr rfl, oAny rfl⟩
  · rw [if_pos rfl]
    refine xMX ?_
    generalize hd : xBW [m.sp] [s] = d at hmn ⊢
    have hdl : d.length ≤ 10 := by have := xEW [m.sp] [s]; rw [hd] at this; simp only [List.length_cons, List.length_nil] at this; omega
    have hmd : (d.map encS).length = d.length := List.length_map _
    refine vcs vf77 ?_
    repeat first|refine sgo ?_|refine cv0 hrg ?_|refine sop ?_
    refine cndf (xAA ?_)
    repeat first|refine sgo ?_|refine cv hmn ?_|refine sop ?_
    refine xAE (fun (g : Nat × SpanL × List MsgL) => [(2, .ptr ⟨1, 0⟩ 1 0 0), (5, ownV ⟨1, 9⟩ (g.2.2.map encM)), (16, ownV ⟨1, 32808⟩ (d.map encS)), (17, .int .i64 (d.map encS).length), (18, .int .i64 g.1)])
      (fun g => [(⟨1, 0⟩, ⟨true, false, 8, [encM { m with sp := g.2.1 }]⟩), (⟨1, 32808⟩, blkV 2 (d.map encS)), (⟨1, 9⟩, blkV 8 (g.2.2.map encM))]) (fun g => d.length - g.1)
      (fun g => g.1 ≤ d.length ∧ g.2.2 = (d.take g.1).map (fun x => { m with sp := x })) (0, m.sp, []) ((Imp.nil (t := 5) (b := ⟨1, 9⟩) (esz := 8) rfl rfl (by decide)).trans xAS) ⟨Nat.zero_le _, rfl⟩ ?_
    rintro ⟨i, y, o⟩ ⟨hi, ho⟩
    dsimp only at hi ho ⊢
    have hol : o.length = i := by rw [ho]; simp; omega
    repeat first|refine sgo ?_|refine sop ?_
    refine cnd (fun h => xAA ?_) (fun h => xAD ?_)
    · have hlt : i < d.length := by have h' := of_decide_eq_true h; omega
      obtain ⟨x, hx⟩ : ∃ x, d[i]? = some x := ⟨_, List.getElem?_eq_getElem hlt⟩
      have hxe : (blkV 2 (d.map encS)).els[((i : Nat) : Int).toNat]? = some (encS x) := gm (enc := encS) (n := (i : Int)) hx (by omega)
      repeat first|refine sgo ?_|refine o_v (vap encM ({ m with sp := x } : MsgL)) ?_|refine sop ?_
      refine agn (Q := fun _ _ => True) (i + 1, x, o ++ [{ m with sp := x }]) ⟨by simp only; omega, ?_⟩ xAS
      simp only
      rw [ho, List.take_add_one, hx]
      simp
    · have hge : i = d.length := by have h' := of_decide_eq_false h; omega
      subst hge
      rw [List.take_length] at ho
      repeat first|refine sgo ?_|refine sop ?_
      exact xAC ⟨.inr rfl, oOwn (congrArg (List.map encM) ho)⟩
end Go.Proofs
