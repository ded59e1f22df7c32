/- Tb -/
import Derived.Test.YtlpjfoijjlmgeaaGreatDoorTa
import Derived.Test.YtlpjfoijjlmgeaaGreatDoorVE
import Derived.Test.YtlpjfoijjlmgeaaGreatDoorPu
open Go.V Go.Pu
set_option linter.unusedVariables false
set_option linter.unusedSimpArgs false
set_option maxRecDepth 20000
namespace Go.Proofs
def vc122 := vcm Tryz.prog 122
theorem vf122 : VF Tryz.prog 122 = some (27, vc122, [.tmp 4]) := by kernel_rfl
def vc121 := vcm Tryz.prog 121
theorem vf121 : VF Tryz.prog 121 = some (36, vc121, [.tmp 2]) := by kernel_rfl
def vc119 := vcm Tryz.prog 119
theorem vf119 : VF Tryz.prog 119 = some (21, vc119, [.tmp 4]) := by kernel_rfl
def rspanL (x y : Nat) : SpanL := ⟨if 200 ≤ x then preL x else keyT x, if 240 ≤ y then [] else if 200 ≤ y then (if 200 ≤ x then preL x else keyT x) ++ [0] else keyT y⟩
theorem xQf : VC Tryz.prog 122 [.nils, .int .i64 0] [] .nils [] := by
  refine vcs vf122 ?_
  repeat first|refine sgo ?_|refine sop ?_
  refine cndf (xAB ?_)
  repeat first|refine sgo ?_|refine o_v0 xRh ?_|refine sop ?_
  refine cndf (xAB ?_)
  repeat first|refine sgo ?_|refine sop ?_
  exact xAC ⟨.inr rfl, oAny rfl⟩
theorem xSw {n : Nat} (h0 : 0 < n) (h1 : n ≤ 100000000) : VC Tryz.prog 122 [.nils, .int .i64 n] [] (.own ⟨0, 0⟩ n 0 0) [blkV 3 (List.replicate n (encP zP))] := by
  refine vcs vf122 ?_
  have s1 : bin .sub (.int .i64 0) (.int .i64 (([] : List (List PV)).length : Int)) = some (.int .i64 0) := rfl
  have s2 : bin .sub (.int .i64 (n : Int)) (.int .i64 0) = some (.int .i64 (n : Int)) := by
    show some (PV.int .i64 (IntKind.i64.wrap ((n : Int) - 0))) = _
    rw [Int.sub_zero, xCK (by omega) (by omega)]
  repeat first|refine sgo ?_|refine sop ?_
  refine cndf (xAB ?_) rfl (decide_eq_false (by omega))
  repeat first|refine sgo ?_|refine o_v0 xRh ?_|refine xBx s1 ?_|refine xBx s2 ?_|refine sop ?_
  refine cndt ?_ rfl (decide_eq_true (by omega))
  repeat first|refine sgo ?_|refine o_v0 xRh ?_|refine o_v0 vsln ?_|refine o_v (vappz (n := n)) ?_|refine xIo (a := 0) (z := 0) ?_|refine sop ?_
  exact xAC ⟨.inr rfl, xOC rfl rfl rfl (by decide)⟩
abbrev encL (l : List PairL) : List PV := [.sh false (l.map encP)]
def totL (ls : List (List PairL)) : Nat := (ls.map List.length).sum
theorem xLR (l : List PairL) (ls : List (List PairL)) : totL (l :: ls) = l.length + totL ls := by simp [totL]
theorem xPd (ls : List (List PairL)) : ls.flatten.length = totL ls := by simp [totL, List.length_flatten]
set_option maxHeartbeats 1000000 in
theorem xO6 {q : PV} {ls : List (List PairL)} (hq : Sl q (ls.map encL)) (hl : ls.length ≤ 100000000) (ht : totL ls ≤ 100000000) : VC Tryz.prog 121 [q] [] (ownV ⟨0, 0⟩ (ls.flatten.map encP)) [blkV 3 (ls.flatten.map encP)] := by
  refine vcs vf121 ?_
  have hml : (ls.map encL).length = ls.length := List.length_map ..
  have htf := xPd ls
  repeat first|refine sgo ?_|refine sop ?_
  refine xAK (fun (g : Nat × Nat) => [(0, q), (3, .int .i64 g.2), (9, q), (10, .int .i64 (ls.map encL).length), (11, .int .i64 g.1)])
    (fun g => []) (fun g => ls.length - g.1)
    (fun g => g.1 ≤ ls.length ∧ g.2 + totL (ls.drop g.1) = totL ls) (0, 0) goes ⟨Nat.zero_le _, by simp⟩ ?_
  rintro ⟨i, n⟩ ⟨hi, hn⟩
  dsimp only at hi hn ⊢
  repeat first|refine sgo ?_|refine sop ?_
  refine cnd (fun h => xAB ?_) (fun h => xAE ?_)
  · have hlt : i < ls.length := by have h' := of_decide_eq_true h; omega
    obtain ⟨l, hl⟩ : ∃ x, ls[i]? = some x := ⟨_, List.getElem?_eq_getElem hlt⟩
    have hle := gm (enc := encL) (n := (i : Int)) hl (by omega)
    rw [xBQ hl, xLR] at hn
    have hll : (l.map encP).length = l.length := List.length_map ..
    repeat first|refine sgo ?_|refine sop ?_
    refine cndf (xAB ?_) rfl (decide_eq_false (by omega))
    repeat first|refine sgo ?_|refine sop ?_
    exact agn (i + 1, n + l.length) ⟨by simp only; omega, by simp only; omega⟩ (goes (h1 := by
      refine ⟨rfl, ?_, rfl, rfl, rfl, trivial⟩
      exact congrArg (fun z => some (PV.int .i64 z)) (by simp only [hll]; omega)))
  have hge : i = ls.length := by have h' := of_decide_eq_false h; omega
  subst hge
  have hn2 : n = totL ls := by rw [List.drop_length] at hn; simpa [totL] using hn
  subst hn2
  clear hn h
  rcases Nat.eq_zero_or_pos (totL ls) with h0 | hpos
  · have hall : ∀ (m : List (List PairL)), totL m = 0 → ∀ l ∈ m, l = [] := by
      intro m
      induction m with
      | nil => intro _ l hl; cases hl
      | cons x m ih =>
        intro h l hl
        rw [xLR] at h
        rcases List.mem_cons.1 hl with rfl | hl
        · exact List.length_eq_zero_iff.1 (by omega)
        · exact ih (by omega) l hl
    have hfl : ls.flatten = [] := List.length_eq_zero_iff.1 (by omega)
    rw [hfl, h0]
    repeat first|refine sgo ?_|refine cv0 xQf ?_|refine sop ?_
    refine xAK (fun (g : Nat) => [(6, ownV ⟨1, 106512⟩ (([] : List PairL).map encP)), (25, q), (26, .int .i64 (ls.map encL).length), (27, .int .i64 g)])
      (fun g => [(⟨1, 106512⟩, blkV 3 (([] : List PairL).map encP))]) (fun g => ls.length - g)
      (fun g => g ≤ ls.length) 0 ((Imp.nil (t := 6) (b := ⟨1, 106512⟩) (esz := 3) rfl rfl (by decide)).trans goes) (Nat.zero_le _) ?_
    intro i hi
    (try dsimp only)
    repeat first|refine sgo ?_|refine sop ?_
    refine cnd (fun h => xAB ?_) (fun h => xAE ?_)
    · have hlt : i < ls.length := by have h' := of_decide_eq_true h; omega
      obtain ⟨l, hl⟩ : ∃ x, ls[i]? = some x := ⟨_, List.getElem?_eq_getElem hlt⟩
      have hle := gm (enc := encL) (n := (i : Int)) hl (by omega)
      have hl0 := hall ls h0 l (List.mem_of_getElem? hl)
      subst hl0
      repeat first|refine sgo ?_|refine o_v (vaps encP [] []) ?_|refine sop ?_
      exact agn (i + 1) (by omega) goes
    · repeat first|refine sgo ?_|refine sop ?_
      exact xAC ⟨.inr rfl, oOwn rfl⟩
  · have hrep : List.replicate (totL ls) (encP zP) = (List.replicate (totL ls) zP).map encP := by rw [List.map_replicate]
    have hg := xSw hpos ht
    rw [hrep] at hg
    generalize totL ls = N at *
    have hcl : (blkV 3 ((List.replicate N zP).map encP)).frz = false ∧ ∀ e ∈ (blkV 3 ((List.replicate N zP).map encP)).els, ∀ c ∈ e, cS c = true := ⟨rfl, by intro e he; obtain ⟨a, _, rfl⟩ := List.mem_map.1 he; simp [cS, cN, clean]⟩
    repeat first|refine sgo ?_|refine cv hg ?_|refine sop ?_
    refine xAK (fun (g : Nat × List PairL) => [(6, .own ⟨1, 73736⟩ N 0 g.2.length), (25, q), (26, .int .i64 (ls.map encL).length), (27, .int .i64 g.1)])
      (fun g => [(⟨1, 73736⟩, blkV 3 ((g.2 ++ List.replicate (N - g.2.length) zP).map encP))]) (fun g => ls.length - g.1)
      (fun g => g.1 ≤ ls.length ∧ g.2 ++ (ls.drop g.1).flatten = ls.flatten) (0, []) goes ⟨Nat.zero_le _, rfl⟩ ?_
    rintro ⟨i, o⟩ ⟨hi, hv⟩
    dsimp only at hi hv ⊢
    have hol := congrArg List.length hv
    rw [List.length_append, htf] at hol
    repeat first|refine sgo ?_|refine sop ?_
    refine cnd (fun h => xAB ?_) (fun h => xAE ?_)
    · have hlt : i < ls.length := by have h' := of_decide_eq_true h; omega
      obtain ⟨l, hl⟩ : ∃ x, ls[i]? = some x := ⟨_, List.getElem?_eq_getElem hlt⟩
      have hle := gm (enc := encL) (n := (i : Int)) hl (by omega)
      rw [xBQ hl, List.flatten_cons] at hv hol
      rw [List.length_append] at hol
      have e1 : o ++ l ++ (List.replicate (N - o.length) zP).drop l.length = (o ++ l) ++ List.replicate (N - (o ++ l).length) zP := by
        rw [List.drop_replicate, List.length_append]; congr 2; omega
      have hrl : (List.replicate (N - o.length) zP).length = N - o.length := List.length_replicate ..
      have e2 : o.length + l.length = (o ++ l).length := List.length_append.symm
      repeat first|refine sgo ?_|refine o_v (vapfE encP o l (List.replicate (N - o.length) zP) e1 e2) ?_|refine sop ?_
      refine agn (i + 1, o ++ l) ⟨by simp only; omega, by rw [← hv]; simp⟩ goes
    · have hge : i = ls.length := by have h' := of_decide_eq_false h; omega
      subst hge
      rw [List.drop_length] at hv hol
      rw [List.flatten_nil, List.append_nil] at hv
      rw [List.flatten_nil, List.length_nil] at hol
      subst hv
      simp only [htf, Nat.sub_self, List.replicate_zero, List.append_nil]
      repeat first|refine sgo ?_|refine sop ?_
      exact xAC ⟨.inr rfl, oOwn rfl⟩
theorem xQh {t : List PairL} (s : SpanL) (hs : Srt t) (hl : t.length ≤ 100000000) : VC Tryz.prog 119 [.sh false (t.map encP), .agg (encS s)] [] (ownV ⟨0, 0⟩ ((xAx t s).map encP)) [blkV 3 ((xAx t s).map encP)] := by
  refine vcs vf119 ?_
  obtain ⟨h1, h2⟩ := xHk hs s
  have h3 := xS1 hs s
  have hb := xKT (q := .sh false (t.map encP)) s hs Sl.sh hl
  have hml : (t.map encP).length = t.length := List.length_map ..
  rw [← h3]
  generalize (xAX t s).1 = a at *
  generalize (xAX t s).2 = z at *
  have hc := xO6 (q := .sh false ([t.take a, t.drop z].map encL)) (ls := [t.take a, t.drop z]) Sl.sh (by simp) (by simp [totL]; omega)
  rw [show [t.take a, t.drop z].flatten = t.take a ++ t.drop z by simp] at hc
  repeat first|refine sgo ?_|refine cv0 hb ?_|refine o_v0 (vslh t (t.take a) 0 a (by simp)) ?_|refine o_v0 (vslh t (t.drop z) z t.length (by rw [List.take_of_length_le (by simp)]) (h2 := congrArg (fun n : Nat => some (n : Int)) hml)) ?_|refine cv hc ?_|refine sop ?_
  exact xAC ⟨.inr rfl, oOwn rfl⟩
theorem xI9 {q : PV} {t : List PairL} (s : SpanL) (hs : Srt t) (hq : Sl q (t.map encP)) (hl : t.length ≤ 100000000) : VC Tryz.prog 119 [q, .agg (encS s)] [] (ownV ⟨0, 0⟩ ((xAx t s).map encP)) [blkV 3 ((xAx t s).map encP)] :=
  xDu (xQh s hs hl) (.cons (PLe.sl hq) (.cons (PLe.refl _) .nil)) (PLe.refl _)
end Go.Proofs
open Go.V Go.Pu
set_option linter.unusedVariables false
set_option linter.unusedSimpArgs false
set_option maxRecDepth 20000
namespace Go.Proofs
def vc107 := vcm Tryz.prog 107
theorem vf107 : VF Tryz.prog 107 = some (95, vc107, [.tmp 6]) := by kernel_rfl
theorem insA {α : Type} {A : List α} {q z : α} {i m : Nat} (hA : A.length = i) : (A ++ List.replicate (m + 1) z).take i ++ [q].take (m + 1) ++ (A ++ List.replicate (m + 1) z).drop (i + min [q].length (m + 1)) = A ++ q :: List.replicate m z := by
  subst hA
  have e : min [q].length (m + 1) = 1 := by simp
  rw [e, List.take_left', List.drop_append, List.drop_of_length_le (by omega)]
  · simp
  · rfl
theorem insB {α : Type} {A B C : List α} {q : α} {i m : Nat} (hA : A.length = i) (hB : B.length = m) (hC : C.length = m) : (A ++ q :: C).take (i + 1) ++ B.take m ++ (A ++ q :: C).drop (i + 1 + min B.length m) = A ++ q :: B := by
  subst hA; subst hB
  rw [Nat.min_self, List.take_length, List.take_append, List.take_of_length_le (l := A) (by omega), List.drop_append, List.drop_of_length_le (l := A) (by omega)]
  have e : A.length + 1 - A.length = 1 := by omega
  have e2 : A.length + 1 + B.length - A.length = B.length + 1 := by omega
  rw [e, e2]
  simp [hC]
theorem insC {α : Type} {A B : List α} {y : α} {i m : Nat} (hA : A.length = i) (hB : B.length = m) (hm : 0 < m) : (A ++ B ++ [y]).take (i + 1) ++ (B ++ [y]).take m ++ (A ++ B ++ [y]).drop (i + 1 + min (B ++ [y]).length m) = A ++ B.take 1 ++ B := by
  subst hA; subst hB
  have e3 : min (B ++ [y]).length B.length = B.length := by simp
  rw [e3, List.append_assoc A B [y], List.take_append (l₁ := A), List.take_of_length_le (l := A) (by omega), List.drop_append, List.drop_of_length_le (l := A) (by omega)]
  have e : A.length + 1 - A.length = 1 := by omega
  have e2 : A.length + 1 + B.length - A.length = B.length + 1 := by omega
  rw [e, e2, List.take_left' rfl, List.drop_of_length_le (by simp), List.take_append_of_le_length (by omega)]
  simp
theorem insD {α : Type} {A B : List α} {q : α} {i m : Nat} (hA : A.length = i) (hB : B.length = m) (hm : 0 < m) : (A ++ B.take 1 ++ B).take i ++ [q].take (m + 1) ++ (A ++ B.take 1 ++ B).drop (i + min [q].length (m + 1)) = A ++ q :: B := by
  subst hA; subst hB
  have e : min [q].length (B.length + 1) = 1 := by simp
  rw [e, List.append_assoc A (B.take 1) B, List.take_left' rfl, List.drop_append (l₁ := A), List.drop_of_length_le (l := A) (by omega)]
  have e : A.length + 1 - A.length = 1 := by omega
  rw [e]
  cases B with
  | nil => simp at hm
  | cons b B => simp
def xQc (xs : List PairL) (i : Nat) (p : PairL) : List PairL := xs.take i ++ p :: xs.drop i
theorem encP_len (p : PairL) : (encP p).length = 3 := rfl
set_option maxHeartbeats 1000000 in
theorem xMf {n i : Nat} (xs : List PairL) (p : PairL) (hn : xs.length = n) (hi : i ≤ n) (hm : n ≤ 100000000) :
    VC Tryz.prog 107 [.own ⟨0, 0⟩ n 0 n, .int .i64 i, .sh false [encP p]] [blkV 3 (xs.map encP)] (.own ⟨0, 0⟩ (n + 1) 0 (n + 1)) [blkV 3 ((xQc xs i p).map encP)] := by
  refine vcs vf107 ?_
  have hml : (xs.map encP).length = n := by rw [List.length_map, hn]
  have hins : (xQc xs i p).map encP = (xs.map encP).take i ++ encP p :: (xs.map encP).drop i := by simp [xQc, List.map_take, List.map_drop]
  have okp : okEls 3 [encP p] := okEls.map (xs := [p]) (fun a => by simp [closed])
  have okx : okEls 3 (xs.map encP) := okEls.map (fun a => by simp [closed])
  rw [hins]
  clear hins
  repeat first|refine sgo ?_|refine o_v0 (v := .int .i64 1) rfl ?_|refine o_v (vslo i n (hw' := hml.symm)) ?_|refine sop ?_
  refine cndf (xAB ?_)
  repeat first|refine sgo ?_|refine sop ?_
  refine cnd (fun h => ?_) (fun h => xAB ?_)
  · have hin : i = n := by have h' := of_decide_eq_true h; omega
    subst hin
    repeat first|refine sgo ?_|refine o_v (vaps encP xs [p] (hnn := hml.symm)) ?_|refine sop ?_
    refine xAC ⟨.inr rfl, oLO ?_ ?_⟩
    · rw [List.take_of_length_le (by omega), List.drop_of_length_le (by omega), List.map_append]; rfl
    · exact congrArg (fun k => some (PV.own ⟨0, 0⟩ k 0 k)) (by simp [hn])
  have hin : i < n := by have h' := of_decide_eq_false h; omega
  have hle : ∀ e ∈ xs.map encP, e.length = 3 := fun e he => (okx e he).1
  have hcl : ∀ e ∈ xs.map encP, ∀ c ∈ e, closed c = true := fun e he => (okx e he).2
  generalize xs.map encP = L at *
  obtain ⟨m, hm0⟩ : ∃ m, n = i + m := ⟨n - i, by omega⟩
  have hA : (L.take i).length = i := by rw [List.length_take]; omega
  have hB : (L.drop i).length = m := by rw [List.length_drop]; omega
  have hfm : i + m ≤ n := by omega
  have hfm1 : i + (m + 1) ≤ n + 1 := by omega
  have hAB : L.take i ++ L.drop i = L := List.take_append_drop i L
  have okB : okEls 3 (L.drop i) := fun e he => okx e (List.mem_of_mem_drop he)
  refine xBH (ct_ch (xKS ?_))
  refine sh_v rfl (sh_v rfl (sh_v (xRm rfl rfl (xCK (by omega) (by omega))) (sh_v rfl (sh_cap rfl (by decide) (fun ad c hc => ?_) ⟨_, rfl, hml.symm⟩))))
  refine sh_v rfl (xQ7 ?_)
  refine xS8 (fun h2 => ?_) (fun h2 => ?_)
  · have hbig : c < n + 1 := by have h' := of_decide_eq_true h2; omega
    have e1 : i + (m + 1) = n + 1 := by omega
    refine xKS ?_
    refine sh_v rfl (sh_v rfl (sh_v (vslo 0 i (hw' := hml.symm)) (sh_v rfl (sh_v rfl (sh_v (xRm rfl rfl (xCK (by omega) (by omega))) (sh_v rfl (sh_v (v_sub rfl rfl (xCK (by omega) (by omega))) ?_)))))))
    refine xSA (n := m + 1) (len2 := i) ?_ (by omega) (hq := congrArg (fun z => some (PV.int .i64 z)) (show ((n : Int) + 1) - (i : Int) = ((m + 1 : Nat) : Int) by omega)) (hwB := hml.symm) (hlen := hle) (hcl := hcl)
    rw [e1]
    refine sh_v rfl (xQ7 (ch_ct ?_))
    have hlen : (L.take i ++ List.replicate (m + 1) (encP zP)).length = n + 1 := by rw [List.length_append, List.length_replicate, hA]; omega
    have hr1 := insA (q := encP p) (z := encP zP) (m := m) hA
    have hlen2 : (L.take i ++ encP p :: List.replicate m (encP zP)).length = n + 1 := by rw [List.length_append, List.length_cons, List.length_replicate, hA]; omega
    have hr2 := insB (q := encP p) hA hB (List.length_replicate (n := m) (a := encP zP))
    have hlen3 : (L.take i ++ encP p :: L.drop i).length = n + 1 := by rw [List.length_append, List.length_cons, hA, hB]; omega
    have hsrc : (L.drop i).take m = L.drop i := List.take_of_length_le (by omega)
    repeat first|refine sgo ?_|refine o_v (vslo i (n + 1) (o := i) (l := m + 1) (hw' := hlen.symm)) ?_|refine o_v (vcpy _ [encP p] hr1 okp (hw' := hlen.symm)) ?_|refine sop ?_
    have okB' : okEls 3 ((L.drop i).take m) := by rw [hsrc]; exact okB
    have hr2' : (L.take i ++ encP p :: List.replicate m (encP zP)).take (i + 1) ++ ((L.drop i).take m).take m ++ (L.take i ++ encP p :: List.replicate m (encP zP)).drop (i + 1 + min ((L.drop i).take m).length m) = L.take i ++ encP p :: L.drop i := by rw [hsrc]; exact hr2
    repeat first|refine sgo ?_|refine o_v (vslo (i + 1) (n + 1) (o := i + 1) (l := m) (hw' := hlen2.symm)) ?_|refine o_v (vslo i n (o := i) (l := m) (hw' := hml.symm)) ?_|refine o_v (vcpy _ ((L.drop i).take m) hr2' okB' (hct := by exact xC0 (els := []) (B := blkV 3 L) (off := i) (len := m) rfl rfl hml.symm hfm) (hw' := hlen2.symm)) ?_|refine sop ?_
    refine xFN (Imp.onto 6 (n + 1) ⟨0, 0⟩ ⟨1, 73792⟩ (els0 := L) (els1 := L.take i ++ encP p :: L.drop i) (by omega) hlen3.symm) ?_
    exact xAC ⟨.inr rfl, oLO rfl⟩
  · have hsm : n + 1 ≤ c := by have h' := of_decide_eq_false h2; omega
    refine xPE (t0 := 0) (m := 1) hml (fun rows hr hrc => xAB ?_) hsm
    obtain ⟨e0, rfl⟩ : ∃ e0, rows = [e0] := by
      match rows, hr with
      | [e0], _ => exact ⟨e0, rfl⟩
    have hlen : (L ++ [e0]).length = n + 1 := by simp [hml]
    have hov := fun hf' B hb => @xKb Tryz.prog 108 Tryz.f108 27 4 43 3 Tryz.func108 (by kernel_rfl) (by kernel_rfl) (by kernel_rfl) (by kernel_rfl) (by kernel_rfl) (by kernel_rfl) (by decide) hf' false [encP p] ⟨0, 0⟩ (n + 1) (i + 1) m B hb
    repeat first|refine sgo ?_|refine o_v (vslo 0 (n + 1) (o := 0) (l := n + 1) (hw' := hlen.symm)) ?_|refine o_v (vslo (i + 1) (n + 1) (o := i + 1) (l := m) (hw' := hlen.symm)) ?_|refine cxt (ht := tpl rfl rfl (Nat.le_of_ble_eq_true rfl)) (hov _ _ rfl rfl rfl rfl hlen.symm) ?_|refine sop ?_
    refine cndt ?_
    have hr3 := insC (y := e0) hA hB (by omega)
    rw [hAB] at hr3
    have hs3 : ((L ++ [e0]).drop i).take (m + 1) = L.drop i ++ [e0] := by
      rw [List.drop_append_of_le_length (by omega), List.take_of_length_le (by rw [List.length_append, hB]; exact Nat.le_refl _)]
    have hlen2 : (L.take i ++ (L.drop i).take 1 ++ L.drop i).length = n + 1 := by rw [List.length_append, List.length_append, hA, List.length_take (l := L.drop i), hB]; omega
    have hr4 := insD (q := encP p) hA hB (by omega)
    have ok3 : okEls 3 (((L ++ [e0]).drop i).take (m + 1)) := by rw [hs3]; exact okEls.app okB (okEls.cons (hrc e0 (by simp)).1 (hrc e0 (by simp)).2 okEls.nil)
    rw [← hs3] at hr3
    repeat first|refine sgo ?_|refine o_v (vslo (i + 1) (n + 1) (o := i + 1) (l := m) (hw' := hlen.symm)) ?_|refine o_v (vslo i (n + 1) (o := i) (l := m + 1) (hw' := hlen.symm)) ?_|refine o_v (vslo i (n + 1) (o := i) (l := m + 1) (hw' := hlen2.symm)) ?_|refine o_v (vcpy _ (((L ++ [e0]).drop i).take (m + 1)) hr3 ok3 (hct := by exact xC0 (els := []) (B := blkV 3 (L ++ [e0])) (off := i) (len := m + 1) rfl rfl hlen.symm hfm1) (hw' := hlen.symm)) ?_|refine o_v (vcpy _ [encP p] hr4 okp (hw' := hlen2.symm)) ?_|refine sop ?_
    exact xAC ⟨.inr rfl, oLO rfl⟩
end Go.Proofs
open Go.V Go.Pu
set_option linter.unusedVariables false
set_option linter.unusedSimpArgs false
set_option maxRecDepth 20000
namespace Go.Proofs
def vc106 := vcm Tryz.prog 106
theorem vf106 : VF Tryz.prog 106 = some (8, vc106, [.tmp 2]) := by kernel_rfl
def vc105 := vcm Tryz.prog 105
theorem vf105 : VF Tryz.prog 105 = some (28, vc105, [.tmp 4]) := by kernel_rfl
def vc118 := vcm Tryz.prog 118
theorem vf118 : VF Tryz.prog 118 = some (9, vc118, [.tmp 4]) := by kernel_rfl
theorem xHf {xs : List PairL} (hl : xs.length ≤ 100000000) : VC Tryz.prog 106 [.sh false (xs.map encP)] [] (ownV ⟨0, 0⟩ (xs.map encP)) [blkV 3 (xs.map encP)] := by
  refine vcs vf106 ?_
  cases xs with
  | nil =>
    refine xMR (t := 0) (ex := false) (tm := xGL 0 [.sh false []]) rfl ?_ ?_
    · repeat first|refine sgo ?_|refine sop ?_
      refine cndt ?_
      repeat first|refine sgo ?_|refine sop ?_
      refine xFN (Imp.nil (t := 2) (b := ⟨1, 900000⟩) (esz := 3) rfl rfl (by decide)) ?_
      exact xAC ⟨.inr rfl, oOwn rfl⟩
    · repeat first|refine sgo ?_|refine sop ?_
      refine cndf (xAB ?_)
      repeat first|refine sgo ?_|refine o_v (vaps encP [] []) ?_|refine sop ?_
      exact xAC ⟨.inr rfl, oOwn rfl⟩
  | cons x xs =>
    have hl2 : xs.length + 1 ≤ 100000000 := hl
    repeat first|refine sgo ?_|refine sop ?_
    refine cndf (xAB ?_)
    repeat first|refine sgo ?_|refine o_v (vaps encP [] (x :: xs)) ?_|refine sop ?_
    exact xAC ⟨.inr rfl, oOwn rfl⟩
theorem xPc {t : List PairL} (p : PairL) (hs : Srt t) (hl : t.length ≤ 100000000) : VC Tryz.prog 105 [.sh false (t.map encP), .agg (encP p)] [] (ownV ⟨0, 0⟩ ((putL t p).map encP)) [blkV 3 ((putL t p).map encP)] := by
  refine vcs vf105 ?_
  have pl := xGO (q := .sh false (t.map encP)) p.key hs Sl.sh hl
  have cl := xHf (xs := t) hl
  have hle := xM6 p.key t
  have hmt : (t.map encP).length = t.length := List.length_map ..
  have pf := xJi (p := p) hs
  have pn := xN4 (p := p) hs
  have hls := xJ8 (k := p.key) hs
  generalize hn : lbN t p.key = n at *
  repeat first|refine sgo ?_|refine cv0 pl ?_|refine cv cl ?_|refine sop ?_
  refine cnd (fun h => ?_) (fun h => xAB ?_)
  · obtain ⟨y, hy, _, _⟩ := hls h
    have hlt : n < t.length := (List.getElem?_eq_some_iff.1 hy).1
    rw [← pf h]
    repeat first|refine sgo ?_|refine o_v (vst encP p) ?_|refine sop ?_
    exact xAC ⟨.inr rfl, oOwn rfl⟩
  · have iv := xMf t p hmt.symm (by omega : n ≤ (t.map encP).length) (by omega)
    have hp := pn h
    have hi2 : xQc t n p = putL t p := hp
    rw [hi2] at iv
    have hpl : (putL t p).length = t.length + 1 := by rw [← hp]; simp; omega
    repeat first|refine sgo ?_|refine clf (lent := [⟨1, 16392⟩]) (rd := [⟨1, 49176⟩]) iv ?_|refine sop ?_
    exact xAC ⟨.inr rfl, oOwn rfl⟩
theorem xRq {q : PV} {t : List PairL} (p : PairL) (hs : Srt t) (hq : Sl q (t.map encP)) (hl : t.length ≤ 100000000) : VC Tryz.prog 105 [q, .agg (encP p)] [] (ownV ⟨0, 0⟩ ((putL t p).map encP)) [blkV 3 ((putL t p).map encP)] :=
  xDu (xPc p hs hl) (.cons (PLe.sl hq) (.cons (PLe.refl _) .nil)) (PLe.refl _)
theorem xRs {q : PV} {t : List PairL} (k : Str) (hs : Srt t) (hq : Sl q (t.map encP)) (hl : t.length ≤ 100000000) (hk : k.length ≤ 1000000000) : VC Tryz.prog 118 [q, .str k] [] (ownV ⟨0, 0⟩ ((delT t k).map encP)) [blkV 3 ((delT t k).map encP)] := by
  refine vcs vf118 ?_
  have h1 := xRF k hk
  have h2 := xI9 (q := q) (oneL k) hs hq hl
  rw [xQi] at h2
  repeat first|refine sgo ?_|refine cv0 h1 ?_|refine cv h2 ?_|refine sop ?_
  exact xAC ⟨.inr rfl, oOwn rfl⟩
end Go.Proofs
open Go.V Go.Pu
set_option linter.unusedVariables false
set_option linter.unusedSimpArgs false
set_option maxRecDepth 20000
namespace Go.Proofs
def vc137 := vcm Tryz.prog 137
theorem vf137 : VF Tryz.prog 137 = some (36, vc137, [.tmp 6]) := by kernel_rfl
def vc99 := vcm Tryz.prog 99
theorem vf99 : VF Tryz.prog 99 = some (14, vc99, [.tmp 4]) := by kernel_rfl
def vc112 := vcm Tryz.prog 112
theorem vf112 : VF Tryz.prog 112 = some (9, vc112, [.tmp 4]) := by kernel_rfl
def vc123 := vcm Tryz.prog 123
theorem vf123 : VF Tryz.prog 123 = some (9, vc123, [.tmp 4]) := by kernel_rfl
def vc129 := vcm Tryz.prog 129
theorem vf129 : VF Tryz.prog 129 = some (12, vc129, [.tmp 4]) := by kernel_rfl
def vc135 := vcm Tryz.prog 135
theorem vf135 : VF Tryz.prog 135 = some (17, vc135, [.tmp 4]) := by kernel_rfl
def vc144 := vcm Tryz.prog 144
theorem vf144 : VF Tryz.prog 144 = some (30, vc144, [.tmp 4]) := by kernel_rfl
def vc34 := vcm Tryz.prog 34
theorem vf34 : VF Tryz.prog 34 = some (14, vc34, [.tmp 4]) := by kernel_rfl
def vc14 := vcm Tryz.prog 14
theorem vf14 : VF Tryz.prog 14 = some (18, vc14, [.tmp 4]) := by kernel_rfl
def mapN (f : PairL → PairL) (r : List PairL) (i : Nat) : List PairL := (r.take i).map f ++ r.drop i
theorem xLx (f : PairL → PairL) (r : List PairL) (i : Nat) : (mapN f r i).length = r.length := by unfold mapN; simp; omega
theorem xL0 {f : PairL → PairL} {r : List PairL} {i : Nat} {p : PairL} (h : r[i]? = some p) : (mapN f r i)[i]? = some p := by
  have hi := (List.getElem?_eq_some_iff.1 h).1
  unfold mapN
  rw [List.getElem?_append_right (by simp; omega)]
  simp only [List.length_map, List.length_take, Nat.min_eq_left (Nat.le_of_lt hi), Nat.sub_self, List.getElem?_drop, Nat.add_zero, h]
theorem xLv {f : PairL → PairL} {r : List PairL} {i : Nat} {p : PairL} (h : r[i]? = some p) : (mapN f r i).set i (f p) = mapN f r (i + 1) := by
  have hi := (List.getElem?_eq_some_iff.1 h).1
  unfold mapN
  rw [xBQ h, List.set_append_right _ _ (by simp; omega)]
  have e : i - (List.map f (r.take i)).length = 0 := by simp; omega
  rw [e, List.set_cons_zero, List.take_add_one, h]
  simp
theorem xL1 (f : PairL → PairL) (r : List PairL) : mapN f r r.length = r.map f := by unfold mapN; simp
theorem xPv {α : Type} {l : List α} {i : Nat} {x : α} (h : l[i]? = some x) : l.set i x = l := by
  obtain ⟨hi, rfl⟩ := List.getElem?_eq_some_iff.1 h
  exact List.set_getElem_self hi
theorem xC5 {g : Nat} {args : List PV} {l : List PairL} (h : VC Tryz.prog g args [] (ownV ⟨0, 0⟩ (l.map encP)) [blkV 3 (l.map encP)]) : VC Tryz.prog g args [] (.sh false (l.map encP)) [] := xIZ h (xAW rfl rfl)
set_option maxHeartbeats 1000000 in
theorem xNV {t : List PairL} (f to : Str) (hs : Srt t) (hl : t.length ≤ 100000000) (hk : ∀ p ∈ t, p.key.length ≤ 100000) (hf : f.length ≤ 100000) (hto : to.length ≤ 100000) : VC Tryz.prog 137 [.sh false (t.map encP), .str f, .str to] [] (ownV ⟨0, 0⟩ ((xBb t f to).map encP)) [blkV 3 ((xBb t f to).map encP)] := by
  refine vcs vf137 ?_
  have hp1 := xDN f (by omega)
  have hr1 := xPy (q := .sh false (t.map encP)) (xAG f) hs Sl.sh (by omega)
  rw [xJh] at hr1
  have hrl : (srcL t f).length ≤ t.length := List.length_filter_le ..
  have hrk : ∀ p ∈ srcL t f, p.key.length ≤ 100000 ∧ xAD p.key f = true := fun p hp => ⟨hk p (List.mem_filter.1 hp).1, xEP hp⟩
  have hfin : xBb t f to = (srcL t f).map (mvP f to) := rfl
  rw [hfin]
  generalize srcL t f = r at *
  have hmr : (r.map encP).length = r.length := List.length_map ..
  have cl := xHf (xs := r) (by omega)
  repeat first|refine sgo ?_|refine cv0 hp1 ?_|refine cf hr1 ?_|refine cv cl ?_|refine sop ?_
  refine xAK (fun (g : Nat × List PairL) => [(1, .str f), (2, .str to), (7, .own ⟨1, 8224⟩ (r.map encP).length 0 (r.map encP).length), (15, .int .i64 (r.map encP).length), (16, .int .i64 g.1)])
    (fun g => [(⟨1, 8224⟩, blkV 3 (g.2.map encP))]) (fun g => r.length - g.1)
    (fun g => g.1 ≤ r.length ∧ g.2 = mapN (mvP f to) r g.1) (0, r) goes ⟨Nat.zero_le _, rfl⟩ ?_
  rintro ⟨i, zs⟩ ⟨hi, hz⟩
  dsimp only at hi hz ⊢
  have hzl : zs.length = r.length := by rw [hz]; exact xLx _ _ _
  have hzm : (zs.map encP).length = r.length := by rw [List.length_map]; exact hzl
  repeat first|refine sgo ?_|refine sop ?_
  refine cnd (fun h => xAB ?_) (fun h => xAE ?_)
  · have hlt : i < r.length := by have h' := of_decide_eq_true h; omega
    obtain ⟨p, hp⟩ : ∃ x, r[i]? = some x := ⟨_, List.getElem?_eq_getElem hlt⟩
    obtain ⟨hpk, hpb⟩ := hrk p (List.mem_of_getElem? hp)
    have hzp : zs[((i : Nat) : Int).toNat]? = some p := by rw [hz]; exact xL0 hp
    have hpe : (blkV 3 (zs.map encP)).els[((i : Nat) : Int).toNat]? = some (encP p) := by
      show (zs.map encP)[_]? = _
      rw [List.getElem?_map, hzp]; rfl
    have hset : zs.set ((i : Nat) : Int).toNat (mvP f to p) = mapN (mvP f to) r (i + 1) := by rw [hz]; exact xLv hp
    have hmv := xGQ p.key f to (by omega) (by omega) (by omega)
    unfold xD7 at hmv
    rw [if_pos hpb] at hmv
    repeat first|refine sgo ?_|refine cv0 hmv ?_|refine o_v (vstf encP (mvP f to p) hzp) ?_|refine sop ?_
    exact agn (i + 1, _) ⟨by simp only; omega, hset⟩ goes
  · have hge : i = r.length := by have h' := of_decide_eq_false h; omega
    subst hge
    rw [xL1] at hz
    repeat first|refine sgo ?_|refine sop ?_
    exact xAC ⟨.inr rfl, oOwn (congrArg (List.map encP) hz)⟩
theorem xTB {q : PV} {t : List PairL} {m : MsgL} (hs : Srt t) (hq : Sl q (t.map encP)) (hl : t.length ≤ 100000000) : VC Tryz.prog 99 [.agg (encM m), q] [] (.sh false ((putL t ⟨m.key, m.val, m.n⟩).map encP)) [] := by
  have h := xC5 (xRq (q := q) ⟨m.key, m.val, m.n⟩ hs hq hl)
  refine vcs vf99 ?_
  repeat first|refine sgo ?_|refine cf h ?_|refine sop ?_
  exact xAC ⟨.inr rfl, oAny rfl⟩
theorem xTE {q : PV} {t : List PairL} {m : MsgL} (hs : Srt t) (hq : Sl q (t.map encP)) (hl : t.length ≤ 100000000) (hm : MsgSz m) : VC Tryz.prog 112 [.agg (encM m), q] [] (.sh false ((delT t m.key).map encP)) [] := by
  have h := xC5 (xRs (q := q) m.key hs hq hl (by have := hm.key; omega))
  refine vcs vf112 ?_
  repeat first|refine sgo ?_|refine cf h ?_|refine sop ?_
  exact xAC ⟨.inr rfl, oAny rfl⟩
theorem xQx {q : PV} {t : List PairL} {m : MsgL} (hs : Srt t) (hq : Sl q (t.map encP)) (hl : t.length ≤ 100000000) : VC Tryz.prog 123 [.agg (encM m), q] [] (.sh false ((xAx t m.sp).map encP)) [] := by
  have h := xC5 (xI9 (q := q) m.sp hs hq hl)
  refine vcs vf123 ?_
  repeat first|refine sgo ?_|refine cf h ?_|refine sop ?_
  exact xAC ⟨.inr rfl, oAny rfl⟩
structure TabOk (N B : Nat) (t : List PairL) : Prop where
  s : Srt t
  l : t.length ≤ N
  k : ∀ p ∈ t, p.key.length ≤ B
theorem TabOk.mono {N B N' B' : Nat} {t : List PairL} (h : TabOk N B t) (hN : N ≤ N') (hB : B ≤ B') : TabOk N' B' t := ⟨h.s, Nat.le_trans h.l hN, fun p hp => Nat.le_trans (h.k p hp) hB⟩
theorem xKY {t : List PairL} {m : MsgL} (ht : TabOk 49000000 100000 t) (hm : MsgLen 8 m) : VC Tryz.prog 135 [.agg (encM m), .sh false (t.map encP)] [] (.sh false ((xCd t m).map encP)) [] := by
  have hs := ht.s
  have hl := ht.l
  have hfr := hm.fr
  have hto := hm.to
  have hp1 := xDN m.to (by omega)
  have hd := xC5 (xI9 (q := .sh false (t.map encP)) (xAG m.to) hs Sl.sh (by omega))
  have hmv := xC5 (xNV m.fr m.to hs (by omega) ht.k (by omega) (by omega))
  have hdl : (xAx t (xAG m.to)).length ≤ t.length := List.length_filter_le ..
  have hml : (xBb t m.fr m.to).length ≤ t.length := by unfold xBb; rw [List.length_map]; exact List.length_filter_le ..
  have hu := xC5 (xPa (q := .sh false ((xAx t (xAG m.to)).map encP)) (p := .sh false ((xBb t m.fr m.to).map encP)) Sl.sh Sl.sh (by omega) (by omega))
  refine vcs vf135 ?_
  repeat first|refine sgo ?_|refine cv0 hp1 ?_|refine cf hd ?_|refine cf hmv ?_|refine cf hu ?_|refine sop ?_
  exact xAC ⟨.inr rfl, oAny rfl⟩
theorem xKO (t : List PairL) (m : MsgL) : (xCd t m).length ≤ 2 * t.length := by
  have h := xDI (xAx t (xAG m.to)) (xBb t m.fr m.to)
  have hdl : (xAx t (xAG m.to)).length ≤ t.length := List.length_filter_le ..
  have hml : (xBb t m.fr m.to).length ≤ t.length := by unfold xBb; rw [List.length_map]; exact List.length_filter_le ..
  unfold xCd; omega
theorem xQw {t : List PairL} {m : MsgL} (ht : TabOk 49000000 100000 t) (hm : MsgLen 8 m) : VC Tryz.prog 129 [.agg (encM m), .sh false (t.map encP)] [] (.sh false ((xAx (xCd t m) (xAG m.fr)).map encP)) [] := by
  have hfr := hm.fr
  have hl := ht.l
  have hc := xKY ht hm
  have hp1 := xDN m.fr (by omega)
  have hcl := xKO t m
  have hd := xC5 (xI9 (q := .sh false ((xCd t m).map encP)) (xAG m.fr) (xFP ht.s m) Sl.sh (by omega))
  refine vcs vf129 ?_
  repeat first|refine sgo ?_|refine cf hc ?_|refine cv0 hp1 ?_|refine cf hd ?_|refine sop ?_
  exact xAC ⟨.inr rfl, oAny rfl⟩
theorem xNK {r : List PairL} {m : MsgL} (hl : r.length ≤ 100000000) : VC Tryz.prog 144 [.agg (encM m), .sh false (r.map encP)] [] (ownV ⟨0, 0⟩ ((r.map (xCo m)).map encP)) [blkV 3 ((r.map (xCo m)).map encP)] := by
  refine vcs vf144 ?_
  have hmr : (r.map encP).length = r.length := List.length_map ..
  have cl := xHf (xs := r) (by omega)
  repeat first|refine sgo ?_|refine cv cl ?_|refine sop ?_
  refine xAK (fun (g : Nat × List PairL) => [(2, .ptr ⟨1, 0⟩ 1 0 0), (5, .own ⟨1, 8200⟩ (r.map encP).length 0 (r.map encP).length), (10, .int .i64 (r.map encP).length), (11, .int .i64 g.1)])
    (fun g => [(⟨1, 0⟩, ⟨true, false, 8, [encM m]⟩), (⟨1, 8200⟩, blkV 3 (g.2.map encP))]) (fun g => r.length - g.1)
    (fun g => g.1 ≤ r.length ∧ g.2 = mapN (xCo m) r g.1) (0, r) goes ⟨Nat.zero_le _, rfl⟩ ?_
  rintro ⟨i, zs⟩ ⟨hi, hz⟩
  dsimp only at hi hz ⊢
  have hzl : zs.length = r.length := by rw [hz]; exact xLx _ _ _
  have hzm : (zs.map encP).length = r.length := by rw [List.length_map]; exact hzl
  repeat first|refine sgo ?_|refine sop ?_
  refine cnd (fun h => xAB ?_) (fun h => xAE ?_)
  · have hlt : i < r.length := by have h' := of_decide_eq_true h; omega
    obtain ⟨p, hp⟩ : ∃ x, r[i]? = some x := ⟨_, List.getElem?_eq_getElem hlt⟩
    have hzp : zs[((i : Nat) : Int).toNat]? = some p := by rw [hz]; exact xL0 hp
    have hpe : (blkV 3 (zs.map encP)).els[((i : Nat) : Int).toNat]? = some (encP p) := by
      show (zs.map encP)[_]? = _
      rw [List.getElem?_map, hzp]; rfl
    have hset : zs.set ((i : Nat) : Int).toNat (xCo m p) = mapN (xCo m) r (i + 1) := by rw [hz]; exact xLv hp
    repeat first|refine sgo ?_|refine cv0 (xOp m.sp p.key) ?_|refine sop ?_
    refine cnd (fun h => ?_) (fun h => xAB ?_)
    · have hst : xCo m p = { p with stamp := m.n } := by unfold xCo; rw [if_pos h]
      rw [hst] at hset
      repeat first|refine sgo ?_|refine o_v (vstf encP ({ p with stamp := m.n } : PairL) hzp) ?_|refine sop ?_
      exact agn (i + 1, _) ⟨by simp only; omega, hset⟩ goes
    · have hst : xCo m p = p := by unfold xCo; rw [if_neg (by simp [h])]
      rw [hst, xPv hzp] at hset
      repeat first|refine sgo ?_|refine sop ?_
      exact agn (i + 1, zs) ⟨by simp only; omega, hset⟩ goes
  · have hge : i = r.length := by have h' := of_decide_eq_false h; omega
    subst hge
    rw [xL1] at hz
    repeat first|refine sgo ?_|refine sop ?_
    exact xAC ⟨.inr rfl, oOwn (congrArg (List.map encP) hz)⟩
end Go.Proofs
open Go.V Go.Pu
set_option linter.unusedVariables false
set_option linter.unusedSimpArgs false
set_option maxRecDepth 20000
namespace Go.Proofs
theorem xPP {r : List PairL} {m : MsgL} (hl : r.length ≤ 100000000) : VC Tryz.prog 144 [.agg (encM m), .sh false (r.map encP)] [] (.sh false ((r.map (xCo m)).map encP)) [] := xC5 (xNK hl)
theorem xQv {t : List PairL} {m : MsgL} (ht : TabOk 49000000 100000 t) (hk : MsgOk m) (hl : MsgLen 8 m) : VC Tryz.prog 34 [.sh false (t.map encP), .agg (encM m)] [] (.sh false ((xC2 t m).map encP)) [] := by
  have hz := MsgSz.of hk hl
  have hs := ht.s
  have hn := ht.l
  have ho := of_vc hk.k
  have a1 := xTB (q := .sh false (t.map encP)) (m := m) hs Sl.sh (by omega)
  have a2 := xTE (q := .sh false (t.map encP)) (m := m) hs Sl.sh (by omega) hz
  have a3 := xQx (q := .sh false (t.map encP)) (m := m) hs Sl.sh (by omega)
  have a4 := xQw (m := m) ht hl
  have a5 := xKY (m := m) ht hl
  have a6 := xPP (r := t) (m := m) (by omega)
  have hk := hk.k
  clear hz hl
  obtain ⟨k, m2, m3, m4, m5, m6, m7⟩ := m
  simp only at hk
  rcases six hk with rfl | rfl | rfl | rfl | rfl | rfl
  · refine vcs vf34 ?_
    repeat first|refine sgo ?_|refine cf ho ?_|refine o_v0 visn ?_|refine sop ?_
    refine cndt ?_
    repeat first|refine sgo ?_|refine cf a1 ?_|refine sop ?_
    exact xAC ⟨.inr rfl, oAny rfl⟩
  · refine vcs vf34 ?_
    repeat first|refine sgo ?_|refine cf ho ?_|refine o_v0 visn ?_|refine sop ?_
    refine cndt ?_
    repeat first|refine sgo ?_|refine cf a2 ?_|refine sop ?_
    exact xAC ⟨.inr rfl, oAny rfl⟩
  · refine vcs vf34 ?_
    repeat first|refine sgo ?_|refine cf ho ?_|refine o_v0 visn ?_|refine sop ?_
    refine cndt ?_
    repeat first|refine sgo ?_|refine cf a3 ?_|refine sop ?_
    exact xAC ⟨.inr rfl, oAny rfl⟩
  · refine vcs vf34 ?_
    repeat first|refine sgo ?_|refine cf ho ?_|refine o_v0 visn ?_|refine sop ?_
    refine cndt ?_
    repeat first|refine sgo ?_|refine cf a4 ?_|refine sop ?_
    exact xAC ⟨.inr rfl, oAny rfl⟩
  · refine vcs vf34 ?_
    repeat first|refine sgo ?_|refine cf ho ?_|refine o_v0 visn ?_|refine sop ?_
    refine cndt ?_
    repeat first|refine sgo ?_|refine cf a5 ?_|refine sop ?_
    exact xAC ⟨.inr rfl, oAny rfl⟩
  · refine vcs vf34 ?_
    repeat first|refine sgo ?_|refine cf ho ?_|refine o_v0 visn ?_|refine sop ?_
    refine cndt ?_
    repeat first|refine sgo ?_|refine cf a6 ?_|refine sop ?_
    exact xAC ⟨.inr rfl, oAny rfl⟩
theorem xN2 {t : List PairL} {p x : PairL} (hs : Srt t) (hx : x ∈ putL t p) : x = p ∨ x ∈ t := by
  have h := Srt.find (xBC hs) hx
  rw [xB9 hs] at h
  split at h
  · left; cases h; rfl
  · right; exact xKF h
theorem xSM {t : List PairL} {p : PairL} (hs : Srt t) : (putL t p).length ≤ t.length + 1 := by
  cases hf : (xAH t p.key).isSome with
  | true => rw [← xJi hs hf]; simp
  | false => rw [← xN4 hs hf]; simp; omega
theorem xPR {N B : Nat} {t : List PairL} (ht : TabOk N B t) (hN : 1 ≤ N) {m : MsgL} (hm : MsgLen 8 m) (h8 : 8 ≤ B) : TabOk (2 * N) (B + 8) (xC2 t m) := by
  have hs := ht.s
  have hl := ht.l
  have hk := ht.k
  have hcl := xKO t m
  have hck : ∀ p ∈ xCd t m, p.key.length ≤ B + 8 := by
    intro p hp
    unfold xCd at hp
    rcases xCM _ _ hp with h | h
    · have := hk p (List.mem_filter.1 h).1; omega
    · unfold xBb at h
      obtain ⟨q, hq, rfl⟩ := List.mem_map.1 h
      have h1 := hk q (List.mem_filter.1 hq).1
      have h2 := hm.to
      simp only [mvP, List.length_append, List.length_drop]
      omega
  refine ⟨xHn hs m, ?_, ?_⟩
  · unfold xC2
    repeat' split
    · have := xSM (p := ⟨m.key, m.val, m.n⟩) hs; omega
    · have := xS2 t m.key; omega
    · have : (xAx t m.sp).length ≤ t.length := List.length_filter_le ..
      omega
    · rw [List.length_map]; omega
    · have : (xAx (xCd t m) (xAG m.fr)).length ≤ (xCd t m).length := List.length_filter_le ..
      omega
    · omega
  · unfold xC2
    repeat' split
    · intro p hp
      rcases xN2 hs hp with rfl | h
      · have := hm.key; simp only; omega
      · have := hk p h; omega
    · intro p hp; have := hk p (List.mem_filter.1 hp).1; omega
    · intro p hp; have := hk p (List.mem_filter.1 hp).1; omega
    · intro p hp
      obtain ⟨q, hq, rfl⟩ := List.mem_map.1 hp
      rw [xFU]; have := hk q hq; omega
    · intro p hp; exact hck p (List.mem_filter.1 hp).1
    · exact hck
theorem xLL : ∀ (l : List MsgL) {N B : Nat} {t : List PairL}, TabOk N B t → 1 ≤ N → 8 ≤ B → (∀ m ∈ l, MsgLen 8 m) → TabOk (2 ^ l.length * N) (B + 8 * l.length) (allT t l)
  | [], N, B, t, h, _, _, _ => by
    have e : allT t [] = t := rfl
    rw [e]; simpa using h
  | m :: l, N, B, t, h, hN, hB, hm => by
    have h1 := xPR h hN (hm m (by simp)) hB
    have h2 := xLL l h1 (by omega) (by omega) fun x hx => hm x (by simp [hx])
    refine h2.mono ?_ (by simp only [List.length_cons]; omega)
    rw [List.length_cons, Nat.pow_succ, Nat.mul_assoc]
    exact Nat.le_refl _
theorem xRE {a b : Nat} (h : a ≤ b) {N : Nat} : 2 ^ a * N ≤ 2 ^ b * N := Nat.mul_le_mul_right _ (Nat.pow_le_pow_right (by decide) h)
theorem xPT {l : List MsgL} {t : List PairL} {N B n : Nat} (ht : TabOk N B t) (hN : 1 ≤ N) (hB : 8 ≤ B) (hn : l.length ≤ n) (hn2 : 2 ^ n * N ≤ 49000000) (hb2 : B + 8 * n ≤ 100000) (ho : ∀ m ∈ l, MsgOk m) (hm : ∀ m ∈ l, MsgLen 8 m) : VC Tryz.prog 14 [.sh false (t.map encP), .sh false (l.map encM)] [] (.sh false ((allT t l).map encP)) [] := by
  have hml : (l.map encM).length = l.length := List.length_map _
  refine vcs vf14 ?_
  repeat first|refine sgo ?_|refine sop ?_
  refine xAK (fun (g : Nat) => [(0, .sh false ((allT t (l.take g)).map encP)), (7, .sh false (l.map encM)), (8, .int .i64 (l.map encM).length), (9, .int .i64 g)]) (fun _ => []) (fun g => l.length - g)
    (fun g => g ≤ l.length) 0 xA7 (Nat.zero_le _) ?_
  intro i hi
  repeat first|refine sgo ?_|refine sop ?_
  refine cnd (fun h => xAB ?_) (fun h => xAE ?_)
  · have hlt : i < l.length := by have h' := of_decide_eq_true h; omega
    obtain ⟨m, hx⟩ : ∃ m, l[i]? = some m := ⟨_, List.getElem?_eq_getElem hlt⟩
    have hxe := gm (enc := encM) (n := (i : Int)) hx (by omega)
    have hmem := List.mem_of_getElem? hx
    have htb := xLL (l.take i) ht hN hB fun x hx' => hm x (List.mem_of_mem_take hx')
    have htl : (l.take i).length = i := by rw [List.length_take]; omega
    rw [htl] at htb
    have hp : 2 ^ i * N ≤ 2 ^ n * N := xRE (by omega)
    have hap := xQv (htb.mono (Nat.le_trans hp hn2) (by omega)) (ho m hmem) (hm m hmem)
    have hst : xC2 (allT t (l.take i)) m = allT t (l.take (i + 1)) := by
      rw [List.take_add_one, hx, Option.toList_some, xTD]; rfl
    rw [hst] at hap
    generalize allT t (l.take i) = c at hap
    repeat first|refine sgo ?_|refine cf hap ?_|refine sop ?_
    exact agn (Q := fun _ _ => True) (i + 1) (by omega) xA7
  · have hge : i = l.length := by have h' := of_decide_eq_false h; omega
    subst hge
    rw [List.take_length]
    repeat first|refine sgo ?_|refine sop ?_
    exact xAC ⟨.inr rfl, oAny rfl⟩
theorem inL_step {l : List SpanL} {j : Nat} {s : SpanL} (k : Str) (h : l[j]? = some s) : inL (l.take (j + 1)) k = (inL (l.take j) k || hasL s k) := by
  rw [List.take_add_one, h, Option.toList_some, xCD]; simp [inL]
theorem xIN {t : List PairL} {i : Nat} {y : PairL} (f : PairL → Bool) (hy : t[i]? = some y) : (t.take (i + 1)).filter f = if f y = true then (t.take i).filter f ++ [y] else (t.take i).filter f := by
  rw [List.take_add_one, hy, Option.toList_some, List.filter_append]
  cases h : f y <;> simp [h]
end Go.Proofs
