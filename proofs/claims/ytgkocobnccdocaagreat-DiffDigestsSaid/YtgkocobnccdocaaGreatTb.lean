/- Tb -/
import Derived.Test.YtgkocobnccdocaaGreatTa
import Derived.Test.YtgkocobnccdocaaGreatVE
import Derived.Test.YtgkocobnccdocaaGreatPu
open Go.V Go.Pu
set_option linter.unusedVariables false
set_option linter.unusedSimpArgs false
set_option maxRecDepth 20000
namespace Go.Proofs
def vc291 := vcm Tryz.prog 291
theorem vf291 : VF Tryz.prog 291 = some (27, vc291, [.tmp 4]) := by kernel_rfl
def vc290 := vcm Tryz.prog 290
theorem vf290 : VF Tryz.prog 290 = some (36, vc290, [.tmp 2]) := by kernel_rfl
def vc288 := vcm Tryz.prog 288
theorem vf288 : VF Tryz.prog 288 = some (21, vc288, [.tmp 4]) := by kernel_rfl
theorem xTW : VC Tryz.prog 291 [.nils, .int .i64 0] [] .nils [] := by
  refine vcs vf291 ?_
  repeat first|refine sgo ?_|refine sop ?_
  refine cndf (xAB ?_)
  repeat first|refine sgo ?_|refine o_v0 xJ3 ?_|refine sop ?_
  refine cndf (xAB ?_)
  repeat first|refine sgo ?_|refine sop ?_
  exact xAC ⟨.inr rfl, oAny rfl⟩
theorem xVw {n : Nat} (h0 : 0 < n) (h1 : n ≤ 100000000) : VC Tryz.prog 291 [.nils, .int .i64 n] [] (.own ⟨0, 0⟩ n 0 0) [blkV 3 (List.replicate n (encP zP))] := by
  refine vcs vf291 ?_
  have s1 : bin .sub (.int .i64 0) (.int .i64 (([] : List (List PV)).length : Int)) = some (.int .i64 0) := rfl
  have s2 : bin .sub (.int .i64 (n : Int)) (.int .i64 0) = some (.int .i64 (n : Int)) := by
    show some (PV.int .i64 (IntKind.i64.wrap ((n : Int) - 0))) = _
    rw [Int.sub_zero, xB0 (by omega) (by omega)]
  repeat first|refine sgo ?_|refine sop ?_
  refine cndf (xAB ?_) rfl (decide_eq_false (by omega))
  repeat first|refine sgo ?_|refine o_v0 xJ3 ?_|refine xBE s1 ?_|refine xBE s2 ?_|refine sop ?_
  refine cndt ?_ rfl (decide_eq_true (by omega))
  repeat first|refine sgo ?_|refine o_v0 xJ3 ?_|refine o_v0 vsln ?_|refine o_v (xUa (n := n)) ?_|refine xGe (a := 0) (z := 0) ?_|refine sop ?_
  exact xAC ⟨.inr rfl, xKM rfl rfl rfl (by decide)⟩
abbrev encL (l : List PairL) : List PV := [.sh false (l.map encP)]
def totL (ls : List (List PairL)) : Nat := (ls.map List.length).sum
theorem xNC (l : List PairL) (ls : List (List PairL)) : totL (l :: ls) = l.length + totL ls := by simp [totL]
theorem xSB (ls : List (List PairL)) : ls.flatten.length = totL ls := by simp [totL, List.length_flatten]
set_option maxHeartbeats 1000000 in
theorem xRb {q : PV} {ls : List (List PairL)} (hq : Sl q (ls.map encL)) (hl : ls.length ≤ 100000000) (ht : totL ls ≤ 100000000) : VC Tryz.prog 290 [q] [] (ownV ⟨0, 0⟩ (ls.flatten.map encP)) [blkV 3 (ls.flatten.map encP)] := by
  refine vcs vf290 ?_
  have hml : (ls.map encL).length = ls.length := List.length_map ..
  have htf := xSB ls
  repeat first|refine sgo ?_|refine sop ?_
  refine xAE (fun (g : Nat × Nat) => [(0, q), (3, .int .i64 g.2), (9, q), (10, .int .i64 (ls.map encL).length), (11, .int .i64 g.1)])
    (fun g => []) (fun g => ls.length - g.1)
    (fun g => g.1 ≤ ls.length ∧ g.2 + totL (ls.drop g.1) = totL ls) (0, 0) goes ⟨Nat.zero_le _, by simp⟩ ?_
  rintro ⟨i, n⟩ ⟨hi, hn⟩
  dsimp only at hi hn ⊢
  repeat first|refine sgo ?_|refine sop ?_
  refine cnd (fun h => xAB ?_) (fun h => xAD ?_)
  · have hlt : i < ls.length := by have h' := of_decide_eq_true h; omega
    obtain ⟨l, hl⟩ : ∃ x, ls[i]? = some x := ⟨_, List.getElem?_eq_getElem hlt⟩
    have hle := gm (enc := encL) (n := (i : Int)) hl (by omega)
    rw [xAo hl, xNC] at hn
    have hll : (l.map encP).length = l.length := List.length_map ..
    repeat first|refine sgo ?_|refine sop ?_
    refine cndf (xAB ?_) rfl (decide_eq_false (by omega))
    repeat first|refine sgo ?_|refine sop ?_
    exact agn (i + 1, n + l.length) ⟨by simp only; omega, by simp only; omega⟩ (goes (h1 := by
      refine ⟨rfl, ?_, rfl, rfl, rfl, trivial⟩
      exact congrArg (fun z => some (PV.int .i64 z)) (by simp only [hll]; omega)))
  have hge : i = ls.length := by have h' := of_decide_eq_false h; omega
  subst hge
  have hn2 : n = totL ls := by rw [List.drop_length] at hn; simpa [totL] using hn
  subst hn2
  clear hn h
  rcases Nat.eq_zero_or_pos (totL ls) with h0 | hpos
  · have hall : ∀ (m : List (List PairL)), totL m = 0 → ∀ l ∈ m, l = [] := by
      intro m
      induction m with
      | nil => intro _ l hl; cases hl
      | cons x m ih =>
        intro h l hl
        rw [xNC] at h
        rcases List.mem_cons.1 hl with rfl | hl
        · exact List.length_eq_zero_iff.1 (by omega)
        · exact ih (by omega) l hl
    have hfl : ls.flatten = [] := List.length_eq_zero_iff.1 (by omega)
    rw [hfl, h0]
    repeat first|refine sgo ?_|refine cv0 xTW ?_|refine sop ?_
    refine xAE (fun (g : Nat) => [(6, ownV ⟨1, 106512⟩ (([] : List PairL).map encP)), (25, q), (26, .int .i64 (ls.map encL).length), (27, .int .i64 g)])
      (fun g => [(⟨1, 106512⟩, blkV 3 (([] : List PairL).map encP))]) (fun g => ls.length - g)
      (fun g => g ≤ ls.length) 0 ((Imp.nil (t := 6) (b := ⟨1, 106512⟩) (esz := 3) rfl rfl (by decide)).trans goes) (Nat.zero_le _) ?_
    intro i hi
    (try dsimp only)
    repeat first|refine sgo ?_|refine sop ?_
    refine cnd (fun h => xAB ?_) (fun h => xAD ?_)
    · have hlt : i < ls.length := by have h' := of_decide_eq_true h; omega
      obtain ⟨l, hl⟩ : ∃ x, ls[i]? = some x := ⟨_, List.getElem?_eq_getElem hlt⟩
      have hle := gm (enc := encL) (n := (i : Int)) hl (by omega)
      have hl0 := hall ls h0 l (List.mem_of_getElem? hl)
      subst hl0
      repeat first|refine sgo ?_|refine o_v (vaps encP [] []) ?_|refine sop ?_
      exact agn (i + 1) (by omega) goes
    · repeat first|refine sgo ?_|refine sop ?_
      exact xAC ⟨.inr rfl, oOwn rfl⟩
  · have hrep : List.replicate (totL ls) (encP zP) = (List.replicate (totL ls) zP).map encP := by rw [List.map_replicate]
    have hg := xVw hpos ht
    rw [hrep] at hg
    generalize totL ls = N at *
    have hcl : (blkV 3 ((List.replicate N zP).map encP)).frz = false ∧ ∀ e ∈ (blkV 3 ((List.replicate N zP).map encP)).els, ∀ c ∈ e, cS c = true := ⟨rfl, by intro e he; obtain ⟨a, _, rfl⟩ := List.mem_map.1 he; simp [cS, cN, clean]⟩
    repeat first|refine sgo ?_|refine cv hg ?_|refine sop ?_
    refine xAE (fun (g : Nat × List PairL) => [(6, .own ⟨1, 73736⟩ N 0 g.2.length), (25, q), (26, .int .i64 (ls.map encL).length), (27, .int .i64 g.1)])
      (fun g => [(⟨1, 73736⟩, blkV 3 ((g.2 ++ List.replicate (N - g.2.length) zP).map encP))]) (fun g => ls.length - g.1)
      (fun g => g.1 ≤ ls.length ∧ g.2 ++ (ls.drop g.1).flatten = ls.flatten) (0, []) goes ⟨Nat.zero_le _, rfl⟩ ?_
    rintro ⟨i, o⟩ ⟨hi, hv⟩
    dsimp only at hi hv ⊢
    have hol := congrArg List.length hv
    rw [List.length_append, htf] at hol
    repeat first|refine sgo ?_|refine sop ?_
    refine cnd (fun h => xAB ?_) (fun h => xAD ?_)
    · have hlt : i < ls.length := by have h' := of_decide_eq_true h; omega
      obtain ⟨l, hl⟩ : ∃ x, ls[i]? = some x := ⟨_, List.getElem?_eq_getElem hlt⟩
      have hle := gm (enc := encL) (n := (i : Int)) hl (by omega)
      rw [xAo hl, List.flatten_cons] at hv hol
      rw [List.length_append] at hol
      have e1 : o ++ l ++ (List.replicate (N - o.length) zP).drop l.length = (o ++ l) ++ List.replicate (N - (o ++ l).length) zP := by
        rw [List.drop_replicate, List.length_append]; congr 2; omega
      have hrl : (List.replicate (N - o.length) zP).length = N - o.length := List.length_replicate ..
      have e2 : o.length + l.length = (o ++ l).length := List.length_append.symm
      repeat first|refine sgo ?_|refine o_v (xUb encP o l (List.replicate (N - o.length) zP) e1 e2) ?_|refine sop ?_
      refine agn (i + 1, o ++ l) ⟨by simp only; omega, by rw [← hv]; simp⟩ goes
    · have hge : i = ls.length := by have h' := of_decide_eq_false h; omega
      subst hge
      rw [List.drop_length] at hv hol
      rw [List.flatten_nil, List.append_nil] at hv
      rw [List.flatten_nil, List.length_nil] at hol
      subst hv
      simp only [htf, Nat.sub_self, List.replicate_zero, List.append_nil]
      repeat first|refine sgo ?_|refine sop ?_
      exact xAC ⟨.inr rfl, oOwn rfl⟩
theorem xTa {t : List PairL} (s : SpanL) (hs : Srt t) (hl : t.length ≤ 100000000) : VC Tryz.prog 288 [.sh false (t.map encP), .agg (encS s)] [] (ownV ⟨0, 0⟩ ((xAy t s).map encP)) [blkV 3 ((xAy t s).map encP)] := by
  refine vcs vf288 ?_
  obtain ⟨h1, h2⟩ := xI5 hs s
  have h3 := xV4 hs s
  have hb := xMB (q := .sh false (t.map encP)) s hs Sl.sh hl
  have hml : (t.map encP).length = t.length := List.length_map ..
  rw [← h3]
  generalize (xAc t s).1 = a at *
  generalize (xAc t s).2 = z at *
  have hc := xRb (q := .sh false ([t.take a, t.drop z].map encL)) (ls := [t.take a, t.drop z]) Sl.sh (by simp) (by simp [totL]; omega)
  rw [show [t.take a, t.drop z].flatten = t.take a ++ t.drop z by simp] at hc
  repeat first|refine sgo ?_|refine cv0 hb ?_|refine o_v0 (vslh t (t.take a) 0 a (by simp)) ?_|refine o_v0 (vslh t (t.drop z) z t.length (by rw [List.take_of_length_le (by simp)]) (h2 := congrArg (fun n : Nat => some (n : Int)) hml)) ?_|refine cv hc ?_|refine sop ?_
  exact xAC ⟨.inr rfl, oOwn rfl⟩
theorem xKo {q : PV} {t : List PairL} (s : SpanL) (hs : Srt t) (hq : Sl q (t.map encP)) (hl : t.length ≤ 100000000) : VC Tryz.prog 288 [q, .agg (encS s)] [] (ownV ⟨0, 0⟩ ((xAy t s).map encP)) [blkV 3 ((xAy t s).map encP)] :=
  xCQ (xTa s hs hl) (.cons (PLe.sl hq) (.cons (PLe.refl _) .nil)) (PLe.refl _)
end Go.Proofs
open Go.V Go.Pu
set_option linter.unusedVariables false
set_option linter.unusedSimpArgs false
set_option maxRecDepth 20000
namespace Go.Proofs
def vc271 := vcm Tryz.prog 271
theorem vf271 : VF Tryz.prog 271 = some (95, vc271, [.tmp 6]) := by kernel_rfl
theorem insA {α : Type} {A : List α} {q z : α} {i m : Nat} (hA : A.length = i) : (A ++ List.replicate (m + 1) z).take i ++ [q].take (m + 1) ++ (A ++ List.replicate (m + 1) z).drop (i + min [q].length (m + 1)) = A ++ q :: List.replicate m z := by
  subst hA
  have e : min [q].length (m + 1) = 1 := by simp
  rw [e, List.take_left', List.drop_append, List.drop_of_length_le (by omega)]
  · simp
  · rfl
theorem insB {α : Type} {A B C : List α} {q : α} {i m : Nat} (hA : A.length = i) (hB : B.length = m) (hC : C.length = m) : (A ++ q :: C).take (i + 1) ++ B.take m ++ (A ++ q :: C).drop (i + 1 + min B.length m) = A ++ q :: B := by
  subst hA; subst hB
  rw [Nat.min_self, List.take_length, List.take_append, List.take_of_length_le (l := A) (by omega), List.drop_append, List.drop_of_length_le (l := A) (by omega)]
  have e : A.length + 1 - A.length = 1 := by omega
  have e2 : A.length + 1 + B.length - A.length = B.length + 1 := by omega
  rw [e, e2]
  simp [hC]
theorem insC {α : Type} {A B : List α} {y : α} {i m : Nat} (hA : A.length = i) (hB : B.length = m) (hm : 0 < m) : (A ++ B ++ [y]).take (i + 1) ++ (B ++ [y]).take m ++ (A ++ B ++ [y]).drop (i + 1 + min (B ++ [y]).length m) = A ++ B.take 1 ++ B := by
  subst hA; subst hB
  have e3 : min (B ++ [y]).length B.length = B.length := by simp
  rw [e3, List.append_assoc A B [y], List.take_append (l₁ := A), List.take_of_length_le (l := A) (by omega), List.drop_append, List.drop_of_length_le (l := A) (by omega)]
  have e : A.length + 1 - A.length = 1 := by omega
  have e2 : A.length + 1 + B.length - A.length = B.length + 1 := by omega
  rw [e, e2, List.take_left' rfl, List.drop_of_length_le (by simp), List.take_append_of_le_length (by omega)]
  simp
theorem insD {α : Type} {A B : List α} {q : α} {i m : Nat} (hA : A.length = i) (hB : B.length = m) (hm : 0 < m) : (A ++ B.take 1 ++ B).take i ++ [q].take (m + 1) ++ (A ++ B.take 1 ++ B).drop (i + min [q].length (m + 1)) = A ++ q :: B := by
  subst hA; subst hB
  have e : min [q].length (B.length + 1) = 1 := by simp
  rw [e, List.append_assoc A (B.take 1) B, List.take_left' rfl, List.drop_append (l₁ := A), List.drop_of_length_le (l := A) (by omega)]
  have e : A.length + 1 - A.length = 1 := by omega
  rw [e]
  cases B with
  | nil => simp at hm
  | cons b B => simp
def xTR (xs : List PairL) (i : Nat) (p : PairL) : List PairL := xs.take i ++ p :: xs.drop i
set_option maxHeartbeats 1000000 in
theorem xOQ {n i : Nat} (xs : List PairL) (p : PairL) (hn : xs.length = n) (hi : i ≤ n) (hm : n ≤ 100000000) :
    VC Tryz.prog 271 [.own ⟨0, 0⟩ n 0 n, .int .i64 i, .sh false [encP p]] [blkV 3 (xs.map encP)] (.own ⟨0, 0⟩ (n + 1) 0 (n + 1)) [blkV 3 ((xTR xs i p).map encP)] := by
  refine vcs vf271 ?_
  have hml : (xs.map encP).length = n := by rw [List.length_map, hn]
  have hins : (xTR xs i p).map encP = (xs.map encP).take i ++ encP p :: (xs.map encP).drop i := by simp [xTR, List.map_take, List.map_drop]
  have okp : okEls 3 [encP p] := okEls.map (xs := [p]) (fun a => by simp [closed])
  have okx : okEls 3 (xs.map encP) := okEls.map (fun a => by simp [closed])
  rw [hins]
  clear hins
  repeat first|refine sgo ?_|refine o_v0 (v := .int .i64 1) rfl ?_|refine o_v (vslo i n (hw' := hml.symm)) ?_|refine sop ?_
  refine cndf (xAB ?_)
  repeat first|refine sgo ?_|refine sop ?_
  refine cnd (fun h => ?_) (fun h => xAB ?_)
  · have hin : i = n := by have h' := of_decide_eq_true h; omega
    subst hin
    repeat first|refine sgo ?_|refine o_v (vaps encP xs [p] (hnn := hml.symm)) ?_|refine sop ?_
    refine xAC ⟨.inr rfl, oLO ?_ ?_⟩
    · rw [List.take_of_length_le (by omega), List.drop_of_length_le (by omega), List.map_append]; rfl
    · exact congrArg (fun k => some (PV.own ⟨0, 0⟩ k 0 k)) (by simp [hn])
  have hin : i < n := by have h' := of_decide_eq_false h; omega
  have hle : ∀ e ∈ xs.map encP, e.length = 3 := fun e he => (okx e he).1
  have hcl : ∀ e ∈ xs.map encP, ∀ c ∈ e, closed c = true := fun e he => (okx e he).2
  generalize xs.map encP = L at *
  obtain ⟨m, hm0⟩ : ∃ m, n = i + m := ⟨n - i, by omega⟩
  have hA : (L.take i).length = i := by rw [List.length_take]; omega
  have hB : (L.drop i).length = m := by rw [List.length_drop]; omega
  have hfm : i + m ≤ n := by omega
  have hfm1 : i + (m + 1) ≤ n + 1 := by omega
  have hAB : L.take i ++ L.drop i = L := List.take_append_drop i L
  have okB : okEls 3 (L.drop i) := fun e he => okx e (List.mem_of_mem_drop he)
  refine xAb (ct_ch (xMA ?_))
  refine sh_v rfl (sh_v rfl (sh_v (xUh rfl rfl (xB0 (by omega) (by omega))) (sh_v rfl (sh_cap rfl (by decide) (fun ad c hc => ?_) ⟨_, rfl, hml.symm⟩))))
  refine sh_v rfl (xT0 ?_)
  refine xWB (fun h2 => ?_) (fun h2 => ?_)
  · have hbig : c < n + 1 := by have h' := of_decide_eq_true h2; omega
    have e1 : i + (m + 1) = n + 1 := by omega
    refine xMA ?_
    refine sh_v rfl (sh_v rfl (sh_v (vslo 0 i (hw' := hml.symm)) (sh_v rfl (sh_v rfl (sh_v (xUh rfl rfl (xB0 (by omega) (by omega))) (sh_v rfl (sh_v (v_sub rfl rfl (xB0 (by omega) (by omega))) ?_)))))))
    refine xU4 (n := m + 1) (len2 := i) ?_ (by omega) (hq := congrArg (fun z => some (PV.int .i64 z)) (show ((n : Int) + 1) - (i : Int) = ((m + 1 : Nat) : Int) by omega)) (hwB := hml.symm) (hlen := hle) (hcl := hcl)
    rw [e1]
    refine sh_v rfl (xT0 (ch_ct ?_))
    have hlen : (L.take i ++ List.replicate (m + 1) (encP zP)).length = n + 1 := by rw [List.length_append, List.length_replicate, hA]; omega
    have hr1 := insA (q := encP p) (z := encP zP) (m := m) hA
    have hlen2 : (L.take i ++ encP p :: List.replicate m (encP zP)).length = n + 1 := by rw [List.length_append, List.length_cons, List.length_replicate, hA]; omega
    have hr2 := insB (q := encP p) hA hB (List.length_replicate (n := m) (a := encP zP))
    have hlen3 : (L.take i ++ encP p :: L.drop i).length = n + 1 := by rw [List.length_append, List.length_cons, hA, hB]; omega
    have hsrc : (L.drop i).take m = L.drop i := List.take_of_length_le (by omega)
    repeat first|refine sgo ?_|refine o_v (vslo i (n + 1) (o := i) (l := m + 1) (hw' := hlen.symm)) ?_|refine o_v (vcpy _ [encP p] hr1 okp (hw' := hlen.symm)) ?_|refine sop ?_
    have okB' : okEls 3 ((L.drop i).take m) := by rw [hsrc]; exact okB
    have hr2' : (L.take i ++ encP p :: List.replicate m (encP zP)).take (i + 1) ++ ((L.drop i).take m).take m ++ (L.take i ++ encP p :: List.replicate m (encP zP)).drop (i + 1 + min ((L.drop i).take m).length m) = L.take i ++ encP p :: L.drop i := by rw [hsrc]; exact hr2
    repeat first|refine sgo ?_|refine o_v (vslo (i + 1) (n + 1) (o := i + 1) (l := m) (hw' := hlen2.symm)) ?_|refine o_v (vslo i n (o := i) (l := m) (hw' := hml.symm)) ?_|refine o_v (vcpy _ ((L.drop i).take m) hr2' okB' (hct := by exact xDQ (els := []) (B := blkV 3 L) (off := i) (len := m) rfl rfl hml.symm hfm) (hw' := hlen2.symm)) ?_|refine sop ?_
    refine xD7 (Imp.onto 6 (n + 1) ⟨0, 0⟩ ⟨1, 73792⟩ (els0 := L) (els1 := L.take i ++ encP p :: L.drop i) (by omega) hlen3.symm) ?_
    exact xAC ⟨.inr rfl, oLO rfl⟩
  · have hsm : n + 1 ≤ c := by have h' := of_decide_eq_false h2; omega
    refine xRp (t0 := 0) (m := 1) hml (fun rows hr hrc => xAB ?_) hsm
    obtain ⟨e0, rfl⟩ : ∃ e0, rows = [e0] := by
      match rows, hr with
      | [e0], _ => exact ⟨e0, rfl⟩
    have hlen : (L ++ [e0]).length = n + 1 := by simp [hml]
    have hov := fun hf' B hb => @xMI Tryz.prog 275 Tryz.f275 53 4 58 3 Tryz.func275 (by kernel_rfl) (by kernel_rfl) (by kernel_rfl) (by kernel_rfl) (by kernel_rfl) (by kernel_rfl) (by decide) hf' false [encP p] ⟨0, 0⟩ (n + 1) (i + 1) m B hb
    repeat first|refine sgo ?_|refine o_v (vslo 0 (n + 1) (o := 0) (l := n + 1) (hw' := hlen.symm)) ?_|refine o_v (vslo (i + 1) (n + 1) (o := i + 1) (l := m) (hw' := hlen.symm)) ?_|refine cxt (ht := tpl rfl rfl (Nat.le_of_ble_eq_true rfl)) (hov _ _ rfl rfl rfl rfl hlen.symm) ?_|refine sop ?_
    refine cndt ?_
    have hr3 := insC (y := e0) hA hB (by omega)
    rw [hAB] at hr3
    have hs3 : ((L ++ [e0]).drop i).take (m + 1) = L.drop i ++ [e0] := by
      rw [List.drop_append_of_le_length (by omega), List.take_of_length_le (by rw [List.length_append, hB]; exact Nat.le_refl _)]
    have hlen2 : (L.take i ++ (L.drop i).take 1 ++ L.drop i).length = n + 1 := by rw [List.length_append, List.length_append, hA, List.length_take (l := L.drop i), hB]; omega
    have hr4 := insD (q := encP p) hA hB (by omega)
    have ok3 : okEls 3 (((L ++ [e0]).drop i).take (m + 1)) := by rw [hs3]; exact okEls.app okB (okEls.cons (hrc e0 (by simp)).1 (hrc e0 (by simp)).2 okEls.nil)
    rw [← hs3] at hr3
    repeat first|refine sgo ?_|refine o_v (vslo (i + 1) (n + 1) (o := i + 1) (l := m) (hw' := hlen.symm)) ?_|refine o_v (vslo i (n + 1) (o := i) (l := m + 1) (hw' := hlen.symm)) ?_|refine o_v (vslo i (n + 1) (o := i) (l := m + 1) (hw' := hlen2.symm)) ?_|refine o_v (vcpy _ (((L ++ [e0]).drop i).take (m + 1)) hr3 ok3 (hct := by exact xDQ (els := []) (B := blkV 3 (L ++ [e0])) (off := i) (len := m + 1) rfl rfl hlen.symm hfm1) (hw' := hlen.symm)) ?_|refine o_v (vcpy _ [encP p] hr4 okp (hw' := hlen2.symm)) ?_|refine sop ?_
    exact xAC ⟨.inr rfl, oLO rfl⟩
end Go.Proofs
open Go.V Go.Pu
set_option linter.unusedVariables false
set_option linter.unusedSimpArgs false
set_option maxRecDepth 20000
namespace Go.Proofs
def vc158 := vcm Tryz.prog 158
theorem vf158 : VF Tryz.prog 158 = some (8, vc158, [.tmp 2]) := by kernel_rfl
def vc268 := vcm Tryz.prog 268
theorem vf268 : VF Tryz.prog 268 = some (28, vc268, [.tmp 4]) := by kernel_rfl
def vc287 := vcm Tryz.prog 287
theorem vf287 : VF Tryz.prog 287 = some (9, vc287, [.tmp 4]) := by kernel_rfl
theorem xIz {xs : List PairL} (hl : xs.length ≤ 100000000) : VC Tryz.prog 158 [.sh false (xs.map encP)] [] (ownV ⟨0, 0⟩ (xs.map encP)) [blkV 3 (xs.map encP)] := by
  refine vcs vf158 ?_
  cases xs with
  | nil =>
    refine xOE (t := 0) (ex := false) (tm := xHM 0 [.sh false []]) rfl ?_ ?_
    · repeat first|refine sgo ?_|refine sop ?_
      refine cndt ?_
      repeat first|refine sgo ?_|refine sop ?_
      refine xD7 (Imp.nil (t := 2) (b := ⟨1, 900000⟩) (esz := 3) rfl rfl (by decide)) ?_
      exact xAC ⟨.inr rfl, oOwn rfl⟩
    · repeat first|refine sgo ?_|refine sop ?_
      refine cndf (xAB ?_)
      repeat first|refine sgo ?_|refine o_v (vaps encP [] []) ?_|refine sop ?_
      exact xAC ⟨.inr rfl, oOwn rfl⟩
  | cons x xs =>
    have hl2 : xs.length + 1 ≤ 100000000 := hl
    repeat first|refine sgo ?_|refine sop ?_
    refine cndf (xAB ?_)
    repeat first|refine sgo ?_|refine o_v (vaps encP [] (x :: xs)) ?_|refine sop ?_
    exact xAC ⟨.inr rfl, oOwn rfl⟩
theorem xSA {t : List PairL} (p : PairL) (hs : Srt t) (hl : t.length ≤ 100000000) : VC Tryz.prog 268 [.sh false (t.map encP), .agg (encP p)] [] (ownV ⟨0, 0⟩ ((putL t p).map encP)) [blkV 3 ((putL t p).map encP)] := by
  refine vcs vf268 ?_
  have pl := xKJ (q := .sh false (t.map encP)) p.key hs Sl.sh hl
  have cl := xIz (xs := t) hl
  have hle := xOu p.key t
  have hmt : (t.map encP).length = t.length := List.length_map ..
  have pf := xLP (p := p) hs
  have pn := xQI (p := p) hs
  have hls := xQ0 (k := p.key) hs
  generalize hn : lbN t p.key = n at *
  repeat first|refine sgo ?_|refine cv0 pl ?_|refine cv cl ?_|refine sop ?_
  refine cnd (fun h => ?_) (fun h => xAB ?_)
  · obtain ⟨y, hy, _, _⟩ := hls h
    have hlt : n < t.length := (List.getElem?_eq_some_iff.1 hy).1
    rw [← pf h]
    repeat first|refine sgo ?_|refine o_v (vst encP p) ?_|refine sop ?_
    exact xAC ⟨.inr rfl, oOwn rfl⟩
  · have iv := xOQ t p hmt.symm (by omega : n ≤ (t.map encP).length) (by omega)
    have hp := pn h
    have hi2 : xTR t n p = putL t p := hp
    rw [hi2] at iv
    have hpl : (putL t p).length = t.length + 1 := by rw [← hp]; simp; omega
    repeat first|refine sgo ?_|refine clf (lent := [⟨1, 16392⟩]) (rd := [⟨1, 49176⟩]) iv ?_|refine sop ?_
    exact xAC ⟨.inr rfl, oOwn rfl⟩
theorem xUl {q : PV} {t : List PairL} (p : PairL) (hs : Srt t) (hq : Sl q (t.map encP)) (hl : t.length ≤ 100000000) : VC Tryz.prog 268 [q, .agg (encP p)] [] (ownV ⟨0, 0⟩ ((putL t p).map encP)) [blkV 3 ((putL t p).map encP)] :=
  xCQ (xSA p hs hl) (.cons (PLe.sl hq) (.cons (PLe.refl _) .nil)) (PLe.refl _)
theorem xUm {q : PV} {t : List PairL} (k : Str) (hs : Srt t) (hq : Sl q (t.map encP)) (hl : t.length ≤ 100000000) (hk : k.length ≤ 1000000000) : VC Tryz.prog 287 [q, .str k] [] (ownV ⟨0, 0⟩ ((delT t k).map encP)) [blkV 3 ((delT t k).map encP)] := by
  refine vcs vf287 ?_
  have h1 := xQV k hk
  have h2 := xKo (q := q) (oneL k) hs hq hl
  rw [xOA] at h2
  repeat first|refine sgo ?_|refine cv0 h1 ?_|refine cv h2 ?_|refine sop ?_
  exact xAC ⟨.inr rfl, oOwn rfl⟩
end Go.Proofs
open Go.V Go.Pu
set_option linter.unusedVariables false
set_option linter.unusedSimpArgs false
set_option maxRecDepth 20000
namespace Go.Proofs
def vc308 := vcm Tryz.prog 308
theorem vf308 : VF Tryz.prog 308 = some (36, vc308, [.tmp 6]) := by kernel_rfl
def vc262 := vcm Tryz.prog 262
theorem vf262 : VF Tryz.prog 262 = some (14, vc262, [.tmp 4]) := by kernel_rfl
def vc281 := vcm Tryz.prog 281
theorem vf281 : VF Tryz.prog 281 = some (9, vc281, [.tmp 4]) := by kernel_rfl
def vc292 := vcm Tryz.prog 292
theorem vf292 : VF Tryz.prog 292 = some (9, vc292, [.tmp 4]) := by kernel_rfl
def vc299 := vcm Tryz.prog 299
theorem vf299 : VF Tryz.prog 299 = some (12, vc299, [.tmp 4]) := by kernel_rfl
def vc305 := vcm Tryz.prog 305
theorem vf305 : VF Tryz.prog 305 = some (17, vc305, [.tmp 4]) := by kernel_rfl
def vc316 := vcm Tryz.prog 316
theorem vf316 : VF Tryz.prog 316 = some (30, vc316, [.tmp 4]) := by kernel_rfl
def vc57 := vcm Tryz.prog 57
theorem vf57 : VF Tryz.prog 57 = some (14, vc57, [.tmp 4]) := by kernel_rfl
def vc27 := vcm Tryz.prog 27
theorem vf27 : VF Tryz.prog 27 = some (18, vc27, [.tmp 4]) := by kernel_rfl
def mapN (f : PairL → PairL) (r : List PairL) (i : Nat) : List PairL := (r.take i).map f ++ r.drop i
theorem xKT (f : PairL → PairL) (r : List PairL) (i : Nat) : (mapN f r i).length = r.length := by unfold mapN; simp; omega
theorem xKU {f : PairL → PairL} {r : List PairL} {i : Nat} {p : PairL} (h : r[i]? = some p) : (mapN f r i)[i]? = some p := by
  have hi := (List.getElem?_eq_some_iff.1 h).1
  unfold mapN
  rw [List.getElem?_append_right (by simp; omega)]
  simp only [List.length_map, List.length_take, Nat.min_eq_left (Nat.le_of_lt hi), Nat.sub_self, List.getElem?_drop, Nat.add_zero, h]
theorem xKS {f : PairL → PairL} {r : List PairL} {i : Nat} {p : PairL} (h : r[i]? = some p) : (mapN f r i).set i (f p) = mapN f r (i + 1) := by
  have hi := (List.getElem?_eq_some_iff.1 h).1
  unfold mapN
  rw [xAo h, List.set_append_right _ _ (by simp; omega)]
  have e : i - (List.map f (r.take i)).length = 0 := by simp; omega
  rw [e, List.set_cons_zero, List.take_add_one, h]
  simp
theorem xKV (f : PairL → PairL) (r : List PairL) : mapN f r r.length = r.map f := by unfold mapN; simp
theorem xNK {α : Type} {l : List α} {i : Nat} {x : α} (h : l[i]? = some x) : l.set i x = l := by
  obtain ⟨hi, rfl⟩ := List.getElem?_eq_some_iff.1 h
  exact List.set_getElem_self hi
theorem xDo {g : Nat} {args : List PV} {l : List PairL} (h : VC Tryz.prog g args [] (ownV ⟨0, 0⟩ (l.map encP)) [blkV 3 (l.map encP)]) : VC Tryz.prog g args [] (.sh false (l.map encP)) [] := xEA h (xAZ rfl rfl)
set_option maxHeartbeats 1000000 in
theorem xPT {t : List PairL} (f to : Str) (hs : Srt t) (hl : t.length ≤ 100000000) (hk : ∀ p ∈ t, p.key.length ≤ 100000) (hf : f.length ≤ 100000) (hto : to.length ≤ 100000) : VC Tryz.prog 308 [.sh false (t.map encP), .str f, .str to] [] (ownV ⟨0, 0⟩ ((xBd t f to).map encP)) [blkV 3 ((xBd t f to).map encP)] := by
  refine vcs vf308 ?_
  have hp1 := xCp f (by omega)
  have hr1 := xSe (q := .sh false (t.map encP)) (xAH f) hs Sl.sh (by omega)
  rw [xG3] at hr1
  have hrl : (srcL t f).length ≤ t.length := List.length_filter_le ..
  have hrk : ∀ p ∈ srcL t f, p.key.length ≤ 100000 ∧ xAG p.key f = true := fun p hp => ⟨hk p (List.mem_filter.1 hp).1, xDr hp⟩
  have hfin : xBd t f to = (srcL t f).map (mvP f to) := rfl
  rw [hfin]
  generalize srcL t f = r at *
  have hmr : (r.map encP).length = r.length := List.length_map ..
  have cl := xIz (xs := r) (by omega)
  repeat first|refine sgo ?_|refine cv0 hp1 ?_|refine cf hr1 ?_|refine cv cl ?_|refine sop ?_
  refine xAE (fun (g : Nat × List PairL) => [(1, .str f), (2, .str to), (7, .own ⟨1, 8224⟩ (r.map encP).length 0 (r.map encP).length), (15, .int .i64 (r.map encP).length), (16, .int .i64 g.1)])
    (fun g => [(⟨1, 8224⟩, blkV 3 (g.2.map encP))]) (fun g => r.length - g.1)
    (fun g => g.1 ≤ r.length ∧ g.2 = mapN (mvP f to) r g.1) (0, r) goes ⟨Nat.zero_le _, rfl⟩ ?_
  rintro ⟨i, zs⟩ ⟨hi, hz⟩
  dsimp only at hi hz ⊢
  have hzl : zs.length = r.length := by rw [hz]; exact xKT _ _ _
  have hzm : (zs.map encP).length = r.length := by rw [List.length_map]; exact hzl
  repeat first|refine sgo ?_|refine sop ?_
  refine cnd (fun h => xAB ?_) (fun h => xAD ?_)
  · have hlt : i < r.length := by have h' := of_decide_eq_true h; omega
    obtain ⟨p, hp⟩ : ∃ x, r[i]? = some x := ⟨_, List.getElem?_eq_getElem hlt⟩
    obtain ⟨hpk, hpb⟩ := hrk p (List.mem_of_getElem? hp)
    have hzp : zs[((i : Nat) : Int).toNat]? = some p := by rw [hz]; exact xKU hp
    have hpe : (blkV 3 (zs.map encP)).els[((i : Nat) : Int).toNat]? = some (encP p) := by
      show (zs.map encP)[_]? = _
      rw [List.getElem?_map, hzp]; rfl
    have hset : zs.set ((i : Nat) : Int).toNat (mvP f to p) = mapN (mvP f to) r (i + 1) := by rw [hz]; exact xKS hp
    have hmv := xS0 p.key f to (by omega) (by omega) (by omega)
    unfold xDb at hmv
    rw [if_pos hpb] at hmv
    repeat first|refine sgo ?_|refine cv0 hmv ?_|refine o_v (vstf encP (mvP f to p) hzp) ?_|refine sop ?_
    exact agn (i + 1, _) ⟨by simp only; omega, hset⟩ goes
  · have hge : i = r.length := by have h' := of_decide_eq_false h; omega
    subst hge
    rw [xKV] at hz
    repeat first|refine sgo ?_|refine sop ?_
    exact xAC ⟨.inr rfl, oOwn (congrArg (List.map encP) hz)⟩
theorem xWE {q : PV} {t : List PairL} {m : MsgL} (hs : Srt t) (hq : Sl q (t.map encP)) (hl : t.length ≤ 100000000) : VC Tryz.prog 262 [.agg (encM m), q] [] (.sh false ((putL t ⟨m.key, m.val, m.n⟩).map encP)) [] := by
  have h := xDo (xUl (q := q) ⟨m.key, m.val, m.n⟩ hs hq hl)
  refine vcs vf262 ?_
  repeat first|refine sgo ?_|refine cf h ?_|refine sop ?_
  exact xAC ⟨.inr rfl, oAny rfl⟩
theorem xWH {q : PV} {t : List PairL} {m : MsgL} (hs : Srt t) (hq : Sl q (t.map encP)) (hl : t.length ≤ 100000000) (hm : MsgSz m) : VC Tryz.prog 281 [.agg (encM m), q] [] (.sh false ((delT t m.key).map encP)) [] := by
  have h := xDo (xUm (q := q) m.key hs hq hl (by have := hm.key; omega))
  refine vcs vf281 ?_
  repeat first|refine sgo ?_|refine cf h ?_|refine sop ?_
  exact xAC ⟨.inr rfl, oAny rfl⟩
theorem xTr {q : PV} {t : List PairL} {m : MsgL} (hs : Srt t) (hq : Sl q (t.map encP)) (hl : t.length ≤ 100000000) : VC Tryz.prog 292 [.agg (encM m), q] [] (.sh false ((xAy t m.sp).map encP)) [] := by
  have h := xDo (xKo (q := q) m.sp hs hq hl)
  refine vcs vf292 ?_
  repeat first|refine sgo ?_|refine cf h ?_|refine sop ?_
  exact xAC ⟨.inr rfl, oAny rfl⟩
structure TabOk (N B : Nat) (t : List PairL) : Prop where
  s : Srt t
  l : t.length ≤ N
  k : ∀ p ∈ t, p.key.length ≤ B
theorem TabOk.mono {N B N' B' : Nat} {t : List PairL} (h : TabOk N B t) (hN : N ≤ N') (hB : B ≤ B') : TabOk N' B' t := ⟨h.s, Nat.le_trans h.l hN, fun p hp => Nat.le_trans (h.k p hp) hB⟩
theorem xMF {t : List PairL} {m : MsgL} (ht : TabOk 49000000 100000 t) (hm : MsgLen 2000 m) : VC Tryz.prog 305 [.agg (encM m), .sh false (t.map encP)] [] (.sh false ((xC2 t m).map encP)) [] := by
  have hs := ht.s
  have hl := ht.l
  have hfr := hm.fr
  have hto := hm.to
  have hp1 := xCp m.to (by omega)
  have hd := xDo (xKo (q := .sh false (t.map encP)) (xAH m.to) hs Sl.sh (by omega))
  have hmv := xDo (xPT m.fr m.to hs (by omega) ht.k (by omega) (by omega))
  have hdl : (xAy t (xAH m.to)).length ≤ t.length := List.length_filter_le ..
  have hml : (xBd t m.fr m.to).length ≤ t.length := by unfold xBd; rw [List.length_map]; exact List.length_filter_le ..
  have hu := xDo (xR9 (q := .sh false ((xAy t (xAH m.to)).map encP)) (p := .sh false ((xBd t m.fr m.to).map encP)) Sl.sh Sl.sh (by omega) (by omega))
  refine vcs vf305 ?_
  repeat first|refine sgo ?_|refine cv0 hp1 ?_|refine cf hd ?_|refine cf hmv ?_|refine cf hu ?_|refine sop ?_
  exact xAC ⟨.inr rfl, oAny rfl⟩
theorem xL7 (t : List PairL) (m : MsgL) : (xC2 t m).length ≤ 2 * t.length := by
  have h := xDp (xAy t (xAH m.to)) (xBd t m.fr m.to)
  have hdl : (xAy t (xAH m.to)).length ≤ t.length := List.length_filter_le ..
  have hml : (xBd t m.fr m.to).length ≤ t.length := by unfold xBd; rw [List.length_map]; exact List.length_filter_le ..
  unfold xC2; omega
theorem xTq {t : List PairL} {m : MsgL} (ht : TabOk 49000000 100000 t) (hm : MsgLen 2000 m) : VC Tryz.prog 299 [.agg (encM m), .sh false (t.map encP)] [] (.sh false ((xAy (xC2 t m) (xAH m.fr)).map encP)) [] := by
  have hfr := hm.fr
  have hl := ht.l
  have hc := xMF ht hm
  have hp1 := xCp m.fr (by omega)
  have hcl := xL7 t m
  have hd := xDo (xKo (q := .sh false ((xC2 t m).map encP)) (xAH m.fr) (xGP ht.s m) Sl.sh (by omega))
  refine vcs vf299 ?_
  repeat first|refine sgo ?_|refine cf hc ?_|refine cv0 hp1 ?_|refine cf hd ?_|refine sop ?_
  exact xAC ⟨.inr rfl, oAny rfl⟩
theorem xPC {r : List PairL} {m : MsgL} (hl : r.length ≤ 100000000) : VC Tryz.prog 316 [.agg (encM m), .sh false (r.map encP)] [] (ownV ⟨0, 0⟩ ((r.map (xB2 m)).map encP)) [blkV 3 ((r.map (xB2 m)).map encP)] := by
  refine vcs vf316 ?_
  have hmr : (r.map encP).length = r.length := List.length_map ..
  have cl := xIz (xs := r) (by omega)
  repeat first|refine sgo ?_|refine cv cl ?_|refine sop ?_
  refine xAE (fun (g : Nat × List PairL) => [(2, .ptr ⟨1, 0⟩ 1 0 0), (5, .own ⟨1, 8200⟩ (r.map encP).length 0 (r.map encP).length), (10, .int .i64 (r.map encP).length), (11, .int .i64 g.1)])
    (fun g => [(⟨1, 0⟩, ⟨true, false, 8, [encM m]⟩), (⟨1, 8200⟩, blkV 3 (g.2.map encP))]) (fun g => r.length - g.1)
    (fun g => g.1 ≤ r.length ∧ g.2 = mapN (xB2 m) r g.1) (0, r) goes ⟨Nat.zero_le _, rfl⟩ ?_
  rintro ⟨i, zs⟩ ⟨hi, hz⟩
  dsimp only at hi hz ⊢
  have hzl : zs.length = r.length := by rw [hz]; exact xKT _ _ _
  have hzm : (zs.map encP).length = r.length := by rw [List.length_map]; exact hzl
  repeat first|refine sgo ?_|refine sop ?_
  refine cnd (fun h => xAB ?_) (fun h => xAD ?_)
  · have hlt : i < r.length := by have h' := of_decide_eq_true h; omega
    obtain ⟨p, hp⟩ : ∃ x, r[i]? = some x := ⟨_, List.getElem?_eq_getElem hlt⟩
    have hzp : zs[((i : Nat) : Int).toNat]? = some p := by rw [hz]; exact xKU hp
    have hpe : (blkV 3 (zs.map encP)).els[((i : Nat) : Int).toNat]? = some (encP p) := by
      show (zs.map encP)[_]? = _
      rw [List.getElem?_map, hzp]; rfl
    have hset : zs.set ((i : Nat) : Int).toNat (xB2 m p) = mapN (xB2 m) r (i + 1) := by rw [hz]; exact xKS hp
    repeat first|refine sgo ?_|refine cv0 (has_vc m.sp p.key) ?_|refine sop ?_
    refine cnd (fun h => ?_) (fun h => xAB ?_)
    · have hst : xB2 m p = { p with stamp := m.n } := by unfold xB2; rw [if_pos h]
      rw [hst] at hset
      repeat first|refine sgo ?_|refine o_v (vstf encP ({ p with stamp := m.n } : PairL) hzp) ?_|refine sop ?_
      exact agn (i + 1, _) ⟨by simp only; omega, hset⟩ goes
    · have hst : xB2 m p = p := by unfold xB2; rw [if_neg (by simp [h])]
      rw [hst, xNK hzp] at hset
      repeat first|refine sgo ?_|refine sop ?_
      exact agn (i + 1, zs) ⟨by simp only; omega, hset⟩ goes
  · have hge : i = r.length := by have h' := of_decide_eq_false h; omega
    subst hge
    rw [xKV] at hz
    repeat first|refine sgo ?_|refine sop ?_
    exact xAC ⟨.inr rfl, oOwn (congrArg (List.map encP) hz)⟩
end Go.Proofs
open Go.V Go.Pu
set_option linter.unusedVariables false
set_option linter.unusedSimpArgs false
set_option maxRecDepth 20000
namespace Go.Proofs
theorem xRy {r : List PairL} {m : MsgL} (hl : r.length ≤ 100000000) : VC Tryz.prog 316 [.agg (encM m), .sh false (r.map encP)] [] (.sh false ((r.map (xB2 m)).map encP)) [] := xDo (xPC hl)
theorem MsgLen.mono {a b : Nat} {m : MsgL} (h : MsgLen a m) (hab : a ≤ b) : MsgLen b m := ⟨Nat.le_trans h.key hab, Nat.le_trans h.lo hab, Nat.le_trans h.hi hab, Nat.le_trans h.fr hab, Nat.le_trans h.to hab⟩
theorem xTo {t : List PairL} {m : MsgL} (ht : TabOk 49000000 100000 t) (hk : MsgOk m) (hl : MsgLen 2000 m) : VC Tryz.prog 57 [.sh false (t.map encP), .agg (encM m)] [] (.sh false ((xAu t m).map encP)) [] := by
  have hz := MsgSz.of hk hl
  have hs := ht.s
  have hn := ht.l
  have ho := xVO hk.k
  have a1 := xWE (q := .sh false (t.map encP)) (m := m) hs Sl.sh (by omega)
  have a2 := xWH (q := .sh false (t.map encP)) (m := m) hs Sl.sh (by omega) hz
  have a3 := xTr (q := .sh false (t.map encP)) (m := m) hs Sl.sh (by omega)
  have a4 := xTq (m := m) ht hl
  have a5 := xMF (m := m) ht hl
  have a6 := xRy (r := t) (m := m) (by omega)
  have hk := hk.k
  clear hz hl
  obtain ⟨k, m2, m3, m4, m5, m6, m7⟩ := m
  simp only at hk
  rcases six hk with rfl | rfl | rfl | rfl | rfl | rfl
  · refine vcs vf57 ?_
    repeat first|refine sgo ?_|refine cf ho ?_|refine o_v0 visn ?_|refine sop ?_
    refine cndt ?_
    repeat first|refine sgo ?_|refine cf a1 ?_|refine sop ?_
    exact xAC ⟨.inr rfl, oAny rfl⟩
  · refine vcs vf57 ?_
    repeat first|refine sgo ?_|refine cf ho ?_|refine o_v0 visn ?_|refine sop ?_
    refine cndt ?_
    repeat first|refine sgo ?_|refine cf a2 ?_|refine sop ?_
    exact xAC ⟨.inr rfl, oAny rfl⟩
  · refine vcs vf57 ?_
    repeat first|refine sgo ?_|refine cf ho ?_|refine o_v0 visn ?_|refine sop ?_
    refine cndt ?_
    repeat first|refine sgo ?_|refine cf a3 ?_|refine sop ?_
    exact xAC ⟨.inr rfl, oAny rfl⟩
  · refine vcs vf57 ?_
    repeat first|refine sgo ?_|refine cf ho ?_|refine o_v0 visn ?_|refine sop ?_
    refine cndt ?_
    repeat first|refine sgo ?_|refine cf a4 ?_|refine sop ?_
    exact xAC ⟨.inr rfl, oAny rfl⟩
  · refine vcs vf57 ?_
    repeat first|refine sgo ?_|refine cf ho ?_|refine o_v0 visn ?_|refine sop ?_
    refine cndt ?_
    repeat first|refine sgo ?_|refine cf a5 ?_|refine sop ?_
    exact xAC ⟨.inr rfl, oAny rfl⟩
  · refine vcs vf57 ?_
    repeat first|refine sgo ?_|refine cf ho ?_|refine o_v0 visn ?_|refine sop ?_
    refine cndt ?_
    repeat first|refine sgo ?_|refine cf a6 ?_|refine sop ?_
    exact xAC ⟨.inr rfl, oAny rfl⟩
theorem all_vc {l : List MsgL} {t : List PairL} (ht : ∀ i, i ≤ l.length → TabOk 49000000 100000 (allT t (l.take i))) (hn : l.length ≤ 100000000) (ho : ∀ m ∈ l, MsgOk m) (hm : ∀ m ∈ l, MsgLen 2000 m) : VC Tryz.prog 27 [.sh false (t.map encP), .sh false (l.map encM)] [] (.sh false ((allT t l).map encP)) [] := by
  have hml : (l.map encM).length = l.length := List.length_map _
  refine vcs vf27 ?_
  repeat first|refine sgo ?_|refine sop ?_
  refine xAE (fun (g : Nat) => [(0, .sh false ((allT t (l.take g)).map encP)), (7, .sh false (l.map encM)), (8, .int .i64 (l.map encM).length), (9, .int .i64 g)]) (fun _ => []) (fun g => l.length - g)
    (fun g => g ≤ l.length) 0 xAi (Nat.zero_le _) ?_
  intro i hi
  repeat first|refine sgo ?_|refine sop ?_
  refine cnd (fun h => xAB ?_) (fun h => xAD ?_)
  · have hlt : i < l.length := by have h' := of_decide_eq_true h; omega
    obtain ⟨m, hx⟩ : ∃ m, l[i]? = some m := ⟨_, List.getElem?_eq_getElem hlt⟩
    have hxe := gm (enc := encM) (n := (i : Int)) hx (by omega)
    have hmem := List.mem_of_getElem? hx
    have hap := xTo (ht i hi) (ho m hmem) (hm m hmem)
    have hst : xAu (allT t (l.take i)) m = allT t (l.take (i + 1)) := by
      rw [List.take_add_one, hx, Option.toList_some, xES]; rfl
    rw [hst] at hap
    generalize allT t (l.take i) = c at hap
    repeat first|refine sgo ?_|refine cf hap ?_|refine sop ?_
    exact agn (Q := fun _ _ => True) (i + 1) (by omega) xAi
  · have hge : i = l.length := by have h' := of_decide_eq_false h; omega
    subst hge
    rw [List.take_length]
    repeat first|refine sgo ?_|refine sop ?_
    exact xAC ⟨.inr rfl, oAny rfl⟩
end Go.Proofs
