/- Th -/
import Derived.Test.YtjjkeakejclknaaTg
import Derived.Test.YtjjkeakejclknaaVE
import Derived.Test.YtjjkeakejclknaaPu
open Go.V Go.Pu
set_option linter.unusedVariables false
set_option linter.unusedSimpArgs false
set_option maxRecDepth 20000
namespace Go.Proofs
/-- slices.Insert[[]downspout/api.Pair,downspout/api.Pair] -/
def vc39 : VCode :=
 (.seq
 (.region 0 false [
 ⟨(some 6), .copy (.c .nils), none, 0, []⟩])
 (.seq
 (.region 1 false [
 ⟨(some 10), .copy (.t 0), none, 8192, []⟩,
 ⟨(some 11), .copy (.t 1), none, 8200, []⟩,
 ⟨(some 12), .slsl 3 (.t 10) (some (.t 11)) none none, none, 8208, [0, 1]⟩])
 (.seq
 (.region 2 false [
 ⟨(some 13), .copy (.t 2), none, 16384, []⟩,
 ⟨(some 14), .len (.t 13), none, 16392, [0]⟩,
 ⟨(some 7), .copy (.t 14), none, 16400, [1, 0]⟩])
 (.seq
 (.seq
 (.region 3 false [
 ⟨(some 15), .copy (.t 7), none, 24576, []⟩,
 ⟨(some 16), .bin .eql (.t 15) (.c (.int .i64 0)), none, 24584, [0]⟩])
 (.cond (.t 16)
 (.seq
 (.region 4 false [
 ⟨(some 17), .copy (.t 0), none, 32768, []⟩,
 ⟨(some 6), .copy (.t 17), none, 32776, [0]⟩])
 .ret)
 .skip))
 (.seq
 (.region 5 false [
 ⟨(some 18), .copy (.t 0), none, 40960, []⟩,
 ⟨(some 19), .len (.t 18), none, 40968, [0]⟩,
 ⟨(some 8), .copy (.t 19), none, 40976, [1, 0]⟩])
 (.seq
 (.seq
 (.region 6 false [
 ⟨(some 20), .copy (.t 1), none, 49152, []⟩,
 ⟨(some 21), .copy (.t 8), none, 49160, []⟩,
 ⟨(some 22), .bin .eql (.t 20) (.t 21), none, 49168, [0, 1]⟩])
 (.cond (.t 22)
 (.seq
 (.region 7 false [
 ⟨(some 23), .copy (.t 0), none, 57344, []⟩,
 ⟨(some 24), .copy (.t 2), none, 57352, []⟩,
 ⟨(some 25), .append 3 40 [(.str []), (.str []), (.int .i64 0)] (.t 23) (.t 24), none, 57360, [0, 1]⟩,
 ⟨(some 6), .copy (.t 25), none, 57368, [2, 0, 1]⟩])
 .ret)
 .skip))
 (.seq
 (.seq
 (.region 8 false [
 ⟨(some 26), .copy (.t 8), none, 65536, []⟩,
 ⟨(some 27), .copy (.t 7), none, 65544, []⟩,
 ⟨(some 28), .bin .add (.t 26) (.t 27), none, 65552, [0, 1]⟩,
 ⟨(some 29), .copy (.t 0), none, 65560, []⟩,
 ⟨(some 30), .cap (.t 29), none, 65568, [3]⟩,
 ⟨(some 31), .bin .gtr (.t 28) (.t 30), none, 65576, [2, 0, 1, 4, 3]⟩])
 (.cond (.t 31)
 (.seq
 (.region 9 false [
 ⟨(some 32), .copy (.t 0), none, 73728, []⟩,
 ⟨(some 33), .copy (.t 1), none, 73736, []⟩,
 ⟨(some 34), .slsl 3 (.t 32) none (some (.t 33)) none, none, 73744, [0, 1]⟩,
 ⟨(some 35), .copy (.t 8), none, 73752, []⟩,
 ⟨(some 36), .copy (.t 7), none, 73760, []⟩,
 ⟨(some 37), .bin .add (.t 35) (.t 36), none, 73768, [3, 4]⟩,
 ⟨(some 38), .copy (.t 1), none, 73776, []⟩,
 ⟨(some 39), .bin .sub (.t 37) (.t 38), none, 73784, [5, 3, 4, 6]⟩,
 ⟨(some 40), .appZ 3 40 [(.str []), (.str []), (.int .i64 0)] (.t 34) (.t 39), none, 73792, [2, 0, 1, 7, 5, 3, 4, 6]⟩,
 ⟨(some 9), .copy (.t 40), none, 73800, [8, 2, 0, 1, 7, 5, 3, 4, 6]⟩])
 (.seq
 (.region 10 false [
 ⟨(some 41), .copy (.t 9), none, 81920, []⟩,
 ⟨(some 42), .copy (.t 1), none, 81928, []⟩,
 ⟨(some 43), .slsl 3 (.t 41) (some (.t 42)) none none, none, 81936, [0, 1]⟩,
 ⟨(some 44), .copy (.t 2), none, 81944, []⟩,
 ⟨(some 45), .copyS 3 (.t 43) (.t 44), none, 81952, [2, 0, 1, 3]⟩])
 (.seq
 (.region 11 true [
 ⟨(some 46), .copy (.t 9), none, 90112, []⟩,
 ⟨(some 47), .copy (.t 1), none, 90120, []⟩,
 ⟨(some 48), .copy (.t 7), none, 90128, []⟩,
 ⟨(some 49), .bin .add (.t 47) (.t 48), none, 90136, [1, 2]⟩,
 ⟨(some 50), .slsl 3 (.t 46) (some (.t 49)) none none, none, 90144, [0, 3, 1, 2]⟩,
 ⟨(some 51), .copy (.t 0), none, 90152, []⟩,
 ⟨(some 52), .copy (.t 1), none, 90160, []⟩,
 ⟨(some 53), .slsl 3 (.t 51) (some (.t 52)) none none, none, 90168, [5, 6]⟩,
 ⟨(some 54), .copyS 3 (.t 50) (.t 53), none, 90176, [4, 0, 3, 1, 2, 7, 5, 6]⟩])
 (.seq
 (.region 12 false [
 ⟨(some 55), .copy (.t 9), none, 98304, []⟩,
 ⟨(some 6), .copy (.t 55), none, 98312, [0]⟩])
 .ret))))
 .skip))
 (.seq
 (.region 13 false [
 ⟨(some 56), .copy (.t 0), none, 106496, []⟩,
 ⟨(some 57), .copy (.t 8), none, 106504, []⟩,
 ⟨(some 58), .copy (.t 7), none, 106512, []⟩,
 ⟨(some 59), .bin .add (.t 57) (.t 58), none, 106520, [1, 2]⟩,
 ⟨(some 60), .slsl 3 (.t 56) none (some (.t 59)) none, none, 106528, [0, 3, 1, 2]⟩,
 ⟨(some 0), .copy (.t 60), none, 106536, [4, 0, 3, 1, 2]⟩])
 (.seq
 (.seq
 (.region 14 false [
 ⟨(some 61), .copy (.t 2), none, 114688, []⟩,
 ⟨(some 62), .copy (.t 0), none, 114696, []⟩,
 ⟨(some 63), .copy (.t 1), none, 114704, []⟩,
 ⟨(some 64), .copy (.t 7), none, 114712, []⟩,
 ⟨(some 65), .bin .add (.t 63) (.t 64), none, 114720, [2, 3]⟩,
 ⟨(some 66), .slsl 3 (.t 62) (some (.t 65)) none none, none, 114728, [1, 4, 2, 3]⟩,
 ⟨(some 67), .call (.c (.fn 47 [])) [(.t 61), (.t 66)], none, 114736, [0, 5, 1, 4, 2, 3]⟩,
 ⟨(some 68), .not (.t 67), none, 114744, [6, 0, 5, 1, 4, 2, 3]⟩])
 (.cond (.t 68)
 (.seq
 (.region 15 true [
 ⟨(some 69), .copy (.t 0), none, 122880, []⟩,
 ⟨(some 70), .copy (.t 1), none, 122888, []⟩,
 ⟨(some 71), .copy (.t 7), none, 122896, []⟩,
 ⟨(some 72), .bin .add (.t 70) (.t 71), none, 122904, [1, 2]⟩,
 ⟨(some 73), .slsl 3 (.t 69) (some (.t 72)) none none, none, 122912, [0, 3, 1, 2]⟩,
 ⟨(some 74), .copy (.t 0), none, 122920, []⟩,
 ⟨(some 75), .copy (.t 1), none, 122928, []⟩,
 ⟨(some 76), .slsl 3 (.t 74) (some (.t 75)) none none, none, 122936, [5, 6]⟩,
 ⟨(some 77), .copyS 3 (.t 73) (.t 76), none, 122944, [4, 0, 3, 1, 2, 7, 5, 6]⟩])
 (.seq
 (.region 16 false [
 ⟨(some 78), .copy (.t 0), none, 131072, []⟩,
 ⟨(some 79), .copy (.t 1), none, 131080, []⟩,
 ⟨(some 80), .slsl 3 (.t 78) (some (.t 79)) none none, none, 131088, [0, 1]⟩,
 ⟨(some 81), .copy (.t 2), none, 131096, []⟩,
 ⟨(some 82), .copyS 3 (.t 80) (.t 81), none, 131104, [2, 0, 1, 3]⟩])
 (.seq
 (.region 17 false [
 ⟨(some 83), .copy (.t 0), none, 139264, []⟩,
 ⟨(some 6), .copy (.t 83), none, 139272, [0]⟩])
 .ret)))
 .skip))
 (.seq
 (.region 18 false [
 ⟨(some 84), .copy (.t 0), none, 147456, []⟩,
 ⟨(some 85), .copy (.t 8), none, 147464, []⟩,
 ⟨(some 86), .slsl 3 (.t 84) (some (.t 85)) none none, none, 147472, [0, 1]⟩,
 ⟨(some 87), .copy (.t 2), none, 147480, []⟩,
 ⟨(some 88), .copyS 3 (.t 86) (.t 87), none, 147488, [2, 0, 1, 3]⟩])
 (.seq
 (.region 19 false [
 ⟨(some 89), .copy (.t 0), none, 155648, []⟩,
 ⟨(some 90), .copy (.t 1), none, 155656, []⟩,
 ⟨(some 91), .slsl 3 (.t 89) (some (.t 90)) none none, none, 155664, [0, 1]⟩,
 ⟨(some 92), .copy (.t 7), none, 155672, []⟩,
 ⟨(some 93), .call (.c (.fn 48 [])) [(.t 91), (.t 92)], none, 155680, [2, 0, 1, 3]⟩])
 (.seq
 (.region 20 false [
 ⟨(some 94), .copy (.t 0), none, 163840, []⟩,
 ⟨(some 6), .copy (.t 94), none, 163848, [0]⟩])
 .ret))))))))))))
theorem vf39 : VF Try.prog 39 = some (95, vc39, [.tmp 6]) := by kernel_rfl
/-! Insert -/
theorem insA {α : Type} {A : List α} {q z : α} {i m : Nat} (hA : A.length = i) : (A ++ List.replicate (m + 1) z).take i ++ [q].take (m + 1) ++ (A ++ List.replicate (m + 1) z).drop (i + min [q].length (m + 1)) = A ++ q :: List.replicate m z := by
  subst hA
  have e : min [q].length (m + 1) = 1 := by simp
  rw [e, List.take_left', List.drop_append, List.drop_of_length_le (by omega)]
  · simp
  · rfl
theorem insB {α : Type} {A B C : List α} {q : α} {i m : Nat} (hA : A.length = i) (hB : B.length = m) (hC : C.length = m) : (A ++ q :: C).take (i + 1) ++ B.take m ++ (A ++ q :: C).drop (i + 1 + min B.length m) = A ++ q :: B := by
  subst hA; subst hB
  rw [Nat.min_self, List.take_length, List.take_append, List.take_of_length_le (l := A) (by omega), List.drop_append, List.drop_of_length_le (l := A) (by omega)]
  have e : A.length + 1 - A.length = 1 := by omega
  have e2 : A.length + 1 + B.length - A.length = B.length + 1 := by omega
  rw [e, e2]
  simp [hC]
theorem insC {α : Type} {A B : List α} {y : α} {i m : Nat} (hA : A.length = i) (hB : B.length = m) (hm : 0 < m) : (A ++ B ++ [y]).take (i + 1) ++ (B ++ [y]).take m ++ (A ++ B ++ [y]).drop (i + 1 + min (B ++ [y]).length m) = A ++ B.take 1 ++ B := by
  subst hA; subst hB
  have e3 : min (B ++ [y]).length B.length = B.length := by simp
  rw [e3, List.append_assoc A B [y], List.take_append (l₁ := A), List.take_of_length_le (l := A) (by omega), List.drop_append, List.drop_of_length_le (l := A) (by omega)]
  have e : A.length + 1 - A.length = 1 := by omega
  have e2 : A.length + 1 + B.length - A.length = B.length + 1 := by omega
  rw [e, e2, List.take_left' rfl, List.drop_of_length_le (by simp), List.take_append_of_le_length (by omega)]
  simp
theorem insD {α : Type} {A B : List α} {q : α} {i m : Nat} (hA : A.length = i) (hB : B.length = m) (hm : 0 < m) : (A ++ B.take 1 ++ B).take i ++ [q].take (m + 1) ++ (A ++ B.take 1 ++ B).drop (i + min [q].length (m + 1)) = A ++ q :: B := by
  subst hA; subst hB
  have e : min [q].length (B.length + 1) = 1 := by simp
  rw [e, List.append_assoc A (B.take 1) B, List.take_left' rfl, List.drop_append (l₁ := A), List.drop_of_length_le (l := A) (by omega)]
  have e : A.length + 1 - A.length = 1 := by omega
  rw [e]
  cases B with
  | nil => simp at hm
  | cons b B => simp
def insAt (xs : List PairL) (i : Nat) (p : PairL) : List PairL := xs.take i ++ p :: xs.drop i
theorem encP_len (p : PairL) : (encP p).length = 3 := rfl
set_option maxHeartbeats 1000000 in
theorem insert_vc {n i : Nat} (xs : List PairL) (p : PairL) (hn : xs.length = n) (hi : i ≤ n) (hm : n ≤ 1000000) :
    VC Try.prog 39 [.own ⟨0, 0⟩ n 0 n, .int .i64 i, .sh false [encP p]] [blkV 3 (xs.map encP)] (.own ⟨0, 0⟩ (n + 1) 0 (n + 1)) [blkV 3 ((insAt xs i p).map encP)] := by
  refine vc_of vf39 ?_ (Nat.le_of_ble_eq_true rfl) (by intro vs h; cases h)
  have hml : (xs.map encP).length = n := by rw [List.length_map, hn]
  have hins : (insAt xs i p).map encP = (xs.map encP).take i ++ encP p :: (xs.map encP).drop i := by simp [insAt, List.map_take, List.map_drop]
  have okp : okEls 3 [encP p] := okEls.map (xs := [p]) (fun a => by simp [closed])
  have okx : okEls 3 (xs.map encP) := okEls.map (fun a => by simp [closed])
  rw [hins]
  clear hins
  repeat first | refine o_copy ?_ | refine nl ?_ | refine ct_seq ?_ | refine rg ?_ | refine ct_block ?_ | refine bq ?_ | refine o_v0 (v := .int .i64 1) rfl ?_ | refine o_v (vslo i n (hw' := hml.symm)) ?_ | refine o_add ?_ | refine o_sub ?_ | refine o_cat ?_ | refine o_bin ?_ | refine o_lenq ?_ | refine o_len ?_ | refine o_not ?_
  refine cndf (ct_skip ?_)
  repeat first | refine o_copy ?_ | refine nl ?_ | refine ct_seq ?_ | refine rg ?_ | refine ct_block ?_ | refine bq ?_ | refine o_add ?_ | refine o_sub ?_ | refine o_cat ?_ | refine o_bin ?_ | refine o_lenq ?_ | refine o_len ?_ | refine o_not ?_
  refine cnd (fun h => ?_) (fun h => ct_skip ?_)
  · have hin : i = n := by have h' := of_decide_eq_true h; omega
    subst hin
    repeat first | refine o_copy ?_ | refine nl ?_ | refine ct_seq ?_ | refine rg ?_ | refine ct_block ?_ | refine bq ?_ | refine o_v (vaps encP xs [p] (hnn := hml.symm)) ?_ | refine o_add ?_ | refine o_sub ?_ | refine o_cat ?_ | refine o_bin ?_ | refine o_lenq ?_ | refine o_len ?_ | refine o_not ?_
    refine ct_ret ⟨.inr rfl, oLO ?_ ?_⟩
    · rw [List.take_of_length_le (by omega), List.drop_of_length_le (by omega), List.map_append]; rfl
    · exact congrArg (fun k => some (PV.own ⟨0, 0⟩ k 0 k)) (by simp [hn])
  have hin : i < n := by have h' := of_decide_eq_false h; omega
  have hle : ∀ e ∈ xs.map encP, e.length = 3 := fun e he => (okx e he).1
  have hcl : ∀ e ∈ xs.map encP, ∀ c ∈ e, closed c = true := fun e he => (okx e he).2
  generalize xs.map encP = L at *
  obtain ⟨m, hm0⟩ : ∃ m, n = i + m := ⟨n - i, by omega⟩
  have hA : (L.take i).length = i := by rw [List.length_take]; omega
  have hB : (L.drop i).length = m := by rw [List.length_drop]; omega
  have hfm : i + m ≤ n := by omega
  have hfm1 : i + (m + 1) ≤ n + 1 := by omega
  have hAB : L.take i ++ L.drop i = L := List.take_append_drop i L
  have okB : okEls 3 (L.drop i) := fun e he => okx e (List.mem_of_mem_drop he)
  refine ct_seq (ct_ch (ch_seqreg ?_))
  refine sh_v rfl (sh_v rfl (sh_v (v_add rfl rfl (wrap64 (by omega) (by omega))) (sh_v rfl (sh_cap rfl (by decide) (fun ad c hc => ?_) ⟨_, rfl, hml.symm⟩))))
  refine sh_v rfl (sh_nil ?_)
  refine ch_cond (fun h2 => ?_) (fun h2 => ?_)
  · have hbig : c < n + 1 := by have h' := of_decide_eq_true h2; omega
    have e1 : i + (m + 1) = n + 1 := by omega
    refine ch_seqreg ?_
    refine sh_v rfl (sh_v rfl (sh_v (vslo 0 i (hw' := hml.symm)) (sh_v rfl (sh_v rfl (sh_v (v_add rfl rfl (wrap64 (by omega) (by omega))) (sh_v rfl (sh_v (v_sub rfl rfl (wrap64 (by omega) (by omega))) ?_)))))))
    refine sh_appz (n := m + 1) (len2 := i) ?_ (by omega) (hq := congrArg (fun z => some (PV.int .i64 z)) (show ((n : Int) + 1) - (i : Int) = ((m + 1 : Nat) : Int) by omega)) (hwB := hml.symm) (hlen := hle) (hcl := hcl)
    rw [e1]
    refine sh_v rfl (sh_nil (ch_ct ?_))
    have hlen : (L.take i ++ List.replicate (m + 1) (encP zP)).length = n + 1 := by rw [List.length_append, List.length_replicate, hA]; omega
    have hr1 := insA (q := encP p) (z := encP zP) (m := m) hA
    have hlen2 : (L.take i ++ encP p :: List.replicate m (encP zP)).length = n + 1 := by rw [List.length_append, List.length_cons, List.length_replicate, hA]; omega
    have hr2 := insB (q := encP p) hA hB (List.length_replicate (n := m) (a := encP zP))
    have hlen3 : (L.take i ++ encP p :: L.drop i).length = n + 1 := by rw [List.length_append, List.length_cons, hA, hB]; omega
    have hsrc : (L.drop i).take m = L.drop i := List.take_of_length_le (by omega)
    repeat first | refine o_copy ?_ | refine nl ?_ | refine ct_seq ?_ | refine rg ?_ | refine ct_block ?_ | refine bq ?_ | refine o_v (vslo i (n + 1) (o := i) (l := m + 1) (hw' := hlen.symm)) ?_ | refine o_v (vcpy _ [encP p] hr1 okp (hw' := hlen.symm)) ?_ | refine o_add ?_ | refine o_sub ?_ | refine o_cat ?_ | refine o_bin ?_ | refine o_lenq ?_ | refine o_len ?_ | refine o_not ?_
    have okB' : okEls 3 ((L.drop i).take m) := by rw [hsrc]; exact okB
    have hr2' : (L.take i ++ encP p :: List.replicate m (encP zP)).take (i + 1) ++ ((L.drop i).take m).take m ++ (L.take i ++ encP p :: List.replicate m (encP zP)).drop (i + 1 + min ((L.drop i).take m).length m) = L.take i ++ encP p :: L.drop i := by rw [hsrc]; exact hr2
    repeat first | refine o_copy ?_ | refine nl ?_ | refine ct_seq ?_ | refine rg ?_ | refine ct_block ?_ | refine bq ?_ | refine o_v (vslo (i + 1) (n + 1) (o := i + 1) (l := m) (hw' := hlen2.symm)) ?_ | refine o_v (vslo i n (o := i) (l := m) (hw' := hml.symm)) ?_ | refine o_v (vcpy _ ((L.drop i).take m) hr2' okB' (hct := by exact content_own (els := []) (B := blkV 3 L) (off := i) (len := m) rfl rfl hml.symm hfm) (hw' := hlen2.symm)) ?_ | refine o_add ?_ | refine o_sub ?_ | refine o_cat ?_ | refine o_bin ?_ | refine o_lenq ?_ | refine o_len ?_ | refine o_not ?_
    refine ct_imp (Imp.onto 6 (n + 1) ⟨0, 0⟩ ⟨1, 73792⟩ (els0 := L) (els1 := L.take i ++ encP p :: L.drop i) (by omega) hlen3.symm) ?_
    exact ct_ret ⟨.inr rfl, oLO rfl⟩
  · have hsm : n + 1 ≤ c := by have h' := of_decide_eq_false h2; omega
    refine ch_reveal (t0 := 0) (m := 1) hml (fun rows hr hrc => ct_skip ?_) hsm
    obtain ⟨e0, rfl⟩ : ∃ e0, rows = [e0] := by
      match rows, hr with
      | [e0], _ => exact ⟨e0, rfl⟩
    have hlen : (L ++ [e0]).length = n + 1 := by simp [hml]
    have hov := fun hf' B hb => @xc_overlaps Try.prog 47 Try.f47 26 4 30 3 Try.func47 (by kernel_rfl) (by kernel_rfl) (by kernel_rfl) (by kernel_rfl) (by kernel_rfl) (by kernel_rfl) (by decide) hf' false [encP p] ⟨0, 0⟩ (n + 1) (i + 1) m B hb
    repeat first | refine o_copy ?_ | refine nl ?_ | refine ct_seq ?_ | refine rg ?_ | refine ct_block ?_ | refine bq ?_ | refine o_v (vslo 0 (n + 1) (o := 0) (l := n + 1) (hw' := hlen.symm)) ?_ | refine o_v (vslo (i + 1) (n + 1) (o := i + 1) (l := m) (hw' := hlen.symm)) ?_ | refine cxt (hov _ _ rfl rfl rfl rfl hlen.symm) ?_ | refine o_add ?_ | refine o_sub ?_ | refine o_cat ?_ | refine o_bin ?_ | refine o_lenq ?_ | refine o_len ?_ | refine o_not ?_
    refine cndt ?_
    have hr3 := insC (y := e0) hA hB (by omega)
    rw [hAB] at hr3
    have hs3 : ((L ++ [e0]).drop i).take (m + 1) = L.drop i ++ [e0] := by
      rw [List.drop_append_of_le_length (by omega), List.take_of_length_le (by rw [List.length_append, hB]; exact Nat.le_refl _)]
    have hlen2 : (L.take i ++ (L.drop i).take 1 ++ L.drop i).length = n + 1 := by rw [List.length_append, List.length_append, hA, List.length_take (l := L.drop i), hB]; omega
    have hr4 := insD (q := encP p) hA hB (by omega)
    have ok3 : okEls 3 (((L ++ [e0]).drop i).take (m + 1)) := by rw [hs3]; exact okEls.app okB (okEls.cons (hrc e0 (by simp)).1 (hrc e0 (by simp)).2 okEls.nil)
    rw [← hs3] at hr3
    repeat first | refine o_copy ?_ | refine nl ?_ | refine ct_seq ?_ | refine rg ?_ | refine ct_block ?_ | refine bq ?_ | refine o_v (vslo (i + 1) (n + 1) (o := i + 1) (l := m) (hw' := hlen.symm)) ?_ | refine o_v (vslo i (n + 1) (o := i) (l := m + 1) (hw' := hlen.symm)) ?_ | refine o_v (vslo i (n + 1) (o := i) (l := m + 1) (hw' := hlen2.symm)) ?_ | refine o_v (vcpy _ (((L ++ [e0]).drop i).take (m + 1)) hr3 ok3 (hct := by exact content_own (els := []) (B := blkV 3 (L ++ [e0])) (off := i) (len := m + 1) rfl rfl hlen.symm hfm1) (hw' := hlen.symm)) ?_ | refine o_v (vcpy _ [encP p] hr4 okp (hw' := hlen2.symm)) ?_ | refine o_add ?_ | refine o_sub ?_ | refine o_cat ?_ | refine o_bin ?_ | refine o_lenq ?_ | refine o_len ?_ | refine o_not ?_
    exact ct_ret ⟨.inr rfl, oLO rfl⟩
end Go.Proofs
open Go.V Go.Pu
set_option linter.unusedVariables false
set_option linter.unusedSimpArgs false
set_option maxRecDepth 20000
namespace Go.Proofs
/-- slices.Clone[[]downspout/api.Pair,downspout/api.Pair] -/
def vc38 : VCode :=
 (.seq
 (.region 0 false [
 ⟨(some 2), .copy (.c .nils), none, 0, []⟩])
 (.seq
 (.seq
 (.region 1 false [
 ⟨(some 3), .copy (.t 0), none, 8192, []⟩,
 ⟨(some 4), .isnil false (.t 3), none, 8200, [0]⟩])
 (.cond (.t 4)
 (.seq
 (.region 2 false [
 ⟨(some 2), .copy (.c .nils), none, 16384, []⟩])
 .ret)
 .skip))
 (.seq
 (.region 3 false [
 ⟨(some 5), .bslice 3 [(.str []), (.str []), (.int .i64 0)] 0 [], none, 24576, []⟩,
 ⟨(some 6), .copy (.t 0), none, 24584, []⟩,
 ⟨(some 7), .append 3 40 [(.str []), (.str []), (.int .i64 0)] (.t 5) (.t 6), none, 24592, [0, 1]⟩,
 ⟨(some 2), .copy (.t 7), none, 24600, [2, 0, 1]⟩])
 .ret)))
theorem vf38 : VF Try.prog 38 = some (8, vc38, [.tmp 2]) := by kernel_rfl
/-- downspout/table.Put -/
def vc22 : VCode :=
 (.seq
 (.region 0 false [
 ⟨(some 3), .box (.t 1), none, 0, []⟩,
 ⟨(some 4), .copy (.c .nils), none, 8, []⟩])
 (.seq
 (.region 1 false [
 ⟨(some 9), .copy (.t 0), none, 8192, []⟩,
 ⟨(some 10), .faddr 0 (.t 3), none, 8200, []⟩,
 ⟨(some 11), .load false 1 (.t 10), none, 8208, [1]⟩,
 ⟨(some 12), .call (.c (.fn 35 [])) [(.t 9), (.t 11)], none, 8216, [0, 2, 1]⟩,
 ⟨(some 8), .copy (.t 12), none, 8224, [3, 0, 2, 1]⟩,
 ⟨(some 13), .extract (.t 8) 0, none, 8232, [4, 3, 0, 2, 1]⟩,
 ⟨(some 14), .extract (.t 8) 1, none, 8240, [4, 3, 0, 2, 1]⟩,
 ⟨(some 5), .copy (.t 13), none, 8248, [5, 4, 3, 0, 2, 1]⟩,
 ⟨(some 6), .copy (.t 14), none, 8256, [6, 4, 3, 0, 2, 1, 7, 5]⟩])
 (.seq
 (.region 2 false [
 ⟨(some 15), .copy (.t 0), none, 16384, []⟩,
 ⟨(some 16), .call (.c (.fn 38 [])) [(.t 15)], none, 16392, [0]⟩,
 ⟨(some 7), .copy (.t 16), none, 16400, [1, 0]⟩])
 (.seq
 (.seq
 (.region 3 false [
 ⟨(some 17), .copy (.t 6), none, 24576, []⟩])
 (.cond (.t 17)
 (.seq
 (.region 4 false [
 ⟨(some 18), .copy (.t 7), none, 32768, []⟩,
 ⟨(some 19), .copy (.t 5), none, 32776, []⟩,
 ⟨(some 20), .load true 3 (.t 3), none, 32784, []⟩,
 ⟨(some 21), .iaddr 3 (.t 18) (.t 19), none, 32792, [0, 1, 2]⟩,
 ⟨none, .store 3 (.t 21) (.t 20), none, 32800, [3, 0, 1, 2]⟩])
 (.seq
 (.region 5 false [
 ⟨(some 22), .copy (.t 7), none, 40960, []⟩,
 ⟨(some 4), .copy (.t 22), none, 40968, [0]⟩])
 .ret))
 .skip))
 (.seq
 (.region 6 false [
 ⟨(some 23), .copy (.t 7), none, 49152, []⟩,
 ⟨(some 24), .copy (.t 5), none, 49160, []⟩,
 ⟨(some 25), .load true 3 (.t 3), none, 49168, []⟩,
 ⟨(some 26), .bslice 3 [(.str []), (.str []), (.int .i64 0)] 1 [(0, (.t 25))], none, 49176, [2]⟩,
 ⟨(some 27), .call (.c (.fn 39 [])) [(.t 23), (.t 24), (.t 26)], none, 49184, [0, 1, 3, 2]⟩,
 ⟨(some 4), .copy (.t 27), none, 49192, [4, 0, 1, 3, 2]⟩])
 .ret)))))
theorem vf22 : VF Try.prog 22 = some (28, vc22, [.tmp 4]) := by kernel_rfl
/-- downspout/table.Del -/
def vc23 : VCode :=
 (.seq
 (.region 0 false [
 ⟨(some 4), .copy (.c .nils), none, 0, []⟩])
 (.seq
 (.region 1 false [
 ⟨(some 5), .copy (.t 0), none, 8192, []⟩,
 ⟨(some 6), .copy (.t 1), none, 8200, []⟩,
 ⟨(some 7), .call (.c (.fn 40 [])) [(.t 6)], none, 8208, [1]⟩,
 ⟨(some 8), .call (.c (.fn 20 [])) [(.t 5), (.t 7)], none, 8216, [0, 2, 1]⟩,
 ⟨(some 4), .copy (.t 8), none, 8224, [3, 0, 2, 1]⟩])
 .ret))
theorem vf23 : VF Try.prog 23 = some (9, vc23, [.tmp 4]) := by kernel_rfl
/-- downspout/table.Find -/
def vc14 : VCode :=
 (.seq
 (.region 0 false [
 ⟨(some 4), .alloc [(.str []), (.str []), (.int .i64 0)], none, 0, []⟩,
 ⟨(some 5), .copy (.c (.bool false)), none, 8, []⟩])
 (.seq
 (.seq
 (.region 1 false [
 ⟨(some 9), .copy (.t 0), none, 8192, []⟩,
 ⟨(some 10), .copy (.t 1), none, 8200, []⟩,
 ⟨(some 11), .call (.c (.fn 35 [])) [(.t 9), (.t 10)], none, 8208, [0, 1]⟩,
 ⟨(some 8), .copy (.t 11), none, 8216, [2, 0, 1]⟩,
 ⟨(some 12), .extract (.t 8) 0, none, 8224, [3, 2, 0, 1]⟩,
 ⟨(some 13), .extract (.t 8) 1, none, 8232, [3, 2, 0, 1]⟩,
 ⟨(some 6), .copy (.t 12), none, 8240, [4, 3, 2, 0, 1]⟩,
 ⟨(some 7), .copy (.t 13), none, 8248, [5, 3, 2, 0, 1, 6, 4]⟩])
 (.seq
 (.region 2 false [
 ⟨(some 14), .copy (.t 7), none, 16384, []⟩])
 (.cond (.t 14)
 (.seq
 (.region 3 false [
 ⟨(some 15), .copy (.t 0), none, 24576, []⟩,
 ⟨(some 16), .copy (.t 6), none, 24584, []⟩,
 ⟨(some 17), .iaddr 3 (.t 15) (.t 16), none, 24592, [0, 1]⟩,
 ⟨(some 18), .load true 3 (.t 17), none, 24600, [2, 0, 1]⟩,
 ⟨none, .store 3 (.t 4) (.t 18), none, 24608, [3, 2, 0, 1]⟩,
 ⟨(some 5), .copy (.c (.bool true)), none, 24616, [4, 3, 2, 0, 1]⟩])
 .ret)
 .skip)))
 (.seq
 (.region 4 false [
 ⟨(some 19), .build [(.str []), (.str []), (.int .i64 0)] [], none, 32768, []⟩,
 ⟨none, .store 3 (.t 4) (.t 19), none, 32776, [0]⟩,
 ⟨(some 5), .copy (.c (.bool false)), none, 32784, [1, 0]⟩])
 .ret)))
theorem vf14 : VF Try.prog 14 = some (20, vc14, [.cell true 3 4, .tmp 5]) := by kernel_rfl
/-! Put, Del and Find of tables -/
theorem clone_vc0 {xs : List PairL} (hl : xs.length ≤ 1000000) : VC Try.prog 38 [.sh false (xs.map encP)] [] (ownV ⟨0, 0⟩ (xs.map encP)) [blkV 3 (xs.map encP)] := by
  refine vc_of vf38 ?_ (Nat.le_of_ble_eq_true rfl) (by intro vs h; cases h)
  cases xs with
  | nil =>
    refine ct_split (t := 0) (ex := false) (tm := entry 0 [.sh false []]) rfl ?_ ?_
    · repeat first | refine o_copy ?_ | refine nl ?_ | refine ct_seq ?_ | refine rg ?_ | refine ct_block ?_ | refine bq ?_ | refine o_bslice ?_ | refine o_isnil ?_
      refine cndt ?_
      repeat first | refine o_copy ?_ | refine nl ?_ | refine ct_seq ?_ | refine rg ?_ | refine ct_block ?_ | refine bq ?_ | refine o_bslice ?_ | refine o_isnil ?_
      refine ct_imp (Imp.nil (t := 2) (b := ⟨1, 900000⟩) (esz := 3) rfl rfl (by decide)) ?_
      exact ct_ret ⟨.inr rfl, oOwn rfl⟩
    · repeat first | refine o_copy ?_ | refine nl ?_ | refine ct_seq ?_ | refine rg ?_ | refine ct_block ?_ | refine bq ?_ | refine o_bslice ?_ | refine o_isnil ?_
      refine cndf (ct_skip ?_)
      repeat first | refine o_copy ?_ | refine nl ?_ | refine ct_seq ?_ | refine rg ?_ | refine ct_block ?_ | refine bq ?_ | refine o_v (vaps encP [] []) ?_ | refine o_bslice ?_ | refine o_isnil ?_
      exact ct_ret ⟨.inr rfl, oOwn rfl⟩
  | cons x xs =>
    have hl2 : xs.length + 1 ≤ 1000000 := hl
    repeat first | refine o_copy ?_ | refine nl ?_ | refine ct_seq ?_ | refine rg ?_ | refine ct_block ?_ | refine bq ?_ | refine o_bslice ?_ | refine o_isnil ?_
    refine cndf (ct_skip ?_)
    repeat first | refine o_copy ?_ | refine nl ?_ | refine ct_seq ?_ | refine rg ?_ | refine ct_block ?_ | refine bq ?_ | refine o_v (vaps encP [] (x :: xs)) ?_ | refine o_bslice ?_ | refine o_isnil ?_
    exact ct_ret ⟨.inr rfl, oOwn rfl⟩
theorem tput_vc0 {t : List PairL} (p : PairL) (hs : Srt t) (hl : t.length ≤ 1000000) : VC Try.prog 22 [.sh false (t.map encP), .agg (encP p)] [] (ownV ⟨0, 0⟩ ((putL t p).map encP)) [blkV 3 ((putL t p).map encP)] := by
  refine vc_of vf22 ?_ (Nat.le_of_ble_eq_true rfl) (by intro vs h; cases h)
  have pl := place_vc (q := .sh false (t.map encP)) p.key hs Sl.sh hl
  have cl := clone_vc0 (xs := t) hl
  have hle := lb_le p.key t
  have hmt : (t.map encP).length = t.length := List.length_map ..
  have pf := put_found (p := p) hs
  have pn := put_new (p := p) hs
  have hls := lb_isSome (k := p.key) hs
  generalize hn : lbN t p.key = n at *
  repeat first | refine o_copy ?_ | refine nl ?_ | refine ct_seq ?_ | refine rg ?_ | refine ct_block ?_ | refine bq ?_ | refine cv0 pl ?_ | refine cv cl ?_ | refine o_loads ?_ | refine o_loadp ?_ | refine o_faddr ?_ | refine o_iaddr ?_ | refine o_iaddrO ?_ | refine o_iaddrR ?_ | refine o_loadsA ?_ | refine o_loadpA ?_ | refine o_box ?_ | refine o_bslice ?_ | refine o_store ?_ | refine o_extract ?_
  refine cnd (fun h => ?_) (fun h => ct_skip ?_)
  · obtain ⟨y, hy, _, _⟩ := hls h
    have hlt : n < t.length := (List.getElem?_eq_some_iff.1 hy).1
    rw [← pf h]
    repeat first | refine o_copy ?_ | refine nl ?_ | refine ct_seq ?_ | refine rg ?_ | refine ct_block ?_ | refine bq ?_ | refine o_v (vst encP p) ?_ | refine o_loads ?_ | refine o_loadp ?_ | refine o_faddr ?_ | refine o_iaddr ?_ | refine o_iaddrO ?_ | refine o_iaddrR ?_ | refine o_loadsA ?_ | refine o_loadpA ?_ | refine o_box ?_ | refine o_bslice ?_ | refine o_store ?_ | refine o_extract ?_
    exact ct_ret ⟨.inr rfl, oOwn rfl⟩
  · have iv := insert_vc t p hmt.symm (by omega : n ≤ (t.map encP).length) (by omega)
    have hp := pn h
    have hi2 : insAt t n p = putL t p := hp
    rw [hi2] at iv
    have hpl : (putL t p).length = t.length + 1 := by rw [← hp]; simp; omega
    repeat first | refine o_copy ?_ | refine nl ?_ | refine ct_seq ?_ | refine rg ?_ | refine ct_block ?_ | refine bq ?_ | refine clf (lent := [⟨1, 16392⟩]) (rd := [⟨1, 49176⟩]) iv ?_ | refine o_loads ?_ | refine o_loadp ?_ | refine o_faddr ?_ | refine o_iaddr ?_ | refine o_iaddrO ?_ | refine o_iaddrR ?_ | refine o_loadsA ?_ | refine o_loadpA ?_ | refine o_box ?_ | refine o_bslice ?_ | refine o_store ?_ | refine o_extract ?_
    exact ct_ret ⟨.inr rfl, oOwn rfl⟩
theorem tput_vc {q : PV} {t : List PairL} (p : PairL) (hs : Srt t) (hq : Sl q (t.map encP)) (hl : t.length ≤ 1000000) : VC Try.prog 22 [q, .agg (encP p)] [] (ownV ⟨0, 0⟩ ((putL t p).map encP)) [blkV 3 ((putL t p).map encP)] :=
  vc_weak (tput_vc0 p hs hl) (.cons (PLe.sl hq) (.cons (PLe.refl _) .nil)) (PLe.refl _)
theorem tdel_vc {q : PV} {t : List PairL} (k : Str) (hs : Srt t) (hq : Sl q (t.map encP)) (hl : t.length ≤ 1000000) (hk : k.length ≤ 1000000000) : VC Try.prog 23 [q, .str k] [] (ownV ⟨0, 0⟩ ((delL t k).map encP)) [blkV 3 ((delL t k).map encP)] := by
  refine vc_of vf23 ?_ (Nat.le_of_ble_eq_true rfl) (by intro vs h; cases h)
  have h1 := one_vc k hk
  have h2 := drop_vc (q := q) (oneL k) hs hq hl
  rw [drop_one] at h2
  repeat first | refine o_copy ?_ | refine nl ?_ | refine ct_seq ?_ | refine rg ?_ | refine ct_block ?_ | refine bq ?_ | refine cv0 h1 ?_ | refine cv h2 ?_ | 
  exact ct_ret ⟨.inr rfl, oOwn rfl⟩
theorem tfind_vc {q : PV} {t : List PairL} (k : Str) (hs : Srt t) (hq : Sl q (t.map encP)) (hl : t.length ≤ 1000000) : VC Try.prog 14 [q, .str k] [] (.tup [.agg (encP ((findP t k).getD zP)), .bool (findP t k).isSome]) [] := by
  refine vc_of vf14 ?_ (Nat.le_of_ble_eq_true rfl) (by intro vs h; cases h; intro p hp q; simp at hp; rcases hp with rfl | rfl <;> (intro h; cases h))
  have pl := place_vc k hs hq hl
  have hls := lb_isSome (k := k) hs
  have hn0 : (findP t k).isSome = false → findP t k = none := by simp
  generalize hn : lbN t k = n at *
  repeat first | refine o_copy ?_ | refine nl ?_ | refine ct_seq ?_ | refine rg ?_ | refine ct_block ?_ | refine bq ?_ | refine cv0 pl ?_ | refine o_iaddr ?_ | refine o_iaddrO ?_ | refine o_iaddrR ?_ | refine o_loadsA ?_ | refine o_loadpA ?_ | refine o_alloc ?_ | refine o_store ?_ | refine o_build ?_ | refine o_extract ?_
  refine cnd (fun h => ?_) (fun h => ct_skip ?_)
  · obtain ⟨y, hy, hf, _⟩ := hls h
    have hye := gm (enc := encP) (n := (n : Int)) hy (by omega)
    rw [hf]
    repeat first | refine o_copy ?_ | refine nl ?_ | refine ct_seq ?_ | refine rg ?_ | refine ct_block ?_ | refine bq ?_ | refine o_iaddr ?_ | refine o_iaddrO ?_ | refine o_iaddrR ?_ | refine o_loadsA ?_ | refine o_loadpA ?_ | refine o_alloc ?_ | refine o_store ?_ | refine o_build ?_ | refine o_extract ?_
    exact ct_ret ⟨.inr rfl, oAny rfl⟩
  · rw [hn0 h]
    repeat first | refine o_copy ?_ | refine nl ?_ | refine ct_seq ?_ | refine rg ?_ | refine ct_block ?_ | refine bq ?_ | refine o_iaddr ?_ | refine o_iaddrO ?_ | refine o_iaddrR ?_ | refine o_loadsA ?_ | refine o_loadpA ?_ | refine o_alloc ?_ | refine o_store ?_ | refine o_build ?_ | refine o_extract ?_
    exact ct_ret ⟨.inr rfl, oAny rfl⟩
end Go.Proofs
