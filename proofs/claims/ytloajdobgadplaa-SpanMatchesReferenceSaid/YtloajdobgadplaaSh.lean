/- Sh -/
import Derived.Test.YtloajdobgadplaaSd
import Derived.Test.YtloajdobgadplaaSa
import Derived.Test.YtloajdobgadplaaPu
import Derived.Test.YtloajdobgadplaaVD
open Go.V Go.Pu
set_option linter.unusedVariables false
set_option linter.unusedSimpArgs false
namespace Go.Proofs
/-! Pivots and parts, plain. -/
def Asc (l : List Str) : Prop := (∀ x ∈ l, x ≠ []) ∧ l.Pairwise (fun a b => Op.bytesLess a b = true)
theorem pivInner_true (x : Str) : ∀ (l nx : List Str), pivInner x l nx true = (nx ++ l, true)
  | [], nx => by simp [pivInner]
  | y :: l, nx => by rw [pivInner, if_neg (by simp), pivInner_true x l]; simp
/-- A text put in its place. -/
def putP (x : Str) : List Str → List Str
  | [] => [x]
  | y :: l => if Op.bytesLess x y = true then x :: y :: l else if x = y then y :: l else y :: putP x l
theorem pivInner_false (x : Str) : ∀ (l nx : List Str), (if (pivInner x l nx false).2 = false then (pivInner x l nx false).1 ++ [x] else (pivInner x l nx false).1) = nx ++ putP x l
  | [], nx => by simp [pivInner, putP]
  | y :: l, nx => by
    have e : pivInner x (y :: l) nx false = if false = false ∧ (Op.bytesLess x y || x == y) = true then pivInner x l ((if Op.bytesLess x y = true then nx ++ [x] else nx) ++ [y]) true else pivInner x l (nx ++ [y]) false := by rw [pivInner]
    by_cases h : Op.bytesLess x y = true
    · have e2 : pivInner x (y :: l) nx false = (nx ++ x :: y :: l, true) := by
        rw [e, if_pos ⟨rfl, by rw [h]; rfl⟩, if_pos h, pivInner_true]; simp
      rw [e2, putP, if_pos h]
      simp
    · by_cases h2 : x = y
      · have e2 : pivInner x (y :: l) nx false = (nx ++ y :: l, true) := by
          rw [e, if_pos ⟨rfl, by simp [h2]⟩, if_neg h, pivInner_true]; simp
        rw [e2, putP, if_neg h, if_pos h2]
        simp
      · have e2 : pivInner x (y :: l) nx false = pivInner x l (nx ++ [y]) false := by
          rw [e, if_neg (by simp [h, h2])]
        rw [e2, pivInner_false x l, putP, if_neg h, if_neg h2]
        simp
theorem pivStep_eq (out : List Str) (x : Str) : pivStep out x = if x = [] then out else putP x out := by
  unfold pivStep
  by_cases h : x = []
  · have : (x == []) = true := by simpa using h
    rw [this, pivInner_true, if_pos h]
    simp
  · have : (x == []) = false := by simpa using h
    rw [this, if_neg h]
    exact pivInner_false x out []
theorem putP_mem {x z : Str} : ∀ {l : List Str}, z ∈ putP x l → z = x ∨ z ∈ l
  | [], h => .inl (by simpa [putP] using h)
  | y :: l, h => by
    rw [putP] at h
    split at h
    · simpa using h
    · split at h
      · exact .inr h
      · rcases List.mem_cons.1 h with h | h
        · exact .inr (by simp [h])
        · rcases putP_mem h with h | h
          · exact .inl h
          · exact .inr (by simp [h])
theorem putP_asc {x : Str} (hx : x ≠ []) : ∀ {l : List Str}, Asc l → Asc (putP x l)
  | [], _ => ⟨by simp [putP, hx], by simp [putP]⟩
  | y :: l, ⟨h1, h2⟩ => by
    rw [putP]
    obtain ⟨h3, h4⟩ := List.pairwise_cons.1 h2
    split
    · next h =>
      refine ⟨?_, List.pairwise_cons.2 ⟨?_, h2⟩⟩
      · intro z hz
        rcases List.mem_cons.1 hz with rfl | hz
        · exact hx
        · exact h1 z hz
      · intro z hz
        rcases List.mem_cons.1 hz with rfl | hz
        · exact h
        · exact blt_trans h (h3 z hz)
    · split
      · exact ⟨h1, h2⟩
      · next h h5 =>
        have hyx : Op.bytesLess y x = true := by
          rcases blt_tri x y with h6 | h6 | h6
          · exact absurd h6 h
          · exact absurd h6 h5
          · exact h6
        obtain ⟨h6, h7⟩ := putP_asc hx (l := l) ⟨fun z hz => h1 z (by simp [hz]), h4⟩
        refine ⟨?_, List.pairwise_cons.2 ⟨?_, h7⟩⟩
        · intro z hz
          rcases List.mem_cons.1 hz with rfl | hz
          · exact h1 _ (by simp)
          · exact h6 z hz
        · intro z hz
          rcases putP_mem hz with rfl | hz
          · exact hyx
          · exact h3 z hz
theorem piv_fold_asc : ∀ (l o : List Str), Asc o → Asc (l.foldl pivStep o)
  | [], o, h => h
  | x :: l, o, h => by
    rw [List.foldl_cons]
    refine piv_fold_asc l _ ?_
    rw [pivStep_eq]
    split
    · exact h
    · next hx => exact putP_asc hx h
theorem pivL_asc (l : List Str) : Asc (pivL l) := piv_fold_asc l [] ⟨by simp, by simp⟩
theorem piv_fold_len : ∀ (l o : List Str), (l.foldl pivStep o).length ≤ o.length + l.length
  | [], o => by simp
  | x :: l, o => by
    rw [List.foldl_cons, List.length_cons]
    have h1 := piv_fold_len l (pivStep o x)
    have h2 := pivStep_len o x
    omega
theorem pivL_len (l : List Str) : (pivL l).length ≤ l.length := by
  have := piv_fold_len l []
  simpa [pivL] using this
/-- Where a key is between pivots. -/
def atL (key : Str) : List Str → Nat
  | [] => 0
  | p :: l => if ble p key = true then atL key l + 1 else 0
theorem atL_le (key : Str) : ∀ l : List Str, atL key l ≤ l.length
  | [] => Nat.le_refl _
  | p :: l => by
    have := atL_le key l
    rw [atL, List.length_cons]
    split <;> omega
theorem atL_get (key : Str) : ∀ (l : List Str) (i : Nat) (p : Str), l[i]? = some p → i ≤ atL key l → (ble p key = true ↔ i < atL key l)
  | [], i, p, h, _ => by simp at h
  | q :: l, i, p, h, hi => by
    rw [atL] at hi ⊢
    cases i with
    | zero =>
      obtain rfl : q = p := by simpa using h
      split
      · next h2 => simp [h2]
      · next h2 => simp [h2]
    | succ i =>
      split at hi
      · next h2 =>
        rw [if_pos h2]
        have := atL_get key l i p (by simpa using h) (by omega)
        rw [this]
        omega
      · omega
theorem parts_has (s : SpanL) (key : Str) : ∀ (l : List Str) (lo : Str) (k : Nat) (t : SpanL), Asc l → (∀ p ∈ l, ble lo p = true) → (partsL s lo l)[k]? = some t →
    hasL t key = (ble lo key && (decide (k = atL key l) && hasL s key))
  | [], lo, k, t, _, _, h => by
    rw [partsL] at h
    have hk : k = 0 := by
      have := (List.getElem?_eq_some_iff.1 h).1
      simp at this
      omega
    subst hk
    obtain rfl : meetL s ⟨lo, []⟩ = t := by simpa using h
    rw [meet_has, has_last, atL]
    cases hasL s key <;> simp
  | p :: l, lo, k, t, ha, hlo, h => by
    rw [partsL] at h
    obtain ⟨h3, h4⟩ := List.pairwise_cons.1 ha.2
    cases k with
    | zero =>
      obtain rfl : meetL s ⟨lo, p⟩ = t := by simpa using h
      rw [meet_has, has_gap (ha.1 p (by simp)), atL]
      have e : ble p key = !Op.bytesLess key p := rfl
      rw [e]
      cases Op.bytesLess key p <;> cases hasL s key <;> simp
    | succ k =>
      rw [parts_has s key l p k t ⟨fun z hz => ha.1 z (by simp [hz]), h4⟩ (fun z hz => ble_iff.2 (.inl (h3 z hz))) (by simpa using h), atL]
      cases h5 : ble p key with
      | true =>
        have h6 : ble lo key = true := ble_trans (hlo p (by simp)) h5
        simp [h6]
      | false => simp
theorem parts_in (s : SpanL) (key : Str) : ∀ (l : List Str) (lo : Str), Asc l → (∀ p ∈ l, ble lo p = true) → inL (partsL s lo l) key = (ble lo key && hasL s key)
  | [], lo, _, _ => by
    rw [partsL, inL_cons, meet_has, has_last]
    cases hasL s key <;> simp [inL]
  | p :: l, lo, ha, hlo => by
    obtain ⟨h3, h4⟩ := List.pairwise_cons.1 ha.2
    rw [partsL, inL_cons, meet_has, has_gap (ha.1 p (by simp)), parts_in s key l p ⟨fun z hz => ha.1 z (by simp [hz]), h4⟩ (fun z hz => ble_iff.2 (.inl (h3 z hz)))]
    have e : ble p key = !Op.bytesLess key p := rfl
    cases h5 : Op.bytesLess key p with
    | true => rw [e, h5]; cases hasL s key <;> simp
    | false =>
      have h6 : ble lo key = true := ble_trans (hlo p (by simp)) (by rw [e, h5]; rfl)
      rw [e, h5, h6]
      cases hasL s key <;> simp
theorem parts_norm (s : SpanL) (l : List Str) (h : Asc l) : rnormL (partsL s [] l) = rnormL [s] := by
  refine Nrm.ext (rnorm_nrm _).1 (rnorm_nrm _).1 (fun k => ?_)
  rw [(rnorm_nrm _).2, (rnorm_nrm _).2, parts_in s k l [] h (fun p _ => ble_nil p), ble_nil, inL_cons]
  cases hasL s k <;> simp [inL]
theorem short_all {l : List SpanL} {n : Nat} (h : shortL l n = true) : l.length ≤ n ∧ ∀ s ∈ l, s.lo.length ≤ 30 ∧ s.hi.length ≤ 30 := by
  unfold shortL at h
  obtain ⟨h1, h2⟩ := (Bool.and_eq_true _ _).mp h
  have h3 := of_decide_eq_true h2
  refine ⟨by omega, fun s hs => ?_⟩
  have := List.all_eq_true.1 h1 s hs
  simpa using this
theorem dec2s {qs : List PV} (hl : qs.length = [CTy.str, .str].length) (hq : ∀ (j : Nat) (c : CTy) (q : PV), [CTy.str, .str][j]? = some c → qs[j]? = some q → InTy c q) : ∃ a b : Str, qs = [.str a, .str b] ∧ a.length ≤ maxLen ∧ b.length ≤ maxLen := by
  obtain ⟨a, b, rfl⟩ := list2 hl
  obtain ⟨x, rfl, hx⟩ := in_str (hq 0 _ _ rfl rfl)
  obtain ⟨y, rfl, hy⟩ := in_str (hq 1 _ _ rfl rfl)
  exact ⟨x, y, rfl, hx, hy⟩
theorem decS {l : List (List PV)} (h : InTy (.sl [.str, .str]) (.sh false l)) : ∃ xs : List SpanL, l = xs.map encS ∧ xs.length ≤ maxLen := decodeL h fun e hl hc => by
  obtain ⟨a, b, rfl, _⟩ := dec2s hl hc
  exact ⟨⟨a, b⟩, rfl⟩
theorem decT {l : List (List PV)} (h : InTy (.sl [.str]) (.sh false l)) : ∃ xs : List Str, l = xs.map encT ∧ xs.length ≤ maxLen := decodeL h fun e hl hc => by
  obtain ⟨a, rfl⟩ := list1 hl
  obtain ⟨s, rfl, _⟩ := in_str (hc 0 _ _ rfl rfl)
  exact ⟨s, rfl⟩
end Go.Proofs
