/- The order of texts, and sorted tables: plain Lean. -/
import GoSem.Op.String
import Derived.Sort.AssemblyPlain
set_option linter.unusedVariables false
namespace Go.Pu
abbrev Str := List UInt8
theorem xB9 (a : Str) : Op.bytesLess a [] = false := by cases a <;> rfl
theorem xAq : ∀ a : Str, Op.bytesLess a a = false
  | [] => rfl
  | x :: a => by
    simp only [Op.bytesLess, Op.bytesLess, Bool.or_eq_false_iff, decide_eq_false_iff_not, Bool.and_eq_false_iff]
    exact ⟨UInt8.lt_irrefl x, .inr (xAq a)⟩
theorem blt_cons {x y : UInt8} {a b : Str} : Op.bytesLess (x :: a) (y :: b) = true ↔ x < y ∨ (x = y ∧ Op.bytesLess a b = true) := by
  simp [Op.bytesLess, Op.bytesLess]
theorem xAk : ∀ {a b c : Str}, Op.bytesLess a b = true → Op.bytesLess b c = true → Op.bytesLess a c = true
  | _, _, [], _, h => by rw [xB9] at h; cases h
  | _, [], _ :: _, h, _ => by rw [xB9] at h; cases h
  | [], _ :: _, _ :: _, _, _ => rfl
  | x :: a, y :: b, z :: c, h1, h2 => by
    rw [blt_cons] at h1 h2 ⊢
    rcases h1 with h1 | ⟨rfl, h1⟩
    · rcases h2 with h2 | ⟨rfl, h2⟩
      · exact .inl (UInt8.lt_trans h1 h2)
      · exact .inl h1
    · rcases h2 with h2 | ⟨rfl, h2⟩
      · exact .inl h2
      · exact .inr ⟨rfl, xAk h1 h2⟩
theorem xBv : ∀ (a b : Str), Op.bytesLess a b = true ∨ a = b ∨ Op.bytesLess b a = true
  | [], [] => .inr (.inl rfl)
  | [], _ :: _ => .inl rfl
  | _ :: _, [] => .inr (.inr rfl)
  | x :: a, y :: b => by
    rw [blt_cons, blt_cons]
    by_cases h : x < y
    · exact .inl (.inl h)
    · by_cases h' : y < x
      · exact .inr (.inr (.inl h'))
      · have e : x = y := UInt8.le_antisymm (UInt8.not_lt.1 h') (UInt8.not_lt.1 h)
        subst e
        rcases xBv a b with h1 | h1 | h1
        · exact .inl (.inr ⟨rfl, h1⟩)
        · exact .inr (.inl (by rw [h1]))
        · exact .inr (.inr (.inr ⟨rfl, h1⟩))
theorem xB1 {a b : Str} (h : Op.bytesLess a b = true) : Op.bytesLess b a = false := by
  cases h' : Op.bytesLess b a with
  | false => rfl
  | true => have := xAk h h'; rw [xAq] at this; cases this
theorem xDS {a b : Str} (h : Op.bytesLess a b = true) : a ≠ b := by
  intro e; subst e; rw [xAq] at h; cases h
theorem xOY {a b : Str} (h : Op.bytesLess a b = false) (hne : a ≠ b) : Op.bytesLess b a = true := by
  rcases xBv a b with h1 | h1 | h1
  · rw [h] at h1; cases h1
  · exact absurd h1 hne
  · exact h1
def ble (a b : Str) : Bool := !Op.bytesLess b a
theorem ble_iff {a b : Str} : ble a b = true ↔ Op.bytesLess a b = true ∨ a = b := by
  unfold ble
  constructor
  · intro h
    have h : Op.bytesLess b a = false := by simpa using h
    rcases xBv a b with h1 | h1 | h1
    · exact .inl h1
    · exact .inr h1
    · rw [h] at h1; cases h1
  · rintro (h | rfl)
    · simp [xB1 h]
    · simp [xAq]
theorem xCR (a : Str) : ble a a = true := ble_iff.2 (.inr rfl)
theorem xBC {a b c : Str} (h1 : ble a b = true) (h2 : ble b c = true) : ble a c = true := by
  rw [ble_iff] at *
  rcases h1 with h1 | rfl
  · rcases h2 with h2 | rfl
    · exact .inl (xAk h1 h2)
    · exact .inl h1
  · exact h2
theorem xDs {a b c : Str} (h1 : ble a b = true) (h2 : Op.bytesLess b c = true) : Op.bytesLess a c = true := by
  rw [ble_iff] at h1
  rcases h1 with h1 | rfl
  · exact xAk h1 h2
  · exact h2
theorem xAb {a b c : Str} (h1 : Op.bytesLess a b = true) (h2 : ble b c = true) : Op.bytesLess a c = true := by
  rw [ble_iff] at h2
  rcases h2 with h2 | rfl
  · exact xAk h1 h2
  · exact h1
theorem xTX {a : Str} : Op.bytesLess [] a = true ↔ a ≠ [] := by cases a <;> simp [Op.bytesLess, Op.bytesLess]
theorem xEk (a : Str) : ble [] a = true := by simp [ble, xB9]
structure PairL where
  key : Str
  val : Str
  stamp : Int
  deriving DecidableEq
def Srt (t : List PairL) : Prop := t.Pairwise fun a b => Op.bytesLess a.key b.key = true
def xEN : List PairL → Bool
  | a :: b :: r => Op.bytesLess a.key b.key && xEN (b :: r)
  | _ => true
theorem xLt : ∀ {t : List PairL}, xEN t = true ↔ Srt t
  | [] => by simp [xEN, Srt]
  | [a] => by simp [xEN, Srt]
  | a :: b :: r => by
    rw [xEN, Bool.and_eq_true, xLt (t := b :: r)]
    unfold Srt
    rw [List.pairwise_cons (a := a)]
    constructor
    · rintro ⟨h1, h2⟩
      refine ⟨fun c hc => ?_, h2⟩
      rcases List.mem_cons.1 hc with rfl | hc
      · exact h1
      · exact xAk h1 ((List.pairwise_cons.1 h2).1 c hc)
    · rintro ⟨h1, h2⟩
      exact ⟨h1 b (by simp), h2⟩
def xBY (p : PairL) (s : List PairL × Bool) (x : PairL) : List PairL × Bool :=
  let s1 := if (!s.2 && !(Op.bytesLess x.key p.key)) = true then (s.1 ++ [p], true) else s
  (if (!(x.key == p.key)) = true then s1.1 ++ [x] else s1.1, s1.2)
def putL (t : List PairL) (p : PairL) : List PairL :=
  let s := t.foldl (xBY p) ([], false)
  if s.2 = true then s.1 else s.1 ++ [p]
def insL (p : PairL) : List PairL → List PairL
  | [] => [p]
  | x :: r => if Op.bytesLess x.key p.key = true then x :: insL p r else p :: (x :: r).filter fun y => !(y.key == p.key)
theorem putT (p : PairL) : ∀ (l o : List PairL), l.foldl (xBY p) (o, true) = (o ++ l.filter (fun y => !(y.key == p.key)), true)
  | [], o => by simp
  | x :: l, o => by
    rw [List.foldl_cons]
    have : xBY p (o, true) x = (o ++ [x].filter (fun y => !(y.key == p.key)), true) := by
      simp only [xBY, Bool.not_true, Bool.false_and, Bool.false_eq_true, if_false, List.filter_cons, List.filter_nil]
      split <;> simp
    rw [this, putT p l, List.append_assoc, ← List.filter_append]
    rfl
theorem putF (p : PairL) : ∀ (l o : List PairL), (if (l.foldl (xBY p) (o, false)).2 = true then (l.foldl (xBY p) (o, false)).1 else (l.foldl (xBY p) (o, false)).1 ++ [p]) = o ++ insL p l
  | [], o => by simp [insL]
  | x :: l, o => by
    rw [List.foldl_cons, insL]
    by_cases h : Op.bytesLess x.key p.key = true
    · have hne : (x.key == p.key) = false := by simpa using xDS h
      have : xBY p (o, false) x = (o ++ [x], false) := by
        simp [xBY, h, xDS h]
      rw [this, putF p l, if_pos h, List.append_assoc]
      rfl
    · have h' : Op.bytesLess x.key p.key = false := by simpa using h
      have : xBY p (o, false) x = (o ++ [p] ++ [x].filter (fun y => !(y.key == p.key)), true) := by
        simp only [xBY, Bool.not_false, h', Bool.and_self, if_true, List.filter_cons, List.filter_nil]
        split <;> simp
      rw [this, putT, if_neg h]
      simp only [if_true]
      rw [List.append_assoc, List.append_assoc, ← List.filter_append]
      rfl
theorem xF0 (t : List PairL) (p : PairL) : putL t p = insL p t := by
  have := putF p t []
  simpa [putL] using this
theorem xKA {p y : PairL} : ∀ {t : List PairL}, y ∈ insL p t → y = p ∨ y ∈ t
  | [], h => by simp [insL] at h; exact .inl h
  | x :: r, h => by
    rw [insL] at h
    split at h
    · rcases List.mem_cons.1 h with rfl | h
      · exact .inr (by simp)
      · rcases xKA h with h | h
        · exact .inl h
        · exact .inr (List.mem_cons_of_mem _ h)
    · rcases List.mem_cons.1 h with rfl | h
      · exact .inl rfl
      · exact .inr (List.mem_filter.1 h).1
theorem xNQ {p : PairL} : ∀ {t : List PairL}, Srt t → Srt (insL p t)
  | [], _ => by simp [insL, Srt]
  | x :: r, h => by
    obtain ⟨h1, h2⟩ := List.pairwise_cons.1 h
    rw [insL]
    split
    · rename_i hx
      refine List.pairwise_cons.2 ⟨fun y hy => ?_, xNQ h2⟩
      rcases xKA hy with rfl | hy
      · exact hx
      · exact h1 y hy
    · rename_i hx
      have hx : Op.bytesLess x.key p.key = false := by simpa using hx
      refine List.pairwise_cons.2 ⟨fun y hy => ?_, h.filter _⟩
      obtain ⟨hy1, hy2⟩ := List.mem_filter.1 hy
      have hne : y.key ≠ p.key := by simpa using hy2
      rcases List.mem_cons.1 hy1 with rfl | hy1
      · exact xOY hx hne
      · have := h1 y hy1
        rcases xBv p.key y.key with h3 | h3 | h3
        · exact h3
        · exact absurd h3.symm hne
        · have := xAk this h3
          rw [hx] at this; cases this
theorem xNR {p : PairL} : ∀ t : List PairL, (insL p t).length ≤ t.length + 1
  | [] => by simp [insL]
  | x :: r => by
    rw [insL]
    split
    · have := xNR (p := p) r; simp; omega
    · simp only [List.length_cons]
      have := List.length_filter_le (fun y : PairL => !(y.key == p.key)) (x :: r)
      simp at this ⊢
      omega
theorem xRv (t : List PairL) (p : PairL) : (putL t p).length ≤ t.length + 1 := by rw [xF0]; exact xNR t
theorem xBL {t : List PairL} {p : PairL} (h : Srt t) : Srt (putL t p) := by rw [xF0]; exact xNQ h
theorem xAt {α : Type} {l : List α} {i : Nat} {x : α} (h : l[i]? = some x) : l.drop i = x :: l.drop (i + 1) := by
  have hl := (List.getElem?_eq_some_iff.1 h).1
  rw [List.drop_eq_getElem_cons hl]
  congr 1
  exact (List.getElem?_eq_some_iff.1 h).2
theorem xS3 {xs : List PairL} {i : Nat} {a b : PairL} (ha : xs[i]? = some a) (hb : xs[i + 1]? = some b) : xEN (xs.drop i) = (Op.bytesLess a.key b.key && xEN (xs.drop (i + 1))) := by
  rw [xAt ha, xAt hb, xEN]
end Go.Pu
set_option linter.unusedVariables false
namespace Go.Pu
structure SpanL where
  lo : Str
  hi : Str
  deriving DecidableEq
def hasL (s : SpanL) (k : Str) : Bool := !(Op.bytesLess k s.lo) && (s.hi == [] || Op.bytesLess k s.hi)
def xAJ (s : SpanL) : Bool := !(s.hi == []) && (Op.bytesLess s.hi s.lo || s.hi == s.lo)
def xCS (a b : Str) : Int := if Op.bytesLess a b = true then -1 else if a = b then 0 else 1
def xEC (e f : Str) : Int := if e = f then 0 else if e = [] then 1 else if f = [] then -1 else xCS e f
def xCD (a b : Str) : Str := if xEC b a < 0 then b else a
def maxL (a b : Str) : Str := if Op.bytesLess a b = true then b else a
def xHi : SpanL := ⟨[97], [97]⟩
def xAV (a b : SpanL) : SpanL := if xAJ ⟨maxL a.lo b.lo, xCD a.hi b.hi⟩ = true then xHi else ⟨maxL a.lo b.lo, xCD a.hi b.hi⟩
def xA7 (a b : SpanL) : Bool := xAJ b || (hasL a b.lo && decide (xEC a.hi b.hi ≥ 0))
def xDJ (a b : Str) : Bool := !(a == []) && (b == [] || Op.bytesLess a b)
def xMm (a b : SpanL) : SpanL :=
  let s : SpanL := ⟨maxL a.lo b.lo, if xDJ b.hi a.hi = true then b.hi else a.hi⟩
  if xAJ s = true then xHi else s
def xGz (a b : SpanL) : Bool := xAJ b || (!xAJ a && (Op.bytesLess a.lo b.lo || a.lo == b.lo) && !xDJ a.hi b.hi)
def xAF (k p : Str) : Bool := decide (k.length ≥ p.length) && (k.take p.length == p)
def xDO (k f t : Str) : Str × Bool := if xAF k f = true then (t ++ k.drop f.length, true) else ([], false)
def oneL (k : Str) : SpanL := ⟨k, k ++ [0]⟩
def xBq (p : Str) : Nat → Nat
  | 0 => 0
  | n + 1 => if p[n]? = some 255 then xBq p n else n + 1
def upL (p : Str) : Str :=
  match xBq p p.length with
  | 0 => []
  | n + 1 => p.take n ++ [p.getD n 0 + 1]
def xAH (p : Str) : SpanL := ⟨p, upL p⟩
theorem xKY (p : Str) : ∀ n, xBq p n ≤ n
  | 0 => Nat.le_refl _
  | n + 1 => by
    rw [xBq]
    split
    · exact Nat.le_succ_of_le (xKY p n)
    · exact Nat.le_refl _
theorem has_iff {s : SpanL} {k : Str} : hasL s k = true ↔ ble s.lo k = true ∧ (s.hi = [] ∨ Op.bytesLess k s.hi = true) := by
  simp [hasL, ble]
theorem empty_iff {s : SpanL} : xAJ s = true ↔ s.hi ≠ [] ∧ ble s.hi s.lo = true := by
  simp only [xAJ, Bool.and_eq_true, Bool.not_eq_true', Bool.or_eq_true, beq_iff_eq, beq_eq_false_iff_ne, ble_iff]
theorem xAU {s : SpanL} (h : xAJ s = true) (k : Str) : hasL s k = false := by
  cases hk : hasL s k with
  | false => rfl
  | true =>
    obtain ⟨h1, h2⟩ := empty_iff.1 h
    obtain ⟨h3, h4⟩ := has_iff.1 hk
    rcases h4 with h4 | h4
    · exact absurd h4 h1
    · have := xAb h4 (xBC h2 h3)
      rw [xAq] at this; cases this
theorem xDQ {s : SpanL} (h : xAJ s = false) : hasL s s.lo = true := by
  refine has_iff.2 ⟨xCR _, ?_⟩
  by_cases he : s.hi = []
  · exact .inl he
  · right
    cases hb : Op.bytesLess s.lo s.hi with
    | true => rfl
    | false =>
      have : xAJ s = true := empty_iff.2 ⟨he, by simp [ble, hb]⟩
      rw [h] at this; cases this
def elt (a b : Str) : Prop := a ≠ [] ∧ (b = [] ∨ Op.bytesLess a b = true)
theorem less_iff {a b : Str} : xDJ a b = true ↔ elt a b := by simp [xDJ, elt]
theorem cmpStr_lt {a b : Str} : xCS a b < 0 ↔ Op.bytesLess a b = true := by
  unfold xCS
  split
  · rename_i h; simp [h]
  · rename_i h
    split <;> simp [h]
theorem cmpStr_eq {a b : Str} : xCS a b = 0 ↔ a = b := by
  unfold xCS
  split
  · rename_i h
    constructor
    · intro h'; simp at h'
    · intro e; subst e; rw [xAq] at h; cases h
  · split
    · rename_i h; simp [h]
    · rename_i h; simp [h]
theorem cmpEnd_lt {a b : Str} : xEC a b < 0 ↔ elt a b := by
  unfold xEC elt
  split
  · rename_i h
    subst h
    simp
    intro h; exact ⟨h, xAq a⟩
  · rename_i h
    split
    · rename_i h1; simp [h1]
    · rename_i h1
      split
      · rename_i h2; simp [h1, h2]
      · rename_i h2; simp [h1, h2, cmpStr_lt]
theorem cmpEnd_eq {a b : Str} : xEC a b = 0 ↔ a = b := by
  unfold xEC
  split
  · rename_i h; simp [h]
  · rename_i h
    split
    · simp [h]
    · split
      · simp [h]
      · rw [cmpStr_eq]
theorem xEa (a b : Str) : xCD a b = if xDJ b a = true then b else a := by
  unfold xCD
  by_cases h : elt b a
  · rw [if_pos (cmpEnd_lt.2 h), if_pos (less_iff.2 h)]
  · rw [if_neg (fun h' => h (cmpEnd_lt.1 h')), if_neg (fun h' => h (less_iff.1 h'))]
theorem xG4 (a b : SpanL) : xAV a b = xMm a b := by
  unfold xAV xMm
  rw [xEa]
theorem xQg (a b : Str) : elt a b ∨ a = b ∨ elt b a := by
  unfold elt
  by_cases ha : a = []
  · by_cases hb : b = []
    · exact .inr (.inl (ha.trans hb.symm))
    · exact .inr (.inr ⟨hb, .inl ha⟩)
  · by_cases hb : b = []
    · exact .inl ⟨ha, .inl hb⟩
    · rcases xBv a b with h | h | h
      · exact .inl ⟨ha, .inr h⟩
      · exact .inr (.inl h)
      · exact .inr (.inr ⟨hb, .inr h⟩)
theorem xIN {a b : Str} (h : elt a b) : ¬ elt b a := by
  rintro ⟨h1, h2⟩
  obtain ⟨h3, h4⟩ := h
  rcases h4 with h4 | h4
  · exact h1 h4
  · rcases h2 with h2 | h2
    · exact h3 h2
    · rw [xB1 h4] at h2; cases h2
theorem xTE {a : Str} : ¬ elt a a := fun h => xIN h h
theorem xOS (a b : SpanL) : xA7 a b = xGz a b := by
  unfold xA7 xGz
  cases hb : xAJ b with
  | true => rfl
  | false =>
    simp only [Bool.false_or]
    have key : decide (xEC a.hi b.hi ≥ 0) = !xDJ a.hi b.hi := by
      rw [Bool.eq_iff_iff]
      simp only [decide_eq_true_eq, Bool.not_eq_true']
      constructor
      · intro h
        cases hl : xDJ a.hi b.hi with
        | false => rfl
        | true => have := cmpEnd_lt.2 (less_iff.1 hl); omega
      · intro h
        have : ¬ xEC a.hi b.hi < 0 := fun h' => by rw [less_iff.2 (cmpEnd_lt.1 h')] at h; cases h
        omega
    rw [key]
    cases hl : xDJ a.hi b.hi with
    | true => simp
    | false =>
      simp only [Bool.not_false, Bool.and_true]
      rw [Bool.eq_iff_iff, has_iff, Bool.and_eq_true, Bool.not_eq_true', Bool.or_eq_true, beq_iff_eq, ← ble_iff]
      constructor
      · rintro ⟨h1, h2⟩
        refine ⟨?_, h1⟩
        cases he : xAJ a with
        | false => rfl
        | true =>
          have := xAU he b.lo
          rw [has_iff.2 ⟨h1, h2⟩] at this; cases this
      · rintro ⟨h1, h2⟩
        refine ⟨h2, ?_⟩
        by_cases ha : a.hi = []
        · exact .inl ha
        · right
          have hbl := (has_iff.1 (xDQ hb)).2
          have hn : ¬ elt a.hi b.hi := fun h => by rw [less_iff.2 h] at hl; cases hl
          rcases hbl with hbl | hbl
          · exact absurd ⟨ha, .inl hbl⟩ hn
          · rcases xBv a.hi b.hi with h | h | h
            · exact absurd ⟨ha, .inr h⟩ hn
            · rw [h]; exact hbl
            · exact xAk hbl h
theorem xHs {a b k : Str} : ble (maxL a b) k = true ↔ ble a k = true ∧ ble b k = true := by
  unfold maxL
  split
  · rename_i h
    exact ⟨fun h' => ⟨xBC (ble_iff.2 (.inl h)) h', h'⟩, fun h' => h'.2⟩
  · rename_i h
    have h : ble b a = true := by simp [ble, h]
    exact ⟨fun h' => ⟨h', xBC h h'⟩, fun h' => h'.1⟩
theorem xQE {a b k : Str} : (xCD a b = [] ∨ Op.bytesLess k (xCD a b) = true) ↔ (a = [] ∨ Op.bytesLess k a = true) ∧ (b = [] ∨ Op.bytesLess k b = true) := by
  rw [xEa]
  split
  · rename_i h
    obtain ⟨h1, h2⟩ := less_iff.1 h
    constructor
    · rintro (h3 | h3)
      · exact absurd h3 h1
      · refine ⟨?_, .inr h3⟩
        rcases h2 with h2 | h2
        · exact .inl h2
        · exact .inr (xAk h3 h2)
    · exact fun h => h.2
  · rename_i h
    have h : ¬ elt b a := fun h' => h (less_iff.2 h')
    constructor
    · intro h3
      refine ⟨h3, ?_⟩
      by_cases hb : b = []
      · exact .inl hb
      · right
        rcases h3 with h3 | h3
        · exact absurd ⟨hb, .inl h3⟩ h
        · rcases xBv b a with h4 | h4 | h4
          · exact absurd ⟨hb, .inr h4⟩ h
          · rw [h4]; exact h3
          · exact xAk h3 h4
    · exact fun h => h.1
theorem xBZ (a b : SpanL) (k : Str) : hasL (xAV a b) k = (hasL a k && hasL b k) := by
  have key : hasL ⟨maxL a.lo b.lo, xCD a.hi b.hi⟩ k = (hasL a k && hasL b k) := by
    rw [Bool.eq_iff_iff, Bool.and_eq_true, has_iff, has_iff, has_iff]
    simp only
    rw [xHs, xQE]
    constructor
    · rintro ⟨⟨h1, h2⟩, h3, h4⟩; exact ⟨⟨h1, h3⟩, h2, h4⟩
    · rintro ⟨⟨h1, h2⟩, h3, h4⟩; exact ⟨⟨h1, h3⟩, h2, h4⟩
  unfold xAV
  split
  · rename_i h
    rw [← key, xAU h]
    exact xAU (s := xHi) (by decide) k
  · exact key
theorem xSK (a b : Str) : maxL a b = maxL b a := by
  unfold maxL
  rcases xBv a b with h | h | h
  · rw [if_pos h, if_neg (by simp [xB1 h])]
  · subst h; rfl
  · rw [if_neg (by simp [xB1 h]), if_pos h]
theorem xOG (a b : Str) : xCD a b = xCD b a := by
  rw [xEa, xEa]
  rcases xQg a b with h | h | h
  · rw [if_neg (fun h' => xIN h (less_iff.1 h')), if_pos (less_iff.2 h)]
  · subst h; rfl
  · rw [if_pos (less_iff.2 h), if_neg (fun h' => xIN h (less_iff.1 h'))]
theorem xP0 (a b : SpanL) : xAV a b = xAV b a := by
  unfold xAV
  rw [xSK a.lo, xOG a.hi]
theorem meet_empty {a b : SpanL} (h : xAJ (xAV a b) = true) : xAV a b = xHi := by
  unfold xAV at h ⊢
  split
  · rfl
  · rename_i h1
    rw [if_neg h1] at h
    exact absurd h h1
theorem xFG (k x : Str) : hasL (oneL k) x = (x == k) := by
  rw [Bool.eq_iff_iff, has_iff, beq_iff_eq]
  simp only [oneL]
  constructor
  · rintro ⟨h1, h2 | h2⟩
    · simp at h2
    · -- k ≤ x < k ++ [0]
      have key : ∀ k x : Str, ble k x = true → Op.bytesLess x (k ++ [0]) = true → x = k := by
        intro k
        induction k with
        | nil =>
          intro x h1 h2
          cases x with
          | nil => rfl
          | cons a x =>
            rw [List.nil_append, blt_cons] at h2
            rcases h2 with h2 | ⟨_, h2⟩
            · exact absurd h2 (UInt8.not_lt.2 (UInt8.le_iff_toNat_le.2 (by simp)))
            · rw [xB9] at h2; cases h2
        | cons b k ih =>
          intro x h1 h2
          cases x with
          | nil =>
            rw [ble_iff] at h1
            rcases h1 with h1 | h1
            · rw [xB9] at h1; cases h1
            · cases h1
          | cons a x =>
            rw [List.cons_append, blt_cons] at h2
            have h1' : ¬ (a < b ∨ a = b ∧ Op.bytesLess x k = true) := by
              intro h
              have h3 := blt_cons.2 h
              have h4 : Op.bytesLess (a :: x) (b :: k) = false := by simpa [ble] using h1
              rw [h4] at h3; cases h3
            rcases h2 with h2 | ⟨rfl, h2⟩
            · exact absurd (.inl h2) h1'
            · have : ble k x = true := by
                simp only [ble, Bool.not_eq_true']
                cases hx : Op.bytesLess x k with
                | false => rfl
                | true => exact absurd (.inr ⟨rfl, hx⟩) h1'
              rw [ih x this h2]
      exact key k x h1 h2
  · rintro rfl
    refine ⟨xCR _, .inr ?_⟩
    induction x with
    | nil => rfl
    | cons a x ih => exact blt_cons.2 (.inr ⟨rfl, ih⟩)
end Go.Pu
set_option linter.unusedVariables false
namespace Go.Pu
theorem begins_iff {k p : Str} : xAF k p = true ↔ ∃ r, k = p ++ r := by
  simp only [xAF, Bool.and_eq_true, decide_eq_true_eq, beq_iff_eq]
  constructor
  · rintro ⟨h1, h2⟩
    refine ⟨k.drop p.length, ?_⟩
    have := List.take_append_drop p.length k
    rw [h2] at this
    exact this.symm
  · rintro ⟨r, rfl⟩
    simp
theorem xEj {p a b : Str} : Op.bytesLess (p ++ a) (p ++ b) = Op.bytesLess a b := by
  induction p with
  | nil => rfl
  | cons x p ih =>
    rw [Bool.eq_iff_iff, List.cons_append, List.cons_append, blt_cons, ih]
    simp [UInt8.lt_irrefl]
theorem xDY {p a b : Str} : ble (p ++ a) (p ++ b) = ble a b := by simp [ble, xEj]
theorem xDT (p r : Str) : ble p (p ++ r) = true := by
  have := xDY (p := p) (a := []) (b := r)
  rw [List.append_nil] at this
  rw [this]; exact xEk r
theorem xHP (p : Str) : ∀ n, n ≤ p.length → (∀ i, xBq p n ≤ i → i < n → p[i]? = some 255) ∧ (∀ m, xBq p n = m + 1 → p[m]? ≠ some 255)
  | 0, _ => ⟨fun i _ h => by omega, fun m h => by cases h⟩
  | n + 1, hn => by
    obtain ⟨h1, h2⟩ := xHP p n (by omega)
    by_cases h : p[n]? = some 255
    · have e : xBq p (n + 1) = xBq p n := by rw [xBq, if_pos h]
      rw [e]
      refine ⟨fun i hi hl => ?_, h2⟩
      by_cases he : i = n
      · subst he; exact h
      · exact h1 i hi (by omega)
    · have e : xBq p (n + 1) = n + 1 := by rw [xBq, if_neg h]
      rw [e]
      refine ⟨fun i hi hl => by omega, fun m hm => ?_⟩
      have : m = n := by omega
      subst this; exact h
theorem lt_up {c : UInt8} (h : c ≠ 255) : c < c + 1 := by
  rw [UInt8.lt_iff_toNat_lt]
  have h1 : c.toNat ≠ 255 := fun e => h (UInt8.toNat_inj.1 e)
  have h2 : c.toNat < 256 := c.toNat_lt
  rw [UInt8.toNat_add]
  simp
  omega
theorem up_le {c x : UInt8} (h : c ≠ 255) (hx : x < c + 1) : x ≤ c := by
  rw [UInt8.lt_iff_toNat_lt, UInt8.toNat_add] at hx
  rw [UInt8.le_iff_toNat_le]
  have h1 : c.toNat ≠ 255 := fun e => h (UInt8.toNat_inj.1 e)
  have h2 : c.toNat < 256 := c.toNat_lt
  simp at hx
  omega
theorem le_255 (x : UInt8) : x ≤ 255 := by
  rw [UInt8.le_iff_toNat_le]
  have := x.toNat_lt
  show x.toNat ≤ 255
  omega
theorem xGO : ∀ (p k : Str), (∀ c ∈ p, c = 255) → ble p k = true → xAF k p = true
  | [], k, _, _ => begins_iff.2 ⟨k, rfl⟩
  | c :: p, k, h, hk => by
    cases k with
    | nil =>
      rw [ble_iff] at hk
      rcases hk with hk | hk
      · rw [xB9] at hk; cases hk
      · cases hk
    | cons x k =>
      have hc : c = 255 := h c (by simp)
      subst hc
      have hx : ¬ (x < 255 ∨ x = 255 ∧ Op.bytesLess k p = true) := by
        intro h'
        have := blt_cons.2 h'
        simp [ble, this] at hk
      have hxe : x = 255 := UInt8.le_antisymm (le_255 x) (UInt8.not_lt.1 (fun h' => hx (.inl h')))
      subst hxe
      have : ble p k = true := by
        simp only [ble, Bool.not_eq_true']
        cases hb : Op.bytesLess k p with
        | false => rfl
        | true => exact absurd (.inr ⟨rfl, hb⟩) hx
      obtain ⟨r, rfl⟩ := begins_iff.1 (xGO p k (fun c hc => h c (by simp [hc])) this)
      exact begins_iff.2 ⟨r, rfl⟩
theorem xRA {a : Str} {c : UInt8} {q : Str} (hc : c ≠ 255) (hq : ∀ x ∈ q, x = 255) (k : Str) : (ble (a ++ c :: q) k = true ∧ Op.bytesLess k (a ++ [c + 1]) = true) ↔ xAF k (a ++ c :: q) = true := by
  constructor
  · rintro ⟨h1, h2⟩
    have ha : ∀ (a k : Str), ble (a ++ c :: q) k = true → Op.bytesLess k (a ++ [c + 1]) = true → ∃ r, k = a ++ r := by
      intro a
      induction a with
      | nil => intro k _ _; exact ⟨k, rfl⟩
      | cons x a ih =>
        intro k h1 h2
        cases k with
        | nil =>
          rw [ble_iff] at h1
          rcases h1 with h1 | h1
          · rw [xB9] at h1; cases h1
          · cases h1
        | cons y k =>
          rw [List.cons_append, blt_cons] at h2
          have h1' : ¬ (y < x ∨ y = x ∧ Op.bytesLess k (a ++ c :: q) = true) := by
            intro h'
            have := blt_cons.2 h'
            rw [List.cons_append] at h1
            simp [ble, this] at h1
          have hxy : y = x := by
            rcases h2 with h2 | ⟨h2, _⟩
            · exact absurd (.inl h2) h1'
            · exact h2
          subst hxy
          have h2' : Op.bytesLess k (a ++ [c + 1]) = true := by
            rcases h2 with h2 | ⟨_, h2⟩
            · exact absurd h2 (UInt8.lt_irrefl _)
            · exact h2
          have : ble (a ++ c :: q) k = true := by
            simp only [ble, Bool.not_eq_true']
            cases hb : Op.bytesLess k (a ++ c :: q) with
            | false => rfl
            | true => exact absurd (.inr ⟨rfl, hb⟩) h1'
          obtain ⟨r, rfl⟩ := ih k this h2'
          exact ⟨r, rfl⟩
    obtain ⟨r, rfl⟩ := ha a k h1 h2
    rw [xDY] at h1
    rw [xEj] at h2
    cases r with
    | nil =>
      rw [ble_iff] at h1
      rcases h1 with h1 | h1
      · rw [xB9] at h1; cases h1
      · cases h1
    | cons y r =>
      rw [blt_cons] at h2
      have hyc : y ≤ c := by
        rcases h2 with h2 | ⟨_, h2⟩
        · exact up_le hc h2
        · rw [xB9] at h2; cases h2
      have h1' : ¬ (y < c ∨ y = c ∧ Op.bytesLess r q = true) := by
        intro h'
        have := blt_cons.2 h'
        simp [ble, this] at h1
      have hye : y = c := UInt8.le_antisymm hyc (UInt8.not_lt.1 (fun h' => h1' (.inl h')))
      subst hye
      have : ble q r = true := by
        simp only [ble, Bool.not_eq_true']
        cases hb : Op.bytesLess r q with
        | false => rfl
        | true => exact absurd (.inr ⟨rfl, hb⟩) h1'
      obtain ⟨s, rfl⟩ := begins_iff.1 (xGO q r hq this)
      exact begins_iff.2 ⟨s, by simp⟩
  · intro h
    obtain ⟨r, rfl⟩ := begins_iff.1 h
    refine ⟨xDT _ _, ?_⟩
    rw [List.append_assoc, xEj, List.cons_append]
    exact blt_cons.2 (.inl (lt_up hc))
theorem xHO (p : Str) : (upL p = [] ∧ ∀ c ∈ p, c = 255) ∨ ∃ a c q, p = a ++ c :: q ∧ c ≠ 255 ∧ (∀ x ∈ q, x = 255) ∧ upL p = a ++ [c + 1] := by
  obtain ⟨h1, h2⟩ := xHP p p.length (Nat.le_refl _)
  have hle := xKY p p.length
  unfold upL
  cases hs : xBq p p.length with
  | zero =>
    left
    refine ⟨rfl, fun c hc => ?_⟩
    obtain ⟨i, hi⟩ := List.mem_iff_getElem?.1 hc
    have := h1 i (by omega) (List.getElem?_eq_some_iff.1 hi).1
    rw [hi] at this
    simpa using this
  | succ n =>
    right
    have hn : n < p.length := by omega
    have hg : p[n]? = some p[n] := List.getElem?_eq_getElem hn
    refine ⟨p.take n, p[n], p.drop (n + 1), ?_, ?_, ?_, ?_⟩
    · rw [← List.drop_eq_getElem_cons hn, List.take_append_drop]
    · intro e
      rw [e] at hg
      exact h2 n hs hg
    · intro x hx
      obtain ⟨i, hi⟩ := List.mem_iff_getElem?.1 hx
      rw [List.getElem?_drop] at hi
      have := h1 (n + 1 + i) (by omega) (List.getElem?_eq_some_iff.1 hi).1
      rw [hi] at this
      simpa using this
    · simp only [List.getD, hg, Option.getD_some]
theorem xAX (p k : Str) : hasL (xAH p) k = xAF k p := by
  rw [Bool.eq_iff_iff, has_iff]
  simp only [xAH]
  rcases xHO p with ⟨h1, h2⟩ | ⟨a, c, q, rfl, hc, hq, hu⟩
  · rw [h1]
    constructor
    · rintro ⟨h3, _⟩; exact xGO p k h2 h3
    · intro h
      obtain ⟨r, rfl⟩ := begins_iff.1 h
      exact ⟨xDT _ _, .inl rfl⟩
  · rw [hu, ← xRA hc hq k]
    constructor
    · rintro ⟨h3, h4 | h4⟩
      · simp at h4
      · exact ⟨h3, h4⟩
    · rintro ⟨h3, h4⟩; exact ⟨h3, .inr h4⟩
theorem xCl (p : Str) : xAJ (xAH p) = false := by
  cases h : xAJ (xAH p) with
  | false => rfl
  | true =>
    have := xAU h p
    rw [xAX, begins_iff.2 ⟨[], by simp⟩] at this
    cases this
theorem xFb (p : Str) : xAJ (oneL p) = false := by
  cases h : xAJ (oneL p) with
  | false => rfl
  | true =>
    have := xAU h p
    rw [xFG] at this
    simp at this
theorem xLo (p : Str) : (upL p).length ≤ p.length := by
  rcases xHO p with ⟨h1, _⟩ | ⟨a, c, q, rfl, _, _, hu⟩
  · rw [h1]; simp
  · rw [hu]; simp
theorem moved_app (f x t : Str) : xDO (f ++ x) f t = (t ++ x, true) := by
  have : xAF (f ++ x) f = true := begins_iff.2 ⟨x, rfl⟩
  simp [xDO, this]
theorem moved_not {k f t : Str} (h : xAF k f = false) : xDO k f t = ([], false) := by simp [xDO, h]
end Go.Pu
set_option linter.unusedVariables false
set_option linter.unusedSimpArgs false
namespace Go.Pu
theorem xEl {a b : Str} (h1 : ble a b = true) (h2 : ble b a = true) : a = b := by
  rcases ble_iff.1 h1 with h | h
  · rw [ble, Bool.not_eq_true', h] at h2; cases h2
  · exact h
def insI (s : SpanL) : List SpanL → List SpanL → Bool → List SpanL × Bool
  | [], o, d => (o, d)
  | y :: l, o, d => if d = false ∧ Op.bytesLess s.lo y.lo = true then insI s l (o ++ [s] ++ [y]) true else insI s l (o ++ [y]) d
def insS (l : List SpanL) (s : SpanL) : List SpanL :=
  if (insI s l [] (xAJ s)).2 = false then (insI s l [] (xAJ s)).1 ++ [s] else (insI s l [] (xAJ s)).1
def xJe (l : List SpanL) : List SpanL := l.foldl insS []
def xCU (out : List SpanL) (s : SpanL) : List SpanL :=
  match out[out.length - 1]? with
  | none => out ++ [s]
  | some x => if x.hi ≠ [] ∧ Op.bytesLess x.hi s.lo = true then out ++ [s] else if xDJ x.hi s.hi = true then out.set (out.length - 1) ⟨x.lo, s.hi⟩ else out
def xMC (l : List SpanL) : List SpanL := l.foldl xCU []
def xAn (l : List SpanL) : List SpanL := xMC (xJe l)
theorem xKB (s : SpanL) : ∀ (l o : List SpanL) (d : Bool), (insI s l o d).1.length = o.length + l.length + (if d = false ∧ (insI s l o d).2 = true then 1 else 0)
  | [], o, d => by cases d <;> simp [insI]
  | y :: l, o, d => by
    unfold insI
    split
    · rename_i h
      have h2 : ∀ (l o : List SpanL), (insI s l o true).2 = true := by
        intro l
        induction l with
        | nil => intro o; rfl
        | cons z l ih => intro o; unfold insI; rw [if_neg (by simp)]; exact ih _
      have := xKB s l (o ++ [s] ++ [y]) true
      rw [h2, h.1]
      simp at this ⊢
      omega
    · have := xKB s l (o ++ [y]) d
      simp only [List.length_append, List.length_cons, List.length_nil] at this ⊢
      omega
theorem xJ8 (l : List SpanL) (s : SpanL) : (insS l s).length ≤ l.length + 1 := by
  have := xKB s l [] (xAJ s)
  unfold insS
  generalize insI s l [] (xAJ s) = r at this
  generalize xAJ s = d at this
  obtain ⟨r1, r2⟩ := r
  cases r2 <;> cases d <;> simp at this ⊢ <;> omega
theorem xHQ (out : List SpanL) (s : SpanL) : (xCU out s).length ≤ out.length + 1 := by
  unfold xCU
  split
  · simp
  · split
    · simp
    · split
      · simp
      · omega
theorem xPr (l : List SpanL) : (xMC l).length ≤ l.length := by
  have key : ∀ (l o : List SpanL), (l.foldl xCU o).length ≤ o.length + l.length := by
    intro l
    induction l with
    | nil => intro o; exact Nat.le_refl _
    | cons s l ih =>
      intro o
      have := xHQ o s
      have := ih (xCU o s)
      simp only [List.foldl_cons, List.length_cons] at this ⊢
      omega
  have := key l []
  simpa [xMC] using this
def Lo (l : List SpanL) : Prop := l.Pairwise (fun a b => ble a.lo b.lo = true)
theorem xD7 (s : SpanL) : ∀ (l o : List SpanL) (d : Bool), insI s l o d = (o ++ (insI s l [] d).1, (insI s l [] d).2)
  | [], o, d => by simp [insI]
  | y :: l, o, d => by
    unfold insI
    split
    · rw [xD7 s l (o ++ [s] ++ [y]), xD7 s l ([] ++ [s] ++ [y])]; simp
    · rw [xD7 s l (o ++ [y]), xD7 s l ([] ++ [y])]; simp
def insP (s : SpanL) : List SpanL → List SpanL
  | [] => [s]
  | y :: l => if Op.bytesLess s.lo y.lo = true then s :: y :: l else y :: insP s l
theorem xH9 (s : SpanL) : ∀ (l : List SpanL), insI s l [] true = (l, true)
  | [] => rfl
  | y :: l => by
    unfold insI
    rw [if_neg (by simp), xD7, xH9 s l]; simp
theorem xUr (l : List SpanL) (s : SpanL) : insS l s = if xAJ s = true then l else insP s l := by
  unfold insS
  cases he : xAJ s with
  | true => rw [xH9]; simp
  | false =>
    have key : ∀ l : List SpanL, (if (insI s l [] false).2 = false then (insI s l [] false).1 ++ [s] else (insI s l [] false).1) = insP s l := by
      intro l
      induction l with
      | nil => simp [insI, insP]
      | cons y l ih =>
        have hI : insI s (y :: l) [] false = if Op.bytesLess s.lo y.lo = true then (s :: y :: l, true) else (y :: (insI s l [] false).1, (insI s l [] false).2) := by
          rw [insI]
          by_cases h : Op.bytesLess s.lo y.lo = true
          · rw [if_pos ⟨rfl, h⟩, if_pos h, xD7, xH9]; simp
          · rw [if_neg (by simp [h]), if_neg h, xD7]; simp
        rw [hI, insP]
        by_cases h : Op.bytesLess s.lo y.lo = true
        · rw [if_pos h, if_pos h]; simp
        · rw [if_neg h, if_neg h, ← ih]
          cases h2 : (insI s l [] false).2 <;> simp [h2]
    simpa using key l
theorem insP_mem {s x : SpanL} : ∀ {l : List SpanL}, x ∈ insP s l ↔ x = s ∨ x ∈ l
  | [] => by simp [insP]
  | y :: l => by
    unfold insP
    split
    · simp
    · simp only [List.mem_cons, insP_mem (l := l)]
      constructor
      · rintro (h | h | h)
        · exact .inr (.inl h)
        · exact .inl h
        · exact .inr (.inr h)
      · rintro (h | h | h)
        · exact .inr (.inl h)
        · exact .inl h
        · exact .inr (.inr h)
theorem xQP {s : SpanL} : ∀ {l : List SpanL}, Lo l → Lo (insP s l)
  | [], _ => by simp [insP, Lo]
  | y :: l, h => by
    unfold insP
    obtain ⟨h1, h2⟩ := List.pairwise_cons.1 h
    split
    · rename_i hb
      refine List.pairwise_cons.2 ⟨fun z hz => ?_, h⟩
      have hsy : ble s.lo y.lo = true := ble_iff.2 (.inl hb)
      rcases List.mem_cons.1 hz with rfl | hz
      · exact hsy
      · exact xBC hsy (h1 z hz)
    · rename_i hb
      refine List.pairwise_cons.2 ⟨fun z hz => ?_, xQP h2⟩
      rcases insP_mem.1 hz with rfl | hz
      · simp [ble, hb]
      · exact h1 z hz
theorem xFx (l : List SpanL) : Lo (xJe l) ∧ (∀ s ∈ xJe l, xAJ s = false) ∧ ∀ s, s ∈ xJe l ↔ s ∈ l ∧ xAJ s = false := by
  have key : ∀ (l o : List SpanL), Lo o → (∀ s ∈ o, xAJ s = false) → Lo (l.foldl insS o) ∧ (∀ s ∈ l.foldl insS o, xAJ s = false) ∧ ∀ s, s ∈ l.foldl insS o ↔ s ∈ o ∨ (s ∈ l ∧ xAJ s = false) := by
    intro l
    induction l with
    | nil => intro o h1 h2; exact ⟨h1, h2, fun s => by simp⟩
    | cons x l ih =>
      intro o h1 h2
      have hx := xUr o x
      cases he : xAJ x with
      | true =>
        rw [he, if_pos rfl] at hx
        obtain ⟨g1, g2, g3⟩ := ih o h1 h2
        rw [List.foldl_cons, hx]
        refine ⟨g1, g2, fun s => (g3 s).trans ?_⟩
        constructor
        · rintro (h | ⟨h, h'⟩)
          · exact .inl h
          · exact .inr ⟨by simp [h], h'⟩
        · rintro (h | ⟨h, h'⟩)
          · exact .inl h
          · rcases List.mem_cons.1 h with rfl | h
            · rw [he] at h'; cases h'
            · exact .inr ⟨h, h'⟩
      | false =>
        rw [he, if_neg (by simp)] at hx
        obtain ⟨g1, g2, g3⟩ := ih (insP x o) (xQP h1) (fun s hs => by rcases insP_mem.1 hs with rfl | hs; exact he; exact h2 s hs)
        rw [List.foldl_cons, hx]
        refine ⟨g1, g2, fun s => (g3 s).trans ?_⟩
        rw [insP_mem]
        constructor
        · rintro ((h | h) | ⟨h, h'⟩)
          · subst h; exact .inr ⟨by simp, he⟩
          · exact .inl h
          · exact .inr ⟨by simp [h], h'⟩
        · rintro (h | ⟨h, h'⟩)
          · exact .inl (.inr h)
          · rcases List.mem_cons.1 h with rfl | h
            · exact .inl (.inl rfl)
            · exact .inr ⟨h, h'⟩
  obtain ⟨h1, h2, h3⟩ := key l [] List.Pairwise.nil (by simp)
  exact ⟨h1, h2, fun s => (h3 s).trans (by simp)⟩
def inL (l : List SpanL) (k : Str) : Bool := l.any (fun s => hasL s k)
theorem inL_iff {l : List SpanL} {k : Str} : inL l k = true ↔ ∃ s ∈ l, hasL s k = true := by simp [inL]
def sep (a b : SpanL) : Prop := a.hi ≠ [] ∧ Op.bytesLess a.hi b.lo = true
structure Nrm (l : List SpanL) : Prop where
  ne : ∀ s ∈ l, xAJ s = false
  pw : l.Pairwise sep
theorem Nrm.tail {s : SpanL} {l : List SpanL} (h : Nrm (s :: l)) : Nrm l := ⟨fun t ht => h.ne t (by simp [ht]), (List.pairwise_cons.1 h.pw).2⟩
theorem xBM {s : SpanL} (h : xAJ s = false) (hh : s.hi ≠ []) : Op.bytesLess s.lo s.hi = true := by
  have := (has_iff.1 (xDQ h)).2
  rcases this with h1 | h1
  · exact absurd h1 hh
  · exact h1
theorem Nrm.above {s : SpanL} {l : List SpanL} (h : Nrm (s :: l)) {k : Str} (hk : inL l k = true) : s.hi ≠ [] ∧ Op.bytesLess s.hi k = true := by
  obtain ⟨t, ht, hk⟩ := inL_iff.1 hk
  obtain ⟨h1, h2⟩ := (List.pairwise_cons.1 h.pw).1 t ht
  exact ⟨h1, xAb h2 (has_iff.1 hk).1⟩
theorem xAW {s : SpanL} {l : List SpanL} {k : Str} : inL (s :: l) k = (hasL s k || inL l k) := by simp [inL]
theorem Nrm.ext : ∀ {l m : List SpanL}, Nrm l → Nrm m → (∀ k, inL l k = inL m k) → l = m
  | [], [], _, _, _ => rfl
  | [], t :: m, _, h, hk => by
    have := hk t.lo
    rw [xAW, xDQ (h.ne t (by simp))] at this
    simp [inL] at this
  | s :: l, [], h, _, hk => by
    have := hk s.lo
    rw [xAW, xDQ (h.ne s (by simp))] at this
    simp [inL] at this
  | s :: l, t :: m, h, g, hk => by
    have least : ∀ {s : SpanL} {l : List SpanL}, Nrm (s :: l) → ∀ {k : Str}, inL (s :: l) k = true → ble s.lo k = true := by
      intro s l h k hk
      rw [xAW, Bool.or_eq_true] at hk
      rcases hk with hk | hk
      · exact (has_iff.1 hk).1
      · obtain ⟨h1, h2⟩ := h.above hk
        exact ble_iff.2 (.inl (xAk (xBM (h.ne s (by simp)) h1) h2))
    have hlo : s.lo = t.lo := by
      have h1 := least h (k := t.lo) (by rw [hk, xAW, xDQ (g.ne t (by simp))]; rfl)
      have h2 := least g (k := s.lo) (by rw [← hk, xAW, xDQ (h.ne s (by simp))]; rfl)
      exact xEl h1 h2
    have ends : ∀ {s t : SpanL} {l m : List SpanL}, Nrm (s :: l) → Nrm (t :: m) → (∀ k, inL (s :: l) k = inL (t :: m) k) → s.lo = t.lo → ¬ elt s.hi t.hi := by
      intro s t l m h g hk hlo he
      have hs := xBM (h.ne s (by simp)) he.1
      have h1 : hasL t s.hi = true := has_iff.2 ⟨ble_iff.2 (.inl (hlo ▸ hs)), he.2⟩
      have h2 := hk s.hi
      rw [xAW (s := t), h1, xAW] at h2
      have h3 : hasL s s.hi = false := by
        cases h4 : hasL s s.hi with
        | false => rfl
        | true =>
          rcases (has_iff.1 h4).2 with h5 | h5
          · exact absurd h5 he.1
          · rw [xAq] at h5; cases h5
      rw [h3] at h2
      have h4 : inL l s.hi = true := by simpa using h2
      have := (h.above h4).2
      rw [xAq] at this; cases this
    have hhi : s.hi = t.hi := by
      rcases xQg s.hi t.hi with e | e | e
      · exact absurd e (ends h g hk hlo)
      · exact e
      · exact absurd e (ends g h (fun k => (hk k).symm) hlo.symm)
    have hst : s = t := by cases s; cases t; simp_all
    subst hst
    rw [Nrm.ext h.tail g.tail (fun k => ?_)]
    have := hk k
    rw [xAW, xAW] at this
    cases hs : hasL s k with
    | false => rw [hs] at this; simpa using this
    | true =>
      have no : ∀ {l : List SpanL}, Nrm (s :: l) → inL l k = false := by
        intro l h
        cases hl : inL l k with
        | false => rfl
        | true =>
          obtain ⟨h1, h2⟩ := h.above hl
          rcases (has_iff.1 hs).2 with h3 | h3
          · exact absurd h3 h1
          · rw [xB1 h2] at h3; cases h3
      rw [no h, no g]
theorem xEM (o : List SpanL) (x s : SpanL) : xCU (o ++ [x]) s = if x.hi ≠ [] ∧ Op.bytesLess x.hi s.lo = true then o ++ [x] ++ [s] else if xDJ x.hi s.hi = true then o ++ [⟨x.lo, s.hi⟩] else o ++ [x] := by
  unfold xCU
  simp
theorem xF4 : ∀ (l o : List SpanL), Nrm o → Lo l → (∀ s ∈ l, xAJ s = false) → (∀ x ∈ o, ∀ s ∈ l, ble x.lo s.lo = true) → Nrm (l.foldl xCU o) ∧ ∀ k, inL (l.foldl xCU o) k = (inL o k || inL l k)
  | [], o, h, _, _, _ => ⟨h, fun k => by simp [inL]⟩
  | s :: l, o, h, hl, hne, hb => by
    obtain ⟨hl1, hl2⟩ := List.pairwise_cons.1 hl
    have hse := hne s (by simp)
    have go : ∀ o', Nrm o' → (∀ x ∈ o', ∀ t ∈ l, ble x.lo t.lo = true) → (∀ k, inL o' k = (inL o k || hasL s k)) → xCU o s = o' → Nrm ((s :: l).foldl xCU o) ∧ ∀ k, inL ((s :: l).foldl xCU o) k = (inL o k || inL (s :: l) k) := by
      intro o' h1 h2 h3 h4
      obtain ⟨g1, g2⟩ := xF4 l o' h1 hl2 (fun t ht => hne t (by simp [ht])) h2
      rw [List.foldl_cons, h4]
      refine ⟨g1, fun k => ?_⟩
      rw [g2, h3, xAW, Bool.or_assoc]
    rcases List.eq_nil_or_concat o with rfl | ⟨p, x, rfl⟩
    · exact go [s] ⟨by simpa using hse, by simp⟩ (by simpa using hl1) (fun k => by simp [inL]) rfl
    · rw [List.concat_eq_append] at *
      have hxs := hb x (by simp) s (by simp)
      have hxe := h.ne x (by simp)
      have hpx : ∀ y ∈ p, sep y x := fun y hy => (List.pairwise_append.1 h.pw).2.2 y hy x (by simp)
      have hpp := (List.pairwise_append.1 h.pw).1
      have inA : ∀ (q : List SpanL) (y : SpanL) (k : Str), inL (q ++ [y]) k = (inL q k || hasL y k) := by intro q y k; simp [inL]
      by_cases h1 : x.hi ≠ [] ∧ Op.bytesLess x.hi s.lo = true
      · refine go (p ++ [x] ++ [s]) ⟨fun t ht => ?_, ?_⟩ (fun y hy t ht => ?_) (fun k => by rw [inA]) (by rw [xEM, if_pos h1])
        · rcases List.mem_append.1 ht with ht | ht
          · exact h.ne t ht
          · rw [List.mem_singleton.1 ht]; exact hse
        · refine List.pairwise_append.2 ⟨h.pw, by simp, fun y hy t ht => ?_⟩
          rw [List.mem_singleton.1 ht]
          rcases List.mem_append.1 hy with hy | hy
          · obtain ⟨g1, g2⟩ := hpx y hy
            exact ⟨g1, xAb g2 hxs⟩
          · rw [List.mem_singleton.1 hy]; exact h1
        · rcases List.mem_append.1 hy with hy | hy
          · exact hb y hy t (by simp [ht])
          · rw [List.mem_singleton.1 hy]; exact hl1 t ht
      · -- s begins in x or at its end
        have hin : x.hi = [] ∨ ble s.lo x.hi = true := by
          by_cases hx : x.hi = []
          · exact .inl hx
          · right
            have : ¬ Op.bytesLess x.hi s.lo = true := fun h' => h1 ⟨hx, h'⟩
            simp [ble, this]
        by_cases h2 : xDJ x.hi s.hi = true
        · have he := less_iff.1 h2
          have hx0 := he.1
          have hsx : ble s.lo x.hi = true := by rcases hin with h' | h'; exact absurd h' hx0; exact h'
          have hxlt := xBM hxe hx0
          have hnew : xAJ ⟨x.lo, s.hi⟩ = false := by
            cases h' : xAJ ⟨x.lo, s.hi⟩ with
            | false => rfl
            | true =>
              obtain ⟨g1, g2⟩ := empty_iff.1 h'
              rcases he.2 with h'' | h''
              · exact absurd h'' g1
              · have := xAb (xAk hxlt h'') g2
                rw [xAq] at this; cases this
          refine go (p ++ [⟨x.lo, s.hi⟩]) ⟨fun t ht => ?_, ?_⟩ (fun y hy t ht => ?_) (fun k => ?_) (by rw [xEM, if_neg h1, if_pos h2])
          · rcases List.mem_append.1 ht with ht | ht
            · exact h.ne t (by simp [ht])
            · rw [List.mem_singleton.1 ht]; exact hnew
          · refine List.pairwise_append.2 ⟨hpp, by simp, fun y hy t ht => ?_⟩
            rw [List.mem_singleton.1 ht]
            exact hpx y hy
          · rcases List.mem_append.1 hy with hy | hy
            · exact hb y (by simp [hy]) t (by simp [ht])
            · rw [List.mem_singleton.1 hy]; exact hb x (by simp) t (by simp [ht])
          · rw [inA, inA, Bool.or_assoc]
            congr 1
            rw [Bool.eq_iff_iff, Bool.or_eq_true, has_iff, has_iff, has_iff]
            simp only
            constructor
            · rintro ⟨g1, g2⟩
              cases hk : Op.bytesLess k x.hi with
              | true => exact .inl ⟨g1, .inr rfl⟩
              | false => exact .inr ⟨xBC hsx (by simp [ble, hk]), g2⟩
            · rintro (⟨g1, g2⟩ | ⟨g1, g2⟩)
              · refine ⟨g1, ?_⟩
                rcases g2 with g2 | g2
                · exact absurd g2 hx0
                · rcases he.2 with h' | h'
                  · exact .inl h'
                  · exact .inr (xAk g2 h')
              · exact ⟨xBC hxs g1, g2⟩
        · have hne2 : ¬ elt x.hi s.hi := fun h' => h2 (less_iff.2 h')
          refine go (p ++ [x]) h (fun y hy t ht => hb y hy t (by simp [ht])) (fun k => ?_) (by rw [xEM, if_neg h1, if_neg h2])
          have : hasL s k = true → hasL x k = true := by
            rw [has_iff, has_iff]
            rintro ⟨g1, g2⟩
            refine ⟨xBC hxs g1, ?_⟩
            by_cases hx : x.hi = []
            · exact .inl hx
            · right
              rcases g2 with g2 | g2
              · exact absurd ⟨hx, .inl g2⟩ hne2
              · rcases xBv x.hi s.hi with h' | h' | h'
                · exact absurd ⟨hx, .inr h'⟩ hne2
                · rw [h']; exact g2
                · exact xAk g2 h'
          rw [inA]
          cases hs : hasL s k with
          | false => simp
          | true => rw [this hs]; simp
theorem xA6 (l : List SpanL) : Nrm (xAn l) ∧ ∀ k, inL (xAn l) k = inL l k := by
  obtain ⟨h1, h2, h3⟩ := xFx l
  obtain ⟨g1, g2⟩ := xF4 (xJe l) [] ⟨by simp, by simp⟩ h1 h2 (by simp)
  refine ⟨g1, fun k => (g2 k).trans ?_⟩
  rw [show inL [] k = false from rfl, Bool.false_or, Bool.eq_iff_iff, inL_iff, inL_iff]
  constructor
  · rintro ⟨s, hs, hk⟩; exact ⟨s, ((h3 s).1 hs).1, hk⟩
  · rintro ⟨s, hs, hk⟩
    refine ⟨s, (h3 s).2 ⟨hs, ?_⟩, hk⟩
    cases he : xAJ s with
    | false => rfl
    | true => rw [xAU he] at hk; cases hk
theorem xPs {l m : List SpanL} (hm : Lo m) (hp : m.Perm (l.filter (fun s => !xAJ s))) : xMC m = xAn l := by
  have he : ∀ s ∈ m, xAJ s = false := fun s hs => by have := hp.mem_iff.1 hs; simp at this; exact this.2
  obtain ⟨g1, g2⟩ := xF4 m [] ⟨by simp, by simp⟩ hm he (by simp)
  obtain ⟨r1, r2⟩ := xA6 l
  refine Nrm.ext g1 r1 (fun k => ?_)
  show inL (m.foldl xCU []) k = _
  rw [g2, r2, show inL [] k = false from rfl, Bool.false_or, Bool.eq_iff_iff, inL_iff, inL_iff]
  constructor
  · rintro ⟨s, hs, hk⟩
    have := hp.mem_iff.1 hs
    exact ⟨s, (List.mem_filter.1 this).1, hk⟩
  · rintro ⟨s, hs, hk⟩
    refine ⟨s, hp.mem_iff.2 (List.mem_filter.2 ⟨hs, ?_⟩), hk⟩
    cases he : xAJ s with
    | false => rfl
    | true => rw [xAU he] at hk; cases hk
end Go.Pu
set_option linter.unusedVariables false
set_option linter.unusedSimpArgs false
namespace Go.Pu
instance : Inhabited SpanL := ⟨⟨[], []⟩⟩
section
variable {α : Type} [Inhabited α]
theorem gb {xs : List α} {i : Nat} {x : α} (h : xs[i]? = some x) : xs.toArray[i]! = x := by
  simp [h]
theorem xCA {xs : List α} {i j : Nat} {x y : α} (hx : xs[i]? = some x) (hy : xs[j]? = some y) : Sort.swp xs.toArray i j = ((xs.set i y).set j x).toArray := by
  unfold Sort.swp
  rw [gb hx, gb hy]
  simp
theorem xCq (lt : α → α → Bool) (hi first root : Nat) (d : Array α) : (Sort.siftDown lt hi first root d).size = d.size := by
  fun_induction Sort.siftDown lt hi first root d <;> simp_all [Sort.size_swp]
theorem xE6 (lt : α → α → Bool) (hi first : Nat) : ∀ (k : Nat) (d : Array α), (Sort.heapBuild lt hi first k d).size = d.size
  | 0, d => rfl
  | k + 1, d => by rw [Sort.heapBuild, xE6 lt hi first k, xCq]
end
def ltS (a b : SpanL) : Bool := decide (xCS a.lo b.lo < 0)
theorem xNE (a b : SpanL) : ltS a b = Op.bytesLess a.lo b.lo := by
  rw [Bool.eq_iff_iff, ltS, decide_eq_true_eq, cmpStr_lt]
theorem xP9 : Sort.SWO ltS where
  irrefl x := by rw [xNE, xAq]
  trans x y z h1 h2 := by rw [xNE] at *; exact xAk h1 h2
  ntrans x y z h1 h2 := by
    rw [xNE] at *
    have g1 : ble y.lo x.lo = true := by simp [ble, h1]
    have g2 : ble z.lo y.lo = true := by simp [ble, h2]
    have := xBC g2 g1
    simpa [ble] using this
end Go.Pu
set_option linter.unusedVariables false
set_option linter.unusedSimpArgs false
namespace Go.Pu
section
variable {α : Type} [Inhabited α]
theorem xDV (lt : α → α → Bool) : ∀ (j : Nat) (d : Array α), (Sort.shiftDown lt j d).size = d.size
  | 0, d => rfl
  | j + 1, d => by
    rw [Sort.shiftDown]
    split
    · rfl
    · rw [xDV lt j, Sort.size_swp]
theorem xKe (lt : α → α → Bool) (b j : Nat) (d : Array α) : (Sort.shiftUp lt b j d).size = d.size := by
  fun_induction Sort.shiftUp lt b j d <;> simp_all [Sort.size_swp]
theorem xC5 (lt : α → α → Bool) (a b : Nat) : ∀ (s i : Nat) (d : Array α), (Sort.partialIns lt a b s i d).1.size = d.size
  | 0, i, d => rfl
  | s + 1, i, d => by
    rw [Sort.partialIns]
    simp only
    split
    · rfl
    · split
      · rfl
      · rw [xC5 lt a b s]
        split
        · rw [xKe]
          split
          · rw [xDV, Sort.size_swp]
          · rw [Sort.size_swp]
        · split
          · rw [xDV, Sort.size_swp]
          · rw [Sort.size_swp]
theorem xKx (lt : α → α → Bool) {d : Array α} {a b pivot : Nat} (h1 : a ≤ pivot) (h2 : pivot < b) (hb : b ≤ d.size) : a < (Sort.partitionEqual lt d a b pivot).1 ∧ (Sort.partitionEqual lt d a b pivot).1 ≤ b ∧ (Sort.partitionEqual lt d a b pivot).2.size = d.size := by
  obtain ⟨g1, g2, g3, _⟩ := Sort.partEqLoop_spec (lt := lt) a b (b - 1 + 1 - (a + 1)) (a + 1) (b - 1) (Sort.swp d a pivot) (Nat.le_refl _) (by omega) (by omega) (by omega) (by rw [Sort.size_swp]; exact hb) (fun t h h' => by omega) (fun t h h' => by omega)
  exact ⟨g1, g2, by have := g3.1; rw [Sort.size_swp] at this; exact this⟩
theorem xFl (lt : α → α → Bool) (a : Nat) : ∀ (j : Nat) (d : Array α), (Sort.insInner lt a j d).size = d.size
  | 0, d => rfl
  | j + 1, d => by
    rw [Sort.insInner]
    split
    · rw [xFl lt a j, Sort.size_swp]
    · rfl
theorem xJ9 (lt : α → α → Bool) (a b i : Nat) (d : Array α) : (Sort.insOuter lt a b i d).size = d.size := by
  fun_induction Sort.insOuter lt a b i d <;> simp_all [xFl]
theorem xGg (lt : α → α → Bool) (first : Nat) : ∀ (k : Nat) (d : Array α), (Sort.heapPop lt first k d).size = d.size
  | 0, d => rfl
  | k + 1, d => by rw [Sort.heapPop, xGg lt first k, xCq, Sort.size_swp]
theorem xKE (lt : α → α → Bool) (d : Array α) (a b : Nat) : (Sort.heapSort lt d a b).size = d.size := by
  unfold Sort.heapSort
  rw [xGg, xE6]
theorem xGr (i j : Nat) (d : Array α) : (Sort.reverseLoop i j d).size = d.size := by
  fun_induction Sort.reverseLoop i j d <;> simp_all [Sort.size_swp]
theorem xKk (d : Array α) (a b : Nat) : (Sort.reverseRange d a b).size = d.size := xGr _ _ _
theorem xOX (d : Array α) (a b : Nat) : (Sort.breakPatterns d a b).size = d.size := by
  unfold Sort.breakPatterns Sort.breakStep
  simp only
  split
  · simp [Sort.size_swp]
  · rfl
theorem xJp (lt : α → α → Bool) (a i j : Nat) (d : Array α) : (Sort.partLoop lt a i j d).2.size = d.size := by
  fun_induction Sort.partLoop lt a i j d <;> simp_all [Sort.size_swp]
theorem xHf (lt : α → α → Bool) (a i j : Nat) (d : Array α) : (Sort.partEqLoop lt a i j d).2.size = d.size := by
  fun_induction Sort.partEqLoop lt a i j d <;> simp_all [Sort.size_swp]
theorem xDW (lt : α → α → Bool) (d : Array α) (a b p : Nat) : (Sort.partition lt d a b p).2.2.size = d.size := by
  unfold Sort.partition
  simp only
  split
  · simp [Sort.size_swp]
  · simp [Sort.size_swp, xJp]
theorem xC4 (lt : α → α → Bool) (d : Array α) (a b p : Nat) : (Sort.partitionEqual lt d a b p).2.size = d.size := by
  unfold Sort.partitionEqual
  rw [xHf, Sort.size_swp]
end
end Go.Pu
set_option linter.unusedVariables false
set_option linter.unusedSimpArgs false
namespace Go.Pu
def ne (s : SpanL) : Bool := !xAJ s
def delL (xs : List SpanL) : List SpanL := xs.filter ne ++ List.replicate (xs.length - (xs.filter ne).length) ⟨[], []⟩
def xBt (xs : List SpanL) : Array SpanL := Sort.pdq ltS (delL xs).toArray 0 (xs.filter ne).length (Sort.bitsLen (xs.filter ne).length) true true
theorem xNb (xs : List SpanL) : (delL xs).length = xs.length := by
  have := List.length_filter_le ne xs
  simp [delL]; omega
theorem xKa (xs : List SpanL) : (xBt xs).size = xs.length ∧ xMC ((xBt xs).toList.take (xs.filter ne).length) = xAn xs := by
  have hk : (xs.filter ne).length ≤ (delL xs).toArray.size := by simp [delL]
  obtain ⟨h1, h2⟩ := Sort.pdq_sorts ltS xP9 (delL xs).toArray 0 (xs.filter ne).length (Sort.bitsLen (xs.filter ne).length) true true (Nat.zero_le _) hk (.inl rfl)
  obtain ⟨g1, _, g3⟩ := h1
  have hs : (xBt xs).size = xs.length := by unfold xBt; rw [g1]; simp [xNb]
  refine ⟨hs, xPs ?_ ?_⟩
  · refine List.pairwise_iff_getElem.2 fun i j hi hj hij => ?_
    simp only [List.length_take, Array.length_toList] at hi hj
    rw [List.getElem_take, List.getElem_take, Array.getElem_toList, Array.getElem_toList]
    have := h2 i j (Nat.zero_le _) hij (by omega)
    rw [xNE] at this
    have e1 : (xBt xs)[i]! = (xBt xs)[i] := getElem!_pos (xBt xs) i (by omega)
    have e2 : (xBt xs)[j]! = (xBt xs)[j] := getElem!_pos (xBt xs) j (by omega)
    have h3 : Op.bytesLess (xBt xs)[j]!.lo (xBt xs)[i]!.lo = false := this
    rw [e1, e2] at h3
    simp [ble, h3]
  · have : ((delL xs).toArray.extract 0 (xs.filter ne).length).toList = xs.filter ne := by simp [delL]
    rw [this] at g3
    have e : ((xBt xs).extract 0 (xs.filter ne).length).toList = (xBt xs).toList.take (xs.filter ne).length := by simp
    rw [← e]
    exact g3
end Go.Pu
set_option linter.unusedVariables false
namespace Go.Pu
theorem xE7 : ∀ (l o : List SpanL), (l.foldl insS o).length ≤ o.length + l.length
  | [], o => by simp
  | s :: l, o => by
    rw [List.foldl_cons, List.length_cons]
    have h1 := xE7 l (insS o s)
    have h2 := xJ8 o s
    omega
theorem xEQ (l : List SpanL) : (xAn l).length ≤ l.length := by
  have h1 := xPr (xJe l)
  have h2 := xE7 l []
  unfold xAn
  unfold xJe at *
  simp only [List.length_nil] at h2
  omega
theorem xRX (o : List SpanL) (s t : SpanL) (h : t ∈ xCU o s) : (∃ x ∈ o, x.lo = t.lo) ∨ t.lo = s.lo := by
  rcases List.eq_nil_or_concat o with rfl | ⟨o, x, rfl⟩
  · right
    have : t = s := by simpa [xCU] using h
    rw [this]
  · rw [List.concat_eq_append, xEM] at h
    split at h
    · rcases List.mem_append.1 h with h | h
      · exact .inl ⟨t, by simpa using h, rfl⟩
      · exact .inr (by rw [List.mem_singleton.1 h])
    · split at h
      · rcases List.mem_append.1 h with h | h
        · exact .inl ⟨t, by simp [h], rfl⟩
        · exact .inl ⟨x, by simp, by rw [List.mem_singleton.1 h]⟩
      · exact .inl ⟨t, by simpa using h, rfl⟩
theorem xM0 : ∀ (l o : List SpanL) (t : SpanL), t ∈ l.foldl xCU o → (∃ x ∈ o, x.lo = t.lo) ∨ ∃ x ∈ l, x.lo = t.lo
  | [], o, t, h => .inl ⟨t, h, rfl⟩
  | s :: l, o, t, h => by
    rw [List.foldl_cons] at h
    rcases xM0 l _ t h with ⟨x, hx, hxt⟩ | ⟨x, hx, hxt⟩
    · rcases xRX o s x hx with ⟨y, hy, hyx⟩ | h2
      · exact .inl ⟨y, hy, hyx.trans hxt⟩
      · exact .inr ⟨s, by simp, h2.symm.trans hxt⟩
    · exact .inr ⟨x, by simp [hx], hxt⟩
theorem xFY {l : List SpanL} {t : SpanL} (h : t ∈ xAn l) : ∃ x ∈ l, x.lo = t.lo ∧ xAJ x = false := by
  rcases xM0 _ _ t h with ⟨x, hx, _⟩ | ⟨x, hx, hxt⟩
  · exact absurd hx (by simp)
  · have := ((xFx l).2.2 x).1 hx
    exact ⟨x, this.1, hxt, this.2⟩
theorem xRY (o : List SpanL) (s t : SpanL) (h : t ∈ xCU o s) : (∃ x ∈ o, x.hi = t.hi) ∨ t.hi = s.hi := by
  rcases List.eq_nil_or_concat o with rfl | ⟨o, x, rfl⟩
  · right
    have : t = s := by simpa [xCU] using h
    rw [this]
  · rw [List.concat_eq_append, xEM] at h
    split at h
    · rcases List.mem_append.1 h with h | h
      · exact .inl ⟨t, by simpa using h, rfl⟩
      · exact .inr (by rw [List.mem_singleton.1 h])
    · split at h
      · rcases List.mem_append.1 h with h | h
        · exact .inl ⟨t, by simp [h], rfl⟩
        · exact .inr (by rw [List.mem_singleton.1 h])
      · exact .inl ⟨t, by simpa using h, rfl⟩
theorem xM1 : ∀ (l o : List SpanL) (t : SpanL), t ∈ l.foldl xCU o → (∃ x ∈ o, x.hi = t.hi) ∨ ∃ x ∈ l, x.hi = t.hi
  | [], o, t, h => .inl ⟨t, h, rfl⟩
  | s :: l, o, t, h => by
    rw [List.foldl_cons] at h
    rcases xM1 l _ t h with ⟨x, hx, hxt⟩ | ⟨x, hx, hxt⟩
    · rcases xRY o s x hx with ⟨y, hy, hyx⟩ | h2
      · exact .inl ⟨y, hy, hyx.trans hxt⟩
      · exact .inr ⟨s, by simp, h2.symm.trans hxt⟩
    · exact .inr ⟨x, by simp [hx], hxt⟩
theorem xJh {l : List SpanL} {t : SpanL} (h : t ∈ xAn l) : ∃ x ∈ l, x.hi = t.hi := by
  rcases xM1 _ _ t h with ⟨x, hx, _⟩ | ⟨x, hx, hxt⟩
  · exact absurd hx (by simp)
  · exact ⟨x, (((xFx l).2.2 x).1 hx).1, hxt⟩
def xDC : Str → List SpanL → List SpanL → List SpanL
  | lo, [], out => out ++ [⟨lo, []⟩]
  | lo, s :: l, out => if s.hi = [] then (if s.lo = [] then out else out ++ [⟨lo, s.lo⟩]) else xDC s.hi l (if s.lo = [] then out else out ++ [⟨lo, s.lo⟩])
theorem xIG : ∀ (l : List SpanL) (lo : Str) (out : List SpanL), (xDC lo l out).length ≤ out.length + l.length + 1
  | [], lo, out => by simp [xDC]
  | s :: l, lo, out => by
    have h2 : (if s.lo = [] then out else out ++ [⟨lo, s.lo⟩]).length ≤ out.length + 1 := by split <;> simp
    rw [xDC, List.length_cons]
    generalize (if s.lo = [] then out else out ++ [(⟨lo, s.lo⟩ : SpanL)]) = o2 at *
    split
    · omega
    · have := xIG l s.hi o2
      omega
theorem xHA : ∀ (l : List SpanL) (lo : Str) (out : List SpanL) (t : SpanL), t ∈ xDC lo l out → t ∈ out ∨ t.lo = lo ∨ ∃ x ∈ l, x.hi = t.lo
  | [], lo, out, t, h => by
    rw [xDC] at h
    rcases List.mem_append.1 h with h | h
    · exact .inl h
    · exact .inr (.inl (by rw [List.mem_singleton.1 h]))
  | s :: l, lo, out, t, h => by
    have h2 : t ∈ (if s.lo = [] then out else out ++ [⟨lo, s.lo⟩]) → t ∈ out ∨ t.lo = lo := by
      split
      · exact .inl
      · intro h
        rcases List.mem_append.1 h with h | h
        · exact .inl h
        · exact .inr (by rw [List.mem_singleton.1 h])
    rw [xDC] at h
    generalize (if s.lo = [] then out else out ++ [(⟨lo, s.lo⟩ : SpanL)]) = o2 at *
    split at h
    · rcases h2 h with h | h
      · exact .inl h
      · exact .inr (.inl h)
    · rcases xHA l s.hi o2 t h with h | h | ⟨x, hx, hxt⟩
      · rcases h2 h with h | h
        · exact .inl h
        · exact .inr (.inl h)
      · exact .inr (.inr ⟨s, by simp, h.symm⟩)
      · exact .inr (.inr ⟨x, by simp [hx], hxt⟩)
theorem xAo {a b : List SpanL} {k : Str} : inL (a ++ b) k = (inL a k || inL b k) := by simp [inL]
theorem xIF {lo hi k : Str} (h : hi ≠ []) : hasL ⟨lo, hi⟩ k = (ble lo k && Op.bytesLess k hi) := by
  have : (hi == []) = false := by simpa using h
  simp only [hasL, ble, this, Bool.false_or]
theorem xG9 {lo k : Str} : hasL ⟨lo, []⟩ k = ble lo k := by simp [hasL, ble]
theorem xJK : ∀ (l : List SpanL) (lo : Str) (out : List SpanL) (k : Str), Nrm l → (∀ x, inL l x = true → ble lo x = true) →
    inL (xDC lo l out) k = (inL out k || (ble lo k && !inL l k))
  | [], lo, out, k, _, _ => by
    rw [xDC, xAo]
    simp [inL, xG9]
  | s :: l, lo, out, k, hn, ha => by
    have hls : ble lo s.lo = true := ha s.lo (by rw [xAW, xDQ (hn.ne s (by simp))]; rfl)
    have h2 : inL (if s.lo = [] then out else out ++ [⟨lo, s.lo⟩]) k = (inL out k || (ble lo k && Op.bytesLess k s.lo)) := by
      split
      · next h => rw [h]; simp [xB9]
      · next h => rw [xAo]; simp [inL, xIF h]
    rw [xDC, xAW]
    generalize (if s.lo = [] then out else out ++ [(⟨lo, s.lo⟩ : SpanL)]) = o2 at *
    have hnl : inL l k = true → Op.bytesLess k s.lo = true → False := by
      intro h h3
      obtain ⟨h4, h5⟩ := hn.above h
      have h6 := xAb (xBM (hn.ne s (by simp)) h4) (ble_iff.2 (.inl h5))
      have h7 := xAb h3 (ble_iff.2 (.inl h6))
      rw [xAq] at h7
      cases h7
    have hsl : ble lo k = false → ble s.lo k = false := by
      intro h
      cases h3 : ble s.lo k with
      | false => rfl
      | true => rw [xBC hls h3] at h; cases h
    split
    · next h =>
      have hl : inL l k = false := by
        cases h3 : inL l k with
        | false => rfl
        | true => exact absurd h (hn.above h3).1
      rw [h2, hl]
      simp [hasL, h]
    · next h =>
      rw [xJK l s.hi o2 k hn.tail (fun x hx => ble_iff.2 (.inl (hn.above hx).2)), h2]
      have hlt := xBM (hn.ne s (by simp)) h
      have e1 : hasL s k = (ble s.lo k && Op.bytesLess k s.hi) := xIF (lo := s.lo) h
      rw [e1]
      cases h3 : inL out k with
      | true => simp
      | false =>
        have e2 : ble s.lo k = !Op.bytesLess k s.lo := rfl
        have e3 : ble s.hi k = !Op.bytesLess k s.hi := rfl
        cases h4 : Op.bytesLess k s.lo with
        | true =>
          have h5 : Op.bytesLess k s.hi = true := xAb h4 (ble_iff.2 (.inl hlt))
          have h6 : inL l k = false := by
            cases h7 : inL l k with
            | false => rfl
            | true => exact (hnl h7 h4).elim
          simp [e2, e3, h4, h5, h6]
        | false =>
          cases h5 : Op.bytesLess k s.hi with
          | true => simp [e2, e3, h4, h5]
          | false =>
            have h6 : ble lo k = true := xBC hls (by rw [e2, h4]; rfl)
            simp [e2, e3, h4, h5, h6]
def xCL (l m : List SpanL) : List SpanL := (xDC [] (xAn m) []).flatMap (fun g => l.map (xAV g))
def xBW (l m : List SpanL) : List SpanL := xAn (xCL l m)
theorem xKD {α : Type} (f : α → List SpanL) (k : Str) : ∀ (l : List α), inL (l.flatMap f) k = l.any (fun a => inL (f a) k)
  | [] => rfl
  | a :: l => by rw [List.flatMap_cons, xAo, xKD f k l, List.any_cons]
theorem xGf (g : SpanL) (k : Str) : ∀ (l : List SpanL), inL (l.map (xAV g)) k = (hasL g k && inL l k)
  | [] => by simp [inL]
  | s :: l => by rw [List.map_cons, xAW, xAW, xGf g k l, xBZ]; cases hasL g k <;> simp
theorem xBU (l m : List SpanL) (k : Str) : inL (xBW l m) k = (inL l k && !inL m k) := by
  have h1 := xJK (xAn m) [] [] k (xA6 m).1 (fun x _ => xEk x)
  rw [xBW, (xA6 _).2, xCL, xKD]
  simp only [xGf]
  have h2 : ∀ (gs : List SpanL), gs.any (fun g => hasL g k && inL l k) = (inL gs k && inL l k) := by
    intro gs
    induction gs with
    | nil => rfl
    | cons g gs ih => rw [List.any_cons, ih, xAW]; cases hasL g k <;> cases inL gs k <;> cases inL l k <;> rfl
  rw [h2, h1, (xA6 m).2, xEk]
  simp [inL, Bool.and_comm]
theorem xDA (l m : List SpanL) : Nrm (xBW l m) := (xA6 _).1
def cutL (s c : SpanL) : List SpanL := (if c.lo = [] then [] else [xAV s ⟨[], c.lo⟩]) ++ (if c.hi = [] then [] else [xAV s ⟨c.hi, []⟩])
def xD8 (left : List SpanL) (c : SpanL) : List SpanL := if xAJ c = true then left else xAn (left.flatMap (fun s => cutL s c))
def xHW (l m : List SpanL) : List SpanL := m.foldl xD8 (xAn l)
theorem xQn (s c : SpanL) (k : Str) : inL (cutL s c) k = (hasL s k && !hasL c k) := by
  have e : hasL c k = (ble c.lo k && (c.hi == [] || Op.bytesLess k c.hi)) := rfl
  have e1 : ble c.lo k = !Op.bytesLess k c.lo := rfl
  have e2 : ble c.hi k = !Op.bytesLess k c.hi := rfl
  have e3 : inL (if c.lo = [] then [] else [xAV s ⟨[], c.lo⟩]) k = (hasL s k && Op.bytesLess k c.lo) := by
    split
    · next h => rw [h, xB9]; simp [inL]
    · next h => rw [xAW, xBZ, xIF h, xEk]; simp [inL]
  have e4 : inL (if c.hi = [] then [] else [xAV s ⟨c.hi, []⟩]) k = (hasL s k && (!(c.hi == []) && !Op.bytesLess k c.hi)) := by
    split
    · next h => rw [h]; simp [inL]
    · next h => 
      have h9 : (c.hi == []) = false := by simpa using h
      rw [xAW, xBZ, xG9, e2, h9]; simp [inL]
  rw [cutL, xAo, e3, e4, e, e1]
  cases hasL s k <;> cases Op.bytesLess k c.lo <;> cases (c.hi == []) <;> cases Op.bytesLess k c.hi <;> rfl
theorem xQl (l : List SpanL) (c : SpanL) (k : Str) : inL (xD8 l c) k = (inL l k && !hasL c k) := by
  unfold xD8
  split
  · next h => rw [xAU h]; simp
  · rw [(xA6 _).2, xKD]
    simp only [xQn]
    induction l with
    | nil => rfl
    | cons g gs ih => rw [List.any_cons, ih, xAW]; cases hasL g k <;> cases inL gs k <;> cases hasL c k <;> rfl
theorem xNc {l : List SpanL} (h : Nrm l) (c : SpanL) : Nrm (xD8 l c) := by
  unfold xD8
  split
  · exact h
  · exact (xA6 _).1
theorem xLU : ∀ (m l : List SpanL), Nrm l → Nrm (m.foldl xD8 l) ∧ ∀ k, inL (m.foldl xD8 l) k = (inL l k && !inL m k)
  | [], l, h => ⟨h, fun k => by simp [inL]⟩
  | c :: m, l, h => by
    obtain ⟨h1, h2⟩ := xLU m (xD8 l c) (xNc h c)
    refine ⟨h1, fun k => ?_⟩
    rw [List.foldl_cons, h2, xQl, xAW]
    cases inL l k <;> cases hasL c k <;> cases inL m k <;> rfl
theorem minus_ref (l m : List SpanL) : xBW l m = xHW l m := by
  obtain ⟨h1, h2⟩ := xLU m (xAn l) (xA6 l).1
  refine Nrm.ext (xDA l m) h1 (fun k => ?_)
  rw [xBU]
  exact ((h2 k).trans (by rw [(xA6 l).2])).symm
theorem xHC {α : Type} (f : α → List SpanL) (n : Nat) : ∀ (l : List α), (∀ a ∈ l, (f a).length ≤ n) → (l.flatMap f).length ≤ n * l.length
  | [], _ => by simp
  | a :: l, h => by
    rw [List.flatMap_cons, List.length_append, List.length_cons, Nat.mul_succ]
    have h1 := xHC f n l (fun b hb => h b (by simp [hb]))
    have h2 := h a (by simp)
    omega
theorem xNd (s c : SpanL) : (cutL s c).length ≤ 2 := by
  unfold cutL
  split <;> split <;> simp
theorem cuts_len (l : List SpanL) (c : SpanL) : (xD8 l c).length ≤ 2 * l.length := by
  unfold xD8
  split
  · omega
  · exact Nat.le_trans (xEQ _) (xHC _ 2 l (fun s _ => xNd s c))
theorem xK3 (l m : List SpanL) : (xCL l m).length ≤ l.length * (m.length + 1) := by
  unfold xCL
  refine Nat.le_trans (xHC _ l.length _ (fun g _ => by simp)) (Nat.mul_le_mul_left _ ?_)
  have h1 := xIG (xAn m) [] []
  have h2 := xEQ m
  simp only [List.length_nil] at h1
  omega
theorem xHj : ∀ (a b : List Str), a.Nodup → (∀ x ∈ a, x ∈ b) → a.length ≤ b.length
  | [], b, _, _ => by simp
  | x :: a, b, hn, hs => by
    obtain ⟨h1, h2⟩ := List.nodup_cons.1 hn
    have h3 := xHj a (b.erase x) h2 (fun y hy => by
      refine (List.mem_erase_of_ne ?_).2 (hs y (by simp [hy]))
      intro h; subst h; exact h1 hy)
    rw [List.length_erase_of_mem (hs x (by simp))] at h3
    have : 0 < b.length := List.length_pos_of_mem (hs x (by simp))
    rw [List.length_cons]
    omega
theorem xMA : ∀ {l : List SpanL}, Nrm l → (l.map SpanL.lo).Nodup
  | [], _ => by simp
  | s :: l, h => by
    rw [List.map_cons, List.nodup_cons]
    refine ⟨?_, xMA h.tail⟩
    intro hm
    obtain ⟨t, ht, hts⟩ := List.mem_map.1 hm
    obtain ⟨h1, h2⟩ := (List.pairwise_cons.1 h.pw).1 t ht
    have h3 := xAb (xBM (h.ne s (by simp)) h1) (ble_iff.2 (.inl h2))
    rw [hts, xAq] at h3
    cases h3
theorem xJC (a b : Str) : maxL a b = a ∨ maxL a b = b := by unfold maxL; split <;> simp
theorem xEW (l m : List SpanL) : (xBW l m).length ≤ l.length + m.length := by
  have h := xHj _ (l.map SpanL.lo ++ m.map SpanL.hi) (xMA (xDA l m)) ?_
  · simpa using h
  · intro x hx
    obtain ⟨t, ht, rfl⟩ := List.mem_map.1 hx
    obtain ⟨y, hy, hyt, hye⟩ := xFY ht
    rw [← hyt]
    obtain ⟨g, hg, hy⟩ := List.mem_flatMap.1 hy
    obtain ⟨s, hs, rfl⟩ := List.mem_map.1 hy
    have hm : (xAV g s).lo = maxL g.lo s.lo := by
      unfold xAV at hye ⊢
      split
      · next h => rw [if_pos h] at hye; exact absurd hye (by decide)
      · rfl
    rw [hm]
    have hsl : s.lo ∈ l.map SpanL.lo ++ m.map SpanL.hi := List.mem_append.2 (.inl (List.mem_map.2 ⟨s, hs, rfl⟩))
    rcases xHA _ _ _ g hg with h | h | ⟨z, hz, hzg⟩
    · cases h
    · rw [h]
      have : maxL [] s.lo = s.lo := by
        unfold maxL
        split
        · rfl
        · next h3 =>
          have h4 : ble s.lo [] = true := by simpa [ble] using h3
          rcases ble_iff.1 h4 with h5 | h5
          · rw [xB9] at h5; cases h5
          · exact h5.symm
      rw [this]
      exact hsl
    · rcases xJC g.lo s.lo with h | h
      · rw [h, ← hzg]
        obtain ⟨w, hw, hwz⟩ := xJh hz
        exact List.mem_append.2 (.inr (List.mem_map.2 ⟨w, hw, hwz⟩))
      · rw [h]
        exact hsl
end Go.Pu
set_option linter.unusedVariables false
set_option linter.unusedSimpArgs false
namespace Go.Pu
structure MsgL where
  kind : Int
  key : Str
  val : Str
  sp : SpanL
  fr : Str
  to : Str
  n : Int
  deriving DecidableEq
def xAG (m : MsgL) : List SpanL :=
  if m.kind = 1 ∨ m.kind = 2 then [oneL m.key] else if m.kind = 4 then [xAH m.fr, xAH m.to] else if m.kind = 5 then [xAH m.to] else [m.sp]
def xA2 (m : MsgL) : List SpanL := if m.kind = 4 ∨ m.kind = 5 then [xAH m.fr] else if m.kind = 6 then [m.sp] else []
def xDj (m : MsgL) : List SpanL := if m.kind = 6 then [] else xAG m
structure MsgOk (m : MsgL) : Prop where
  k : 1 ≤ m.kind ∧ m.kind ≤ 6
  ap : m.kind = 4 ∨ m.kind = 5 → xAF m.fr m.to = false ∧ xAF m.to m.fr = false
  ne : m.kind = 4 ∨ m.kind = 5 → m.fr ≠ [] ∧ m.to ≠ []
def bkL (m : MsgL) (k : Str) : Option Str :=
  if m.kind = 1 ∨ m.kind = 2 then (if m.key = k then none else some k) else
  if m.kind = 3 then (if hasL m.sp k = true then none else some k) else
  if m.kind = 6 then some k else
  if m.kind = 4 ∧ xAF k m.fr = true then none else
  if xAF k m.to = true then some (m.fr ++ k.drop m.to.length) else some k
def bksL : List MsgL → Str → Option Str
  | [], k => some k
  | m :: r, k => (bkL m k).bind (bksL r)
theorem bks_append (a b : List MsgL) (k : Str) : bksL (a ++ b) k = (bksL a k).bind (bksL b) := by
  induction a generalizing k with
  | nil => rfl
  | cons m a ih =>
    rw [List.cons_append, bksL, bksL]
    cases bkL m k with
    | none => rfl
    | some x => exact ih x
def xEV (f t : Str) (s : SpanL) : SpanL := ⟨t ++ s.lo.drop f.length, if xAF s.hi f = true ∧ s.hi ≠ [] then t ++ s.hi.drop f.length else upL t⟩
def xLM (m : MsgL) : List SpanL := xAH m.to :: (if m.kind = 4 then [xAH m.fr] else [])
def inTo (m : MsgL) (l : List SpanL) : List SpanL := (l.map fun x => xAV x (xAH m.to)).filter fun s => !xAJ s
def xFv (l : List SpanL) (m : MsgL) : List SpanL :=
  if m.kind = 1 ∨ m.kind = 2 then xBW l [oneL m.key] else
  if m.kind = 3 then xBW l [m.sp] else
  if m.kind = 6 then l else
  xAn (xBW l (xLM m) ++ (inTo m l).map (xEV m.to m.fr))
def xIu (s : SpanL) (r : List MsgL) : List SpanL := r.foldl xFv (xAn [s])
theorem xIi : ∀ {p a x : Str}, Op.bytesLess (p ++ a) x = true → xAF x p = false → ∀ r, Op.bytesLess (p ++ r) x = true
  | [], a, x, h, hb, r => by simp [xAF] at hb
  | c :: p, a, [], h, hb, r => by simp [Op.bytesLess] at h
  | c :: p, a, d :: x, h, hb, r => by
    rw [List.cons_append, blt_cons] at h ⊢
    rcases h with h | ⟨rfl, h⟩
    · exact .inl h
    · refine .inr ⟨rfl, xIi h ?_ r⟩
      cases hx : xAF x p with
      | false => rfl
      | true =>
        obtain ⟨q, rfl⟩ := begins_iff.1 hx
        have : xAF (c :: (p ++ q)) (c :: p) = true := begins_iff.2 ⟨q, rfl⟩
        rw [this] at hb
        cases hb
theorem xBi (p r : Str) : xAF (p ++ r) p = true := begins_iff.2 ⟨r, rfl⟩
theorem begins_le {k p : Str} (h : xAF k p = true) : ble p k = true := by
  obtain ⟨r, rfl⟩ := begins_iff.1 h
  exact xDT p r
theorem xJA {f t : Str} (ht : t ≠ []) {s : SpanL} (hn : xAJ s = false) (hs : ∀ k, hasL s k = true → xAF k f = true) (k : Str) :
    hasL (xEV f t s) k = true ↔ ∃ r, k = t ++ r ∧ hasL s (f ++ r) = true := by
  obtain ⟨a, ha⟩ := begins_iff.1 (hs _ (xDQ hn))
  have hd : s.lo.drop f.length = a := by rw [ha]; simp
  by_cases hh : xAF s.hi f = true ∧ s.hi ≠ []
  · obtain ⟨b, hb⟩ := begins_iff.1 hh.1
    have hd2 : s.hi.drop f.length = b := by rw [hb]; simp
    have e : xEV f t s = ⟨t ++ a, t ++ b⟩ := by unfold xEV; rw [if_pos hh, hd, hd2]
    have hne : t ++ b ≠ [] := by simp [ht]
    rw [e, has_iff]
    simp only [hne, false_or]
    constructor
    · rintro ⟨h1, h2⟩
      have hk : xAF k t = true := by
        cases hk : xAF k t with
        | true => rfl
        | false =>
          exfalso
          rcases ble_iff.1 h1 with h3 | h3
          · have := xIi h3 hk b
            rw [xB1 this] at h2
            cases h2
          · rw [← h3, xBi] at hk
            cases hk
      obtain ⟨r, rfl⟩ := begins_iff.1 hk
      refine ⟨r, rfl, has_iff.2 ⟨?_, .inr ?_⟩⟩
      · rw [ha, xDY]; rwa [xDY] at h1
      · rw [hb, xEj]; rwa [xEj] at h2
    · rintro ⟨r, rfl, h⟩
      obtain ⟨h1, h2⟩ := has_iff.1 h
      rw [ha, xDY] at h1
      have h2 := h2.resolve_left hh.2
      rw [hb, xEj] at h2
      exact ⟨by rwa [xDY], by rwa [xEj]⟩
  · have e : xEV f t s = ⟨t ++ a, upL t⟩ := by unfold xEV; rw [if_neg hh, hd]
    have hup : ∀ r, s.hi = [] ∨ Op.bytesLess (f ++ r) s.hi = true := by
      intro r
      by_cases h0 : s.hi = []
      · exact .inl h0
      · have hb : xAF s.hi f = false := by
          cases hb : xAF s.hi f with
          | false => rfl
          | true => exact (hh ⟨hb, h0⟩).elim
        have := xBM hn h0
        rw [ha] at this
        exact .inr (xIi this hb r)
    have hp := xAX t k
    have e2 : xAH t = ⟨t, upL t⟩ := rfl
    rw [e, has_iff]
    constructor
    · rintro ⟨h1, h2⟩
      have h3 : hasL (xAH t) k = true := by rw [e2, has_iff]; exact ⟨xBC (xDT t a) h1, h2⟩
      rw [hp] at h3
      obtain ⟨r, rfl⟩ := begins_iff.1 h3
      refine ⟨r, rfl, has_iff.2 ⟨?_, hup r⟩⟩
      rw [ha, xDY]; rwa [xDY] at h1
    · rintro ⟨r, rfl, h⟩
      obtain ⟨h1, h2⟩ := has_iff.1 h
      rw [ha, xDY] at h1
      have h3 : hasL (xAH t) (t ++ r) = true := by rw [xAX]; exact xBi t r
      rw [e2, has_iff] at h3
      exact ⟨by rwa [xDY], h3.2⟩
theorem xIB (m : MsgL) (l : List SpanL) (k : Str) (h : ∃ s ∈ inTo m l, hasL s k = true) : inL l k = true ∧ xAF k m.to = true := by
  obtain ⟨s, hs, hk⟩ := h
  unfold inTo at hs
  rw [List.mem_filter, List.mem_map] at hs
  obtain ⟨⟨x, hx, rfl⟩, _⟩ := hs
  rw [xBZ, Bool.and_eq_true, xAX] at hk
  exact ⟨inL_iff.2 ⟨x, hx, hk.1⟩, hk.2⟩
theorem xSd (m : MsgL) (l : List SpanL) (k : Str) : (∃ s ∈ inTo m l, hasL s k = true) ↔ inL l k = true ∧ xAF k m.to = true := by
  refine ⟨xIB m l k, ?_⟩
  rintro ⟨h1, h2⟩
  obtain ⟨x, hx, hk⟩ := inL_iff.1 h1
  have hm : hasL (xAV x (xAH m.to)) k = true := by rw [xBZ, Bool.and_eq_true, xAX]; exact ⟨hk, h2⟩
  refine ⟨_, List.mem_filter.2 ⟨List.mem_map.2 ⟨x, hx, rfl⟩, ?_⟩, hm⟩
  cases he : xAJ (xAV x (xAH m.to)) with
  | false => rfl
  | true => rw [xAU he] at hm; cases hm
theorem xIA {m : MsgL} {l : List SpanL} {s : SpanL} (h : s ∈ inTo m l) : xAJ s = false ∧ ∀ k, hasL s k = true → xAF k m.to = true := by
  refine ⟨?_, fun k hk => (xIB m l k ⟨s, h, hk⟩).2⟩
  unfold inTo at h
  rw [List.mem_filter] at h
  simpa using h.2
theorem xQR {m : MsgL} (hf : m.fr ≠ []) (l : List SpanL) (k : Str) : inL ((inTo m l).map (xEV m.to m.fr)) k = true ↔ ∃ r, k = m.fr ++ r ∧ inL l (m.to ++ r) = true := by
  rw [inL_iff]
  constructor
  · rintro ⟨x, hx, hk⟩
    obtain ⟨s, hs, rfl⟩ := List.mem_map.1 hx
    obtain ⟨h1, h2⟩ := xIA hs
    obtain ⟨r, rfl, hr⟩ := (xJA hf h1 h2 k).1 hk
    exact ⟨r, rfl, (xIB m l _ ⟨s, hs, hr⟩).1⟩
  · rintro ⟨r, rfl, hr⟩
    obtain ⟨s, hs, hk⟩ := (xSd m l (m.to ++ r)).2 ⟨hr, xBi _ _⟩
    obtain ⟨h1, h2⟩ := xIA hs
    exact ⟨_, List.mem_map.2 ⟨s, hs, rfl⟩, (xJA hf h1 h2 _).2 ⟨r, rfl, hk⟩⟩
theorem xJc {l : List SpanL} (h : Nrm l) (m : MsgL) : Nrm (xFv l m) := by
  unfold xFv
  split
  · exact xDA _ _
  · split
    · exact xDA _ _
    · split
      · exact h
      · exact (xA6 _).1
theorem xKV {m : MsgL} (hm : MsgOk m) (l : List SpanL) (k : Str) : inL (xFv l m) k = true ↔ ∃ x, inL l x = true ∧ bkL m x = some k := by
  unfold xFv bkL
  by_cases h1 : m.kind = 1 ∨ m.kind = 2
  · simp only [if_pos h1]
    rw [xBU, xAW, xFG]
    simp only [inL, List.any_nil, Bool.or_false, Bool.and_eq_true, Bool.not_eq_true', beq_eq_false_iff_ne, ne_eq]
    constructor
    · rintro ⟨g1, g2⟩
      exact ⟨k, g1, by rw [if_neg fun e => g2 e.symm]⟩
    · rintro ⟨x, g1, g2⟩
      split at g2
      · cases g2
      · rename_i hx
        cases g2
        exact ⟨g1, fun e => hx e.symm⟩
  simp only [if_neg h1]
  by_cases h3 : m.kind = 3
  · simp only [if_pos h3]
    rw [xBU, xAW]
    simp only [inL, List.any_nil, Bool.or_false, Bool.and_eq_true, Bool.not_eq_true']
    constructor
    · rintro ⟨g1, g2⟩
      exact ⟨k, g1, by rw [if_neg (by rw [g2]; simp)]⟩
    · rintro ⟨x, g1, g2⟩
      split at g2
      · cases g2
      · rename_i hx
        cases g2
        exact ⟨g1, by simpa using hx⟩
  simp only [if_neg h3]
  by_cases h6 : m.kind = 6
  · simp only [if_pos h6]
    exact ⟨fun h => ⟨k, h, rfl⟩, fun ⟨x, h, e⟩ => by cases e; exact h⟩
  simp only [if_neg h6]
  have hk := hm.k
  have h45 : m.kind = 4 ∨ m.kind = 5 := by omega
  obtain ⟨ap1, ap2⟩ := hm.ap h45
  obtain ⟨ne1, ne2⟩ := hm.ne h45
  have both : ∀ x, xAF x m.fr = true → xAF x m.to = true → False := by
    intro x b1 b2
    obtain ⟨r, rfl⟩ := begins_iff.1 b1
    obtain ⟨q, hq⟩ := begins_iff.1 b2
    rcases Nat.le_total m.fr.length m.to.length with hlen | hlen
    · have : xAF m.to m.fr = true := begins_iff.2 ⟨m.to.drop m.fr.length, by
        have := congrArg (List.take m.fr.length) hq
        rw [List.take_left, List.take_append_of_le_length hlen] at this
        conv => lhs; rw [← List.take_append_drop m.fr.length m.to]
        rw [← this]⟩
      rw [this] at ap2; cases ap2
    · have : xAF m.fr m.to = true := begins_iff.2 ⟨m.fr.drop m.to.length, by
        have := congrArg (List.take m.to.length) hq
        rw [List.take_left, List.take_append_of_le_length hlen] at this
        conv => lhs; rw [← List.take_append_drop m.to.length m.fr]
        rw [this]⟩
      rw [this] at ap1; cases ap1
  rw [(xA6 _).2, xAo, Bool.or_eq_true, xBU, xQR ne1]
  have hg : inL (xLM m) k = (xAF k m.to || (decide (m.kind = 4) && xAF k m.fr)) := by
    unfold xLM
    rw [xAW, xAX]
    by_cases h4 : m.kind = 4
    · rw [if_pos h4, xAW, xAX]; simp [inL, h4]
    · rw [if_neg h4]; simp [inL, h4]
  rw [hg]
  simp only [Bool.and_eq_true, Bool.not_eq_true', Bool.or_eq_false_iff]
  constructor
  · rintro (⟨g1, g2, g3⟩ | ⟨r, rfl, g⟩)
    · refine ⟨k, g1, ?_⟩
      rw [if_neg (fun hc => by rw [hc.2, decide_eq_true hc.1] at g3; cases g3), if_neg (by rw [g2]; simp)]
    · refine ⟨m.to ++ r, g, ?_⟩
      rw [if_neg fun hc => both _ hc.2 (xBi _ _), if_pos (xBi _ _)]
      simp
  · rintro ⟨x, g1, g2⟩
    split at g2
    · cases g2
    · rename_i hc
      split at g2
      · rename_i hb
        obtain ⟨r, rfl⟩ := begins_iff.1 hb
        simp only [List.drop_left, Option.some.injEq] at g2
        exact .inr ⟨r, g2.symm, g1⟩
      · rename_i hb
        cases g2
        refine .inl ⟨g1, by simpa using hb, ?_⟩
        by_cases h4 : m.kind = 4
        · rw [decide_eq_true h4, Bool.true_and]
          cases hx : xAF k m.fr with
          | false => rfl
          | true => exact (hc ⟨h4, hx⟩).elim
        · rw [decide_eq_false h4]; rfl
theorem spans_nrm (s : SpanL) (r : List MsgL) : Nrm (xIu s r) := by
  unfold xIu
  have key : ∀ (r : List MsgL) (l : List SpanL), Nrm l → Nrm (r.foldl xFv l) := by
    intro r
    induction r with
    | nil => intro l h; exact h
    | cons m r ih => intro l h; exact ih _ (xJc h m)
  exact key r _ (xA6 _).1
theorem xIr : ∀ (r : List MsgL) (l : List SpanL) (k : Str), (∀ m ∈ r, MsgOk m) → (inL (r.foldl xFv l) k = true ↔ ∃ x, inL l x = true ∧ bksL r x = some k)
  | [], l, k, _ => ⟨fun h => ⟨k, h, rfl⟩, fun ⟨x, h, e⟩ => by cases e; exact h⟩
  | m :: r, l, k, h => by
    rw [List.foldl_cons, xIr r _ k fun x hx => h x (by simp [hx])]
    constructor
    · rintro ⟨x, g1, g2⟩
      obtain ⟨y, g3, g4⟩ := (xKV (h m (by simp)) l x).1 g1
      exact ⟨y, g3, by rw [bksL, g4]; exact g2⟩
    · rintro ⟨y, g1, g2⟩
      rw [bksL] at g2
      obtain ⟨x, g3, g4⟩ := Option.bind_eq_some_iff.1 g2
      exact ⟨x, (xKV (h m (by simp)) l x).2 ⟨y, g1, g3⟩, g4⟩
theorem spans_keys (s : SpanL) {r : List MsgL} (h : ∀ m ∈ r, MsgOk m) (k : Str) : inL (xIu s r) k = true ↔ ∃ x, hasL s x = true ∧ bksL r x = some k := by
  unfold xIu
  rw [xIr r _ k h]
  have e : ∀ x, inL (xAn [s]) x = hasL s x := fun x => by rw [(xA6 _).2]; simp [inL]
  simp only [e]
end Go.Pu
set_option linter.unusedVariables false
set_option linter.unusedSimpArgs false
namespace Go.Pu
theorem xMS {x a b : Str} (b1 : xAF x a = true) (b2 : xAF x b = true) : xAF a b = true ∨ xAF b a = true := by
  obtain ⟨r, rfl⟩ := begins_iff.1 b1
  obtain ⟨q, hq⟩ := begins_iff.1 b2
  rcases Nat.le_total a.length b.length with hlen | hlen
  · refine .inr (begins_iff.2 ⟨b.drop a.length, ?_⟩)
    have := congrArg (List.take a.length) hq
    rw [List.take_left, List.take_append_of_le_length hlen] at this
    conv => lhs; rw [← List.take_append_drop a.length b]
    rw [← this]
  · refine .inl (begins_iff.2 ⟨a.drop b.length, ?_⟩)
    have := congrArg (List.take b.length) hq
    rw [List.take_left, List.take_append_of_le_length hlen] at this
    conv => lhs; rw [← List.take_append_drop b.length a]
    rw [this]
theorem bk_inj {m : MsgL} (hm : MsgOk m) (hc : m.kind ≠ 5) {a b k : Str} (ha : bkL m a = some k) (hb : bkL m b = some k) : a = b := by
  unfold bkL at ha hb
  by_cases h1 : m.kind = 1 ∨ m.kind = 2
  · rw [if_pos h1] at ha hb
    split at ha
    · cases ha
    · split at hb
      · cases hb
      · cases ha; cases hb; rfl
  rw [if_neg h1] at ha hb
  by_cases h3 : m.kind = 3
  · rw [if_pos h3] at ha hb
    split at ha
    · cases ha
    · split at hb
      · cases hb
      · cases ha; cases hb; rfl
  rw [if_neg h3] at ha hb
  by_cases h6 : m.kind = 6
  · rw [if_pos h6] at ha hb
    cases ha; cases hb; rfl
  rw [if_neg h6] at ha hb
  have hk := hm.k
  have h4 : m.kind = 4 := by omega
  simp only [h4, true_and] at ha hb
  split at ha
  · cases ha
  · rename_i na
    split at hb
    · cases hb
    · rename_i nb
      split at ha
      · rename_i ta
        obtain ⟨r, rfl⟩ := begins_iff.1 ta
        simp only [List.drop_left, Option.some.injEq] at ha
        split at hb
        · rename_i tb
          obtain ⟨q, rfl⟩ := begins_iff.1 tb
          simp only [List.drop_left, Option.some.injEq] at hb
          rw [← hb, List.append_cancel_left_eq] at ha
          rw [ha]
        · cases hb
          rw [← ha] at nb
          exact (nb (xBi _ _)).elim
      · cases ha
        split at hb
        · rename_i tb
          obtain ⟨q, rfl⟩ := begins_iff.1 tb
          simp only [List.drop_left, Option.some.injEq] at hb
          rw [← hb] at na
          exact (na (xBi _ _)).elim
        · cases hb; rfl
theorem xVH : ∀ {r : List MsgL}, (∀ m ∈ r, MsgOk m) → (∀ m ∈ r, m.kind ≠ 5) → ∀ {a b k : Str}, bksL r a = some k → bksL r b = some k → a = b
  | [], _, _, a, b, k, ha, hb => by cases ha; cases hb; rfl
  | m :: r, h, hc, a, b, k, ha, hb => by
    rw [bksL] at ha hb
    obtain ⟨x, g1, g2⟩ := Option.bind_eq_some_iff.1 ha
    obtain ⟨y, g3, g4⟩ := Option.bind_eq_some_iff.1 hb
    have := xVH (fun m hm => h m (by simp [hm])) (fun m hm => hc m (by simp [hm])) g2 g4
    subst this
    exact bk_inj (h m (by simp)) (hc m (by simp)) g1 g3
theorem xQA {l : List SpanL} (h : Nrm l) {b : List Str} (hb : ∀ s ∈ l, s.lo ∈ b) : l.length ≤ b.length := by
  have := xHj (l.map SpanL.lo) b (xMA h) (by
    intro x hx
    obtain ⟨s, hs, rfl⟩ := List.mem_map.1 hx
    exact hb s hs)
  simpa using this
theorem xME {l g : List SpanL} {t : SpanL} (h : t ∈ xCL l g) : xAJ t = false → (∃ x ∈ l, x.lo = t.lo) ∨ ∃ x ∈ g, x.hi = t.lo := by
  intro hne
  unfold xCL at h
  rw [List.mem_flatMap] at h
  obtain ⟨c, hc, ht⟩ := h
  obtain ⟨x, hx, rfl⟩ := List.mem_map.1 ht
  have hm : xAV c x = ⟨maxL c.lo x.lo, xCD c.hi x.hi⟩ ∨ xAV c x = xHi := by unfold xAV; split <;> simp
  rcases hm with hm | hm
  · rw [hm]
    simp only
    rcases xJC c.lo x.lo with e | e
    · rw [e]
      rcases xHA _ _ _ _ hc with h1 | h1 | ⟨y, hy, h1⟩
      · cases h1
      · rw [h1] at e ⊢
        left
        refine ⟨x, hx, ?_⟩
        have h2 : ble x.lo [] = true := by
          have := (xHs (a := c.lo) (b := x.lo) (k := maxL c.lo x.lo)).1 (xCR _)
          rw [h1, e] at this
          exact this.2
        exact xEl h2 (xEk _)
      · right
        obtain ⟨z, hz, e2⟩ := xJh hy
        exact ⟨z, hz, by rw [e2, h1]⟩
    · rw [e]
      exact .inl ⟨x, hx, rfl⟩
  · rw [hm] at hne
    exact absurd hne (by decide)
theorem xSI {l g : List SpanL} {t : SpanL} (h : t ∈ xBW l g) : (∃ x ∈ l, x.lo = t.lo) ∨ ∃ x ∈ g, x.hi = t.lo := by
  unfold xBW at h
  obtain ⟨y, hy, e, hne⟩ := xFY h
  rw [← e]
  exact xME hy hne
theorem xSG (f t : Str) (s : SpanL) : (xEV f t s).lo = t ++ s.lo.drop f.length := rfl
theorem xUb (a b : SpanL) : (xAV a b).lo = maxL a.lo b.lo ∨ xAV a b = xHi := by
  unfold xAV
  split
  · exact .inr rfl
  · exact .inl rfl
theorem xRV {m : MsgL} (hm : MsgOk m) {l : List SpanL} (h : Nrm l) : (xFv l m).length ≤ l.length + 3 := by
  have hn := xJc h m
  unfold xFv at hn ⊢
  split
  · have := xEW l [oneL m.key]
    simp at this
    omega
  · split
    · have := xEW l [m.sp]
      simp at this
      omega
    · split
      · omega
      · rename_i h1 h3 h6
        rw [if_neg h1, if_neg h3, if_neg h6] at hn
        have hk := hm.k
        have h45 : m.kind = 4 ∨ m.kind = 5 := by omega
        refine Nat.le_trans (xQA hn (b := (l.map fun x => if xAF x.lo m.to = true then m.fr ++ x.lo.drop m.to.length else x.lo) ++ [upL m.to, upL m.fr, m.fr]) ?_) (by simp)
        intro s hs
        obtain ⟨y, hy, e, hne⟩ := xFY hs
        rw [← e]
        rw [List.mem_append] at hy
        rcases hy with hy | hy
        · rcases xSI hy with ⟨x, hx, e1⟩ | ⟨x, hx, e1⟩
          · have hx2 : xAF y.lo m.to = false := by
              have h7 : inL (xBW l (xLM m)) y.lo = true := inL_iff.2 ⟨y, hy, xDQ hne⟩
              rw [xBU, Bool.and_eq_true, xLM, xAW, xAX] at h7
              have h8 := h7.2
              simp only [Bool.not_eq_true', Bool.or_eq_false_iff] at h8
              exact h8.1
            rw [List.mem_append]
            left
            rw [List.mem_map]
            refine ⟨x, hx, ?_⟩
            rw [e1, if_neg (by rw [hx2]; simp)]
          · rw [List.mem_append]
            right
            rw [← e1]
            unfold xLM at hx
            split at hx
            · simp at hx
              rcases hx with rfl | rfl
              · simp [xAH]
              · simp [xAH]
            · simp at hx
              subst hx
              simp [xAH]
        · obtain ⟨s2, hs2, rfl⟩ := List.mem_map.1 hy
          obtain ⟨hne2, hbg⟩ := xIA hs2
          have hb2 := hbg _ (xDQ hne2)
          unfold inTo at hs2
          rw [List.mem_filter, List.mem_map] at hs2
          obtain ⟨⟨x, hx, rfl⟩, _⟩ := hs2
          rw [xSG, List.mem_append]
          rcases xUb x (xAH m.to) with e2 | e2
          · rw [e2] at hb2 ⊢
            rcases xJC x.lo (xAH m.to).lo with e3 | e3
            · rw [e3] at hb2 ⊢
              left
              rw [List.mem_map]
              exact ⟨x, hx, by rw [if_pos hb2]⟩
            · rw [e3]
              right
              simp [xAH]
          · rw [e2] at hne2
            exact absurd hne2 (by decide)
theorem spans_len (s : SpanL) {r : List MsgL} (h : ∀ m ∈ r, MsgOk m) : (xIu s r).length ≤ 1 + 3 * r.length := by
  unfold xIu
  have key : ∀ (r : List MsgL) (l : List SpanL), Nrm l → (∀ m ∈ r, MsgOk m) → (r.foldl xFv l).length ≤ l.length + 3 * r.length := by
    intro r
    induction r with
    | nil => intro l h _; simp
    | cons m r ih =>
      intro l hl h
      have h1 := ih _ (xJc hl m) fun x hx => h x (by simp [hx])
      have h2 := xRV (h m (by simp)) hl
      simp only [List.foldl_cons, List.length_cons]
      omega
  have h1 := key r _ (xA6 [s]).1 h
  have h2 := xEQ [s]
  simp only [List.length_cons, List.length_nil] at h2
  omega
end Go.Pu
set_option linter.unusedVariables false
set_option linter.unusedSimpArgs false
namespace Go.Pu
theorem xQk {l : List SpanL} (h : Nrm l) (c : SpanL) : (xD8 l c).length ≤ l.length + 1 := by
  have hn := xNc h c
  have : (xD8 l c).length ≤ (l.map SpanL.lo ++ [c.hi]).length := xQA hn fun s hs => by
    unfold xD8 at hs
    split at hs
    · exact List.mem_append.2 (.inl (List.mem_map.2 ⟨s, hs, rfl⟩))
    · obtain ⟨y, hy, e, hne⟩ := xFY hs
      rw [← e]
      obtain ⟨x, hx, hy⟩ := List.mem_flatMap.1 hy
      unfold cutL at hy
      have two : ∀ z : SpanL, y = xAV x z → (z.lo = [] ∨ z.lo = c.hi) → y.lo ∈ l.map SpanL.lo ++ [c.hi] := by
        rintro z rfl hz
        have hm : xAV x z = ⟨maxL x.lo z.lo, xCD x.hi z.hi⟩ ∨ xAV x z = xHi := by unfold xAV; split <;> simp
        rcases hm with hm | hm
        · rw [hm]
          rcases xJC x.lo z.lo with e2 | e2
          · simp only [e2]
            exact List.mem_append.2 (.inl (List.mem_map.2 ⟨x, hx, rfl⟩))
          · simp only [e2]
            rcases hz with hz | hz
            · rw [hz] at e2 ⊢
              have h2 : ble x.lo [] = true := by
                have := (xHs (a := x.lo) (b := []) (k := maxL x.lo [])).1 (xCR _)
                rw [e2] at this
                exact this.1
              have h3 := xEl h2 (xEk _)
              exact List.mem_append.2 (.inl (List.mem_map.2 ⟨x, hx, h3⟩))
            · rw [hz]
              simp
        · rw [hm] at hne
          exact absurd hne (by decide)
      rw [List.mem_append] at hy
      rcases hy with hy | hy
      · split at hy
        · cases hy
        · exact two _ (List.mem_singleton.1 hy) (.inl rfl)
      · split at hy
        · cases hy
        · exact two _ (List.mem_singleton.1 hy) (.inr rfl)
  simpa using this
end Go.Pu
set_option linter.unusedVariables false
set_option linter.unusedSimpArgs false
namespace Go.Pu
theorem xNT : ∀ (l : List SpanL) (lo : Str) (out : List SpanL) (t : SpanL), t ∈ xDC lo l out → t ∈ out ∨ t.hi = [] ∨ ∃ x ∈ l, x.lo = t.hi
  | [], lo, out, t, h => by
    rw [xDC] at h
    rcases List.mem_append.1 h with h | h
    · exact .inl h
    · exact .inr (.inl (by rw [List.mem_singleton.1 h]))
  | s :: l, lo, out, t, h => by
    have h2 : t ∈ (if s.lo = [] then out else out ++ [⟨lo, s.lo⟩]) → t ∈ out ∨ s.lo = t.hi := by
      split
      · exact .inl
      · intro h
        rcases List.mem_append.1 h with h | h
        · exact .inl h
        · exact .inr (by rw [List.mem_singleton.1 h])
    rw [xDC] at h
    generalize (if s.lo = [] then out else out ++ [(⟨lo, s.lo⟩ : SpanL)]) = o2 at *
    split at h
    · rcases h2 h with h | h
      · exact .inl h
      · exact .inr (.inr ⟨s, by simp, h⟩)
    · rcases xNT l s.hi o2 t h with h | h | ⟨x, hx, hxt⟩
      · rcases h2 h with h | h
        · exact .inl h
        · exact .inr (.inr ⟨s, by simp, h⟩)
      · exact .inr (.inl h)
      · exact .inr (.inr ⟨x, by simp [hx], hxt⟩)
def SpLen (n : Nat) (l : List SpanL) : Prop := ∀ s ∈ l, s.lo.length ≤ n ∧ s.hi.length ≤ n
theorem SpLen.mono {n m : Nat} (h : n ≤ m) {l : List SpanL} (hl : SpLen n l) : SpLen m l := fun s hs => ⟨Nat.le_trans (hl s hs).1 h, Nat.le_trans (hl s hs).2 h⟩
theorem SpLen.app {n : Nat} {a b : List SpanL} (ha : SpLen n a) (hb : SpLen n b) : SpLen n (a ++ b) := fun s hs => (List.mem_append.1 hs).elim (ha s) (hb s)
theorem xFE {n : Nat} {l : List SpanL} (h : SpLen n l) : SpLen n (xAn l) := by
  intro s hs
  obtain ⟨x, hx, e, _⟩ := xFY hs
  obtain ⟨y, hy, e2⟩ := xJh hs
  rw [← e, ← e2]
  exact ⟨(h x hx).1, (h y hy).2⟩
theorem xSY (a b : Str) : xCD a b = a ∨ xCD a b = b := by unfold xCD; split <;> simp
theorem xCy {n : Nat} (hn : 1 ≤ n) {a b : SpanL} (ha : a.lo.length ≤ n ∧ a.hi.length ≤ n) (hb : b.lo.length ≤ n ∧ b.hi.length ≤ n) : (xAV a b).lo.length ≤ n ∧ (xAV a b).hi.length ≤ n := by
  unfold xAV
  split
  · exact ⟨hn, hn⟩
  · simp only
    constructor
    · rcases xJC a.lo b.lo with e | e <;> rw [e]
      · exact ha.1
      · exact hb.1
    · rcases xSY a.hi b.hi with e | e <;> rw [e]
      · exact ha.2
      · exact hb.2
theorem xOM {n : Nat} {g : List SpanL} (hg : SpLen n g) : SpLen n (xDC [] (xAn g) []) := by
  have h := xFE hg
  intro s hs
  constructor
  · rcases xHA _ _ _ _ hs with h1 | h1 | ⟨x, hx, h1⟩
    · cases h1
    · rw [h1]; simp
    · rw [← h1]; exact (h x hx).2
  · rcases xNT _ _ _ _ hs with h1 | h1 | ⟨x, hx, h1⟩
    · cases h1
    · rw [h1]; simp
    · rw [← h1]; exact (h x hx).1
theorem xC9 {n : Nat} (hn : 1 ≤ n) {l g : List SpanL} (hl : SpLen n l) (hg : SpLen n g) : SpLen n (xBW l g) := by
  unfold xBW
  refine xFE fun s hs => ?_
  unfold xCL at hs
  rw [List.mem_flatMap] at hs
  obtain ⟨c, hc, ht⟩ := hs
  obtain ⟨x, hx, rfl⟩ := List.mem_map.1 ht
  exact xCy hn (xOM hg c hc) (hl x hx)
structure MsgLen (b : Nat) (m : MsgL) : Prop where
  key : m.key.length ≤ b
  lo : m.sp.lo.length ≤ b
  hi : m.sp.hi.length ≤ b
  fr : m.fr.length ≤ b
  to : m.to.length ≤ b
theorem xDN {n : Nat} {p : Str} (h : p.length ≤ n) : (xAH p).lo.length ≤ n ∧ (xAH p).hi.length ≤ n := ⟨h, Nat.le_trans (xLo p) h⟩
theorem xOL {b : Nat} {m : MsgL} (hm : MsgLen b m) : SpLen b (xLM m) := by
  intro s hs
  unfold xLM at hs
  split at hs
  · simp at hs
    rcases hs with rfl | rfl
    · exact xDN hm.to
    · exact xDN hm.fr
  · simp at hs
    subst hs
    exact xDN hm.to
theorem xOJ {n : Nat} (hn : 1 ≤ n) {l : List SpanL} (hl : SpLen n l) {m : MsgL} (hm : m.to.length ≤ n) : SpLen n (inTo m l) := by
  intro s hs
  unfold inTo at hs
  rw [List.mem_filter, List.mem_map] at hs
  obtain ⟨⟨x, hx, rfl⟩, _⟩ := hs
  exact xCy hn (hl x hx) (xDN hm)
theorem xK2 {n b : Nat} {s : SpanL} (hs : s.lo.length ≤ n ∧ s.hi.length ≤ n) {f t : Str} (ht : t.length ≤ b) : (xEV f t s).lo.length ≤ n + b ∧ (xEV f t s).hi.length ≤ n + b := by
  unfold xEV
  simp only
  constructor
  · simp only [List.length_append, List.length_drop]; omega
  · split
    · simp only [List.length_append, List.length_drop]; omega
    · have := xLo t; omega
theorem xNt {n b : Nat} (hb : b + 1 ≤ n) {l : List SpanL} (hl : SpLen n l) {m : MsgL} (hm : MsgLen b m) : SpLen (n + b) (xFv l m) := by
  unfold xFv
  split
  · refine (xC9 (by omega) hl ?_).mono (by omega)
    intro s hs
    simp at hs
    subst hs
    have := hm.key
    unfold oneL
    simp
    omega
  · split
    · refine (xC9 (by omega) hl ?_).mono (by omega)
      intro s hs
      simp at hs
      subst hs
      have h1 := hm.lo
      have h2 := hm.hi
      omega
    · split
      · exact hl.mono (by omega)
      · refine xFE (SpLen.app ((xC9 (by omega) hl ((xOL hm).mono (by omega))).mono (by omega)) ?_)
        intro s hs
        obtain ⟨x, hx, rfl⟩ := List.mem_map.1 hs
        exact xK2 (xOJ (by omega) hl (by have := hm.to; omega) x hx) hm.fr
theorem xLr {b : Nat} : ∀ (r : List MsgL) (n : Nat) (l : List SpanL), b + 1 ≤ n → SpLen n l → (∀ m ∈ r, MsgLen b m) → SpLen (n + b * r.length) (r.foldl xFv l)
  | [], n, l, _, h, _ => by simpa using h
  | m :: r, n, l, hb, h, hm => by
    have := xLr r (n + b) _ (by omega) (xNt hb h (hm m (by simp))) fun x hx => hm x (by simp [hx])
    rw [List.foldl_cons]
    refine this.mono ?_
    rw [List.length_cons, Nat.mul_add]
    omega
end Go.Pu
set_option linter.unusedVariables false
set_option linter.unusedSimpArgs false
namespace Go.Pu
structure RawM where
  a : Nat
  b : Nat
  c : Nat
  d : Nat
  e : Nat
  f : Nat
  deriving DecidableEq
def RawM.ok (r : RawM) : Prop := r.a < 256 ∧ r.b < 256 ∧ r.c < 256 ∧ r.d < 256 ∧ r.e < 256 ∧ r.f < 256
def paths5 : List Str := [[97, 47], [98, 47], [97, 47, 98, 47], [99, 47], [100, 47]]
def xA5 (n : Nat) : Str := (paths5[n % 5]?).getD []
def ends5 : List Str := [[1], [2, 0, 0], [2, 0, 1], [2, 0, 2], [3, 120]]
def endM (n : Nat) : Str := (ends5[n % 5]?).getD []
def keyM (n : Nat) : Str := xA5 (n % 4) ++ endM (n / 4)
def vals5 : List Str := [[], [120], [121, 121], [49, 50, 51, 52, 53, 54, 55, 56, 57, 48], [0, 255]]
def valM (n : Nat) : Str := (vals5[n % 5]?).getD []
def minS (a b : Str) : Str := if Op.bytesLess b a = true then b else a
def spM (x : RawM) : SpanL :=
  if x.e % 4 = 0 then xAH (xA5 x.b) else
  if x.e % 16 = 1 then ⟨keyM x.b, []⟩ else
  if x.e % 16 = 5 then ⟨[], []⟩ else
  if keyM x.b = keyM x.d then oneL (keyM x.b) else ⟨minS (keyM x.b) (keyM x.d), maxL (keyM x.b) (keyM x.d)⟩
def toM (x : RawM) : Str :=
  if xAF (xA5 x.b) (xA5 x.d) = true ∨ xAF (xA5 x.d) (xA5 x.b) = true then (if xA5 x.b = [100, 47] then [99, 47] else [100, 47]) else xA5 x.d
def xAl (x : RawM) : MsgL :=
  if x.a % 6 = 0 then ⟨1, keyM x.b, valM x.c, ⟨[], []⟩, [], [], (x.f % 8 : Nat)⟩ else
  if x.a % 6 = 1 then ⟨2, keyM x.b, [], ⟨[], []⟩, [], [], 0⟩ else
  if x.a % 6 = 2 then ⟨3, [], [], spM x, [], [], 0⟩ else
  if x.a % 6 = 3 then ⟨4, [], [], ⟨[], []⟩, xA5 x.b, toM x, 0⟩ else
  if x.a % 6 = 4 then ⟨5, [], [], ⟨[], []⟩, xA5 x.b, toM x, 0⟩ else ⟨6, [], [], spM x, [], [], (x.f % 8 : Nat)⟩
def xD5 (l : List RawM) (n : Nat) : List MsgL := (l.take n).map xAl
theorem xB2 (n : Nat) : xA5 n ∈ paths5 := by
  unfold xA5 paths5
  have : n % 5 < 5 := Nat.mod_lt _ (by omega)
  generalize n % 5 = m at this
  match m, this with
  | 0, _ => simp
  | 1, _ => simp
  | 2, _ => simp
  | 3, _ => simp
  | 4, _ => simp
theorem xQf (n : Nat) : endM n ∈ ends5 := by
  unfold endM ends5
  have : n % 5 < 5 := Nat.mod_lt _ (by omega)
  generalize n % 5 = m at this
  match m, this with
  | 0, _ => simp
  | 1, _ => simp
  | 2, _ => simp
  | 3, _ => simp
  | 4, _ => simp
theorem xB3 {p : Str} (h : p ∈ paths5) : p.length ≤ 4 ∧ p ≠ [] := by
  have : ∀ p ∈ paths5, p.length ≤ 4 ∧ p ≠ [] := by decide
  exact this p h
theorem xGD (n : Nat) : (keyM n).length ≤ 7 := by
  have h1 := (xB3 (xB2 (n % 4))).1
  have h2 : ∀ p ∈ ends5, p.length ≤ 3 := by decide
  have h3 := h2 _ (xQf (n / 4))
  unfold keyM
  simp only [List.length_append]
  omega
theorem xOt (x : RawM) : toM x ∈ paths5 := by
  unfold toM
  split
  · split
    · decide
    · decide
  · exact xB2 _
theorem xMa (x : RawM) : xAF (xA5 x.b) (toM x) = false ∧ xAF (toM x) (xA5 x.b) = false := by
  have key : ∀ p ∈ paths5, ∀ q ∈ paths5, xAF p (if xAF p q = true ∨ xAF q p = true then (if p = [100, 47] then [99, 47] else [100, 47]) else q) = false ∧ xAF (if xAF p q = true ∨ xAF q p = true then (if p = [100, 47] then [99, 47] else [100, 47]) else q) p = false := by decide
  exact key _ (xB2 _) _ (xB2 _)
theorem xMf (x : RawM) : xAJ (spM x) = false := by
  unfold spM
  split
  · exact xCl _
  · split
    · simp [xAJ]
    · split
      · simp [xAJ]
      · split
        · exact xFb _
        · rename_i h
          generalize keyM x.b = a at h
          generalize keyM x.d = b at h
          unfold minS maxL xAJ
          simp only
          rcases xBv a b with h1 | h1 | h1
          · have h2 := xB1 h1
            simp [h1, h2, (xDS h1).symm]
          · exact absurd h1 h
          · have h2 := xB1 h1
            simp [h1, h2, (xDS h1).symm]
theorem xHw (x : RawM) : MsgOk (xAl x) := by
  have ha := xMa x
  have h1 := (xB3 (xB2 x.b)).2
  have h2 := (xB3 (xOt x)).2
  unfold xAl
  repeat' split
  all_goals refine ⟨by simp, ?_, ?_⟩
  all_goals first | (intro h; exact ha) | (intro h; exact ⟨h1, h2⟩) | (intro h; simp at h)
theorem xFg (x : RawM) (h : (xAl x).kind = 3 ∨ (xAl x).kind = 6) : xAJ (xAl x).sp = false := by
  have hs := xMf x
  unfold xAl at h ⊢
  repeat' split
  all_goals first | exact hs | simp_all
theorem xOD {a b : Str} {n : Nat} (ha : a.length ≤ n) (hb : b.length ≤ n) : (minS a b).length ≤ n ∧ (maxL a b).length ≤ n := by
  unfold minS maxL
  constructor <;> split <;> assumption
theorem xFh (x : RawM) : MsgLen 8 (xAl x) := by
  have h1 := (xB3 (xB2 x.b)).1
  have h2 := (xB3 (xOt x)).1
  have h3 := xGD x.b
  have h4 := xGD x.d
  have h5 := xLo (xA5 x.b)
  have h6 := xOD (n := 8) (a := keyM x.b) (b := keyM x.d) (by omega) (by omega)
  have hs : (spM x).lo.length ≤ 8 ∧ (spM x).hi.length ≤ 8 := by
    unfold spM
    repeat' split
    · exact ⟨by show (xA5 x.b).length ≤ 8; omega, by show (upL (xA5 x.b)).length ≤ 8; omega⟩
    · exact ⟨by simp only; omega, by simp⟩
    · simp
    · exact ⟨by show (keyM x.b).length ≤ 8; omega, by show (keyM x.b ++ [0]).length ≤ 8; simp; omega⟩
    · exact h6
  unfold xAl
  repeat' split
  all_goals (refine ⟨?_, ?_, ?_, ?_, ?_⟩ <;> simp only [List.length_nil] <;> omega)
theorem xJ1 {l : List RawM} {n : Nat} : ∀ m ∈ xD5 l n, MsgOk m := by
  intro m hm
  obtain ⟨x, _, rfl⟩ := List.mem_map.1 hm
  exact xHw x
theorem xG8 {l : List RawM} {n : Nat} : ∀ m ∈ xD5 l n, MsgLen 8 m := by
  intro m hm
  obtain ⟨x, _, rfl⟩ := List.mem_map.1 hm
  exact xFh x
end Go.Pu
set_option linter.unusedVariables false
set_option linter.unusedSimpArgs false
namespace Go.Pu
def covL (m : MsgL) (d : List SpanL) : Bool := (xBW (xAG m) d).length == 0
def nxtL (m : MsgL) (d : List SpanL) : List SpanL := xBW (d ++ xDj m) (xA2 m)
def xDk : List MsgL → List SpanL → List MsgL
  | [], _ => []
  | m :: r, d => if covL m d = true then xDk r d else m :: xDk r (nxtL m d)
def xQj : List MsgL → List SpanL → List SpanL
  | [], d => d
  | m :: r, d => if covL m d = true then xQj r d else xQj r (nxtL m d)
def xMG (l : List MsgL) (dead : List SpanL) : List MsgL × List SpanL := ((xDk l.reverse (xAn dead)).reverse, xQj l.reverse (xAn dead))
def xCk (l : List MsgL) : List MsgL := (xMG l []).1
theorem xKi : xAn [] = [] := rfl
theorem xBh (m : MsgL) : (xAG m).length ≤ 2 := by
  unfold xAG
  repeat' split
  all_goals simp
theorem xQJ (m : MsgL) : (xDj m).length ≤ 2 := by unfold xDj; split; simp; exact xBh m
theorem xDg (m : MsgL) : (xA2 m).length ≤ 1 := by
  unfold xA2
  repeat' split
  all_goals simp
theorem nxt_len (m : MsgL) (d : List SpanL) : (nxtL m d).length ≤ d.length + 3 := by
  have h1 := xEW (d ++ xDj m) (xA2 m)
  have h2 := xQJ m
  have h3 := xDg m
  unfold nxtL
  rw [List.length_append] at h1
  omega
theorem cov_iff {m : MsgL} {d : List SpanL} : covL m d = true ↔ ∀ k, inL (xAG m) k = true → inL d k = true := by
  unfold covL
  have e : ((xBW (xAG m) d).length == 0) = true ↔ xBW (xAG m) d = [] := by simp
  rw [e]
  constructor
  · intro h k hk
    have := xBU (xAG m) d k
    rw [h, hk] at this
    cases hd : inL d k with
    | true => rfl
    | false => rw [hd] at this; simp [inL] at this
  · intro h
    refine Nrm.ext (xDA _ _) ⟨by simp, by simp⟩ fun k => ?_
    rw [xBU]
    cases hw : inL (xAG m) k with
    | false => simp [inL]
    | true => rw [h k hw]; simp [inL]
theorem xFc (m : MsgL) (d : List SpanL) (k : Str) : inL (nxtL m d) k = ((inL d k || inL (xDj m) k) && !inL (xA2 m) k) := by
  unfold nxtL
  rw [xBU, xAo]
structure MsgW (m : MsgL) : Prop extends MsgOk m where
  w : ∃ k, inL (xAG m) k = true
theorem xP6 (x : RawM) : MsgW (xAl x) := by
  refine ⟨xHw x, ?_⟩
  have hk := (xHw x).k
  unfold xAG
  split
  · exact ⟨(xAl x).key, by rw [xAW, xFG]; simp⟩
  · split
    · exact ⟨(xAl x).fr, by rw [xAW, xAX]; simp [begins_iff]⟩
    · split
      · exact ⟨(xAl x).to, by rw [xAW, xAX]; simp [begins_iff]⟩
      · have h := xFg x (by omega)
        exact ⟨(xAl x).sp.lo, by rw [xAW, xDQ h]; rfl⟩
theorem xMB {m : MsgL} (h : MsgW m) : covL m [] = false := by
  cases hc : covL m [] with
  | false => rfl
  | true =>
    obtain ⟨k, hk⟩ := h.w
    have := cov_iff.1 hc k hk
    simp [inL] at this
theorem xJ6 : ∀ (r : List MsgL) (d : List SpanL), (xDk r d).Sublist r
  | [], d => by simp [xDk]
  | m :: r, d => by
    rw [xDk]
    split
    · exact (xJ6 r d).cons m
    · exact (xJ6 r _).cons_cons m
theorem xH6 : ∀ (r : List MsgL) (d : List SpanL), xDk (xDk r d) d = xDk r d
  | [], d => rfl
  | m :: r, d => by
    rw [xDk]
    cases h : covL m d with
    | true => simp only [if_true]; exact xH6 r d
    | false =>
      simp only [Bool.false_eq_true, if_false]
      rw [xDk, h]
      simp only [Bool.false_eq_true, if_false]
      rw [xH6 r]
theorem xRm (l : List MsgL) : xCk (xCk l) = xCk l := by
  unfold xCk xMG
  simp only [List.reverse_reverse, xKi]
  rw [xH6]
theorem reduce_sub (l : List MsgL) : (xCk l).Sublist l := by
  have := (xJ6 l.reverse (xAn [])).reverse
  rw [List.reverse_reverse] at this
  exact this
theorem xDz {l : List MsgL} {m : MsgL} (h : MsgW m) : xCk (l ++ [m]) = (xDk l.reverse (nxtL m [])).reverse ++ [m] := by
  unfold xCk xMG
  simp only [List.reverse_append, List.reverse_cons, List.reverse_nil, List.nil_append, List.singleton_append, xKi]
  rw [xDk, xMB h]
  simp
theorem xNO : ∀ (r : List MsgL) (d : List SpanL), (∀ k, inL d k = true) → xDk r d = []
  | [], d, _ => rfl
  | m :: r, d, h => by
    rw [xDk, if_pos (cov_iff.2 fun k _ => h k)]
    exact xNO r d h
def xDE : MsgL := ⟨3, [], [], ⟨[], []⟩, [], [], 0⟩
theorem xQh : MsgW xDE := ⟨⟨by simp [xDE], by simp [xDE], by simp [xDE]⟩, [], by simp [xAG, xDE, inL, hasL, xAq]⟩
theorem xRJ (l : List MsgL) : xCk (l ++ [xDE]) = [xDE] := by
  rw [xDz xQh, xNO]
  · rfl
  · intro k
    rw [xFc]
    have h1 : inL (xDj xDE) k = true := by simp [xDj, xAG, xDE, inL, hasL, xB9]
    have h2 : inL (xA2 xDE) k = false := by simp [xA2, xDE, inL]
    rw [h1, h2]
    simp
theorem xS9 {l : List MsgL} {m : MsgL} (h : MsgW m) (hk : m.kind = 1 ∨ m.kind = 2 ∨ m.kind = 3) : xCk (l ++ [m, m]) = xCk (l ++ [m]) := by
  have e : l ++ [m, m] = (l ++ [m]) ++ [m] := by simp
  rw [e, xDz h, xDz h]
  congr 1
  rw [List.reverse_append]
  simp only [List.reverse_cons, List.reverse_nil, List.nil_append, List.singleton_append]
  rw [xDk, if_pos]
  refine cov_iff.2 fun k hw => ?_
  rw [xFc]
  have h1 : xDj m = xAG m := by unfold xDj; rw [if_neg (by omega)]
  have h2 : xA2 m = [] := by unfold xA2; rw [if_neg (by omega), if_neg (by omega)]
  rw [h1, h2, hw]
  simp [inL]
def xKK (s d : SpanL) : Bool := !Op.bytesLess s.lo d.lo && (d.hi == [] || (!(s.hi == []) && (Op.bytesLess s.hi d.hi || s.hi == d.hi)))
def xHD (m d : MsgL) : Bool := (xAG m).all fun s => xKK s d.sp
theorem xGh {s d : SpanL} (hs : xAJ s = false) : xKK s d = true ↔ ∀ k, hasL s k = true → hasL d k = true := by
  unfold xKK
  simp only [Bool.and_eq_true, Bool.not_eq_true', Bool.or_eq_true, beq_iff_eq, beq_eq_false_iff_ne, ne_eq]
  constructor
  · rintro ⟨h1, h2⟩ k hk
    obtain ⟨g1, g2⟩ := has_iff.1 hk
    have h3 : ble d.lo s.lo = true := by simp [ble, h1]
    refine has_iff.2 ⟨xBC h3 g1, ?_⟩
    rcases h2 with h2 | ⟨h2, h4⟩
    · exact .inl h2
    · have g2 := g2.resolve_left h2
      rcases h4 with h4 | h4
      · exact .inr (xAk g2 h4)
      · rw [← h4]; exact .inr g2
  · intro h
    have h1 := (has_iff.1 (h _ (xDQ hs))).1
    refine ⟨by simpa [ble] using h1, ?_⟩
    by_cases hd : d.hi = []
    · exact .inl hd
    · refine .inr ?_
      have no : ∀ k, ble d.hi k = true → hasL d k = false := by
        intro k hk
        cases hh : hasL d k with
        | false => rfl
        | true =>
          have := (has_iff.1 hh).2.resolve_left hd
          simp [ble, this] at hk
      have hm : ble d.hi (maxL s.lo d.hi) = true := by
        have := (xHs (a := s.lo) (b := d.hi) (k := maxL s.lo d.hi)).1 (xCR _)
        exact this.2
      have hm1 : ble s.lo (maxL s.lo d.hi) = true := by
        have := (xHs (a := s.lo) (b := d.hi) (k := maxL s.lo d.hi)).1 (xCR _)
        exact this.1
      by_cases hsh : s.hi = []
      · have := h (maxL s.lo d.hi) (has_iff.2 ⟨hm1, .inl hsh⟩)
        rw [no _ hm] at this
        cases this
      · refine ⟨hsh, ?_⟩
        rcases xBv s.hi d.hi with h4 | h4 | h4
        · exact .inl h4
        · exact .inr h4
        · have h5 : Op.bytesLess (maxL s.lo d.hi) s.hi = true := by
            rcases xJC s.lo d.hi with e | e <;> rw [e]
            · exact xBM hs hsh
            · exact h4
          have := h (maxL s.lo d.hi) (has_iff.2 ⟨hm1, .inr h5⟩)
          rw [no _ hm] at this
          cases this
theorem xHH (x : RawM) : ∀ s ∈ xAG (xAl x), xAJ s = false := by
  intro s hs
  have hk := (xHw x).k
  unfold xAG at hs
  split at hs
  · rw [List.mem_singleton.1 hs]; exact xFb _
  · split at hs
    · simp only [List.mem_cons, List.not_mem_nil, or_false] at hs
      rcases hs with rfl | rfl <;> exact xCl _
    · split at hs
      · rw [List.mem_singleton.1 hs]; exact xCl _
      · rw [List.mem_singleton.1 hs]; exact xFg x (by omega)
theorem xU5 (x y : RawM) (hy : (xAl y).kind = 3) : ((xCk [xAl x, xAl y]).length == 1) = xHD (xAl x) (xAl y) := by
  have e : ([xAl x, xAl y] : List MsgL) = [xAl x] ++ [xAl y] := rfl
  rw [e, xDz (xP6 y)]
  have hw : xAG (xAl y) = [(xAl y).sp] := by unfold xAG; rw [if_neg (by omega), if_neg (by omega), if_neg (by omega)]
  have hkl : xDj (xAl y) = [(xAl y).sp] := by unfold xDj; rw [if_neg (by omega), hw]
  have hrd : xA2 (xAl y) = [] := by unfold xA2; rw [if_neg (by omega), if_neg (by omega)]
  have hd : ∀ k, inL (nxtL (xAl y) []) k = hasL (xAl y).sp k := by
    intro k
    rw [xFc, hkl, hrd]
    simp [inL]
  have hc : covL (xAl x) (nxtL (xAl y) []) = xHD (xAl x) (xAl y) := by
    rw [Bool.eq_iff_iff, cov_iff]
    unfold xHD
    rw [List.all_eq_true]
    constructor
    · intro h s hs
      refine (xGh (xHH x s hs)).2 fun k hk => ?_
      rw [← hd]
      exact h k (inL_iff.2 ⟨s, hs, hk⟩)
    · intro h k hk
      obtain ⟨s, hs, hk⟩ := inL_iff.1 hk
      rw [hd]
      exact (xGh (xHH x s hs)).1 (h s hs) k hk
  simp only [List.reverse_cons, List.reverse_nil, List.nil_append]
  rw [xDk, hc]
  cases xHD (xAl x) (xAl y) <;> simp [xDk]
end Go.Pu
set_option linter.unusedVariables false
set_option linter.unusedSimpArgs false
namespace Go.Pu
def xBT (s : SpanL) : Str → List Str → List SpanL
  | lo, [] => [xAV s ⟨lo, []⟩]
  | lo, p :: l => xAV s ⟨lo, p⟩ :: xBT s p l
theorem xI1 (s : SpanL) : ∀ (lo : Str) (l : List Str), (xBT s lo l).length = l.length + 1
  | _, [] => rfl
  | _, p :: l => by rw [xBT, List.length_cons, xI1 s p l, List.length_cons]
def xAZ (x : Str) : List Str → List Str → Bool → List Str × Bool
  | [], nx, d => (nx, d)
  | y :: l, nx, d =>
    if d = false ∧ (Op.bytesLess x y || x == y) = true then xAZ x l ((if Op.bytesLess x y = true then nx ++ [x] else nx) ++ [y]) true
    else xAZ x l (nx ++ [y]) d
def xCK (out : List Str) (x : Str) : List Str :=
  let r := xAZ x out [] (x == [])
  if r.2 = false then r.1 ++ [x] else r.1
def pivL (l : List Str) : List Str := l.foldl xCK []
theorem xES (x : Str) : ∀ (l nx : List Str) (d : Bool), (xAZ x l nx d).1.length ≤ nx.length + l.length + (if d = true then 0 else if (xAZ x l nx d).2 = true then 1 else 0)
  | [], nx, d => by simp [xAZ]
  | y :: l, nx, d => by
    unfold xAZ
    split
    · rename_i h
      have := xES x l ((if Op.bytesLess x y = true then nx ++ [x] else nx) ++ [y]) true
      have h2 : (xAZ x l ((if Op.bytesLess x y = true then nx ++ [x] else nx) ++ [y]) true).2 = true := by
        have key : ∀ (l nx : List Str), (xAZ x l nx true).2 = true := by
          intro l
          induction l with
          | nil => intro nx; rfl
          | cons z l ih => intro nx; unfold xAZ; rw [if_neg (by simp)]; exact ih _
        exact key _ _
      rw [h2, h.1]
      simp only [if_true, List.length_append, List.length_cons, List.length_nil] at this ⊢
      split at this <;> simp_all <;> omega
    · have := xES x l (nx ++ [y]) d
      simp only [List.length_append, List.length_cons, List.length_nil] at this ⊢
      omega
theorem xHb (out : List Str) (x : Str) : (xCK out x).length ≤ out.length + 1 := by
  have := xES x out [] (x == [])
  unfold xCK
  generalize (x == []) = d0 at this
  generalize xAZ x out [] d0 = r at this
  obtain ⟨r1, r2⟩ := r
  simp only [List.length_nil] at this ⊢
  cases r2 <;> cases d0 <;> simp at this ⊢ <;> omega
def Asc (l : List Str) : Prop := (∀ x ∈ l, x ≠ []) ∧ l.Pairwise (fun a b => Op.bytesLess a b = true)
theorem xCr (x : Str) : ∀ (l nx : List Str), xAZ x l nx true = (nx ++ l, true)
  | [], nx => by simp [xAZ]
  | y :: l, nx => by rw [xAZ, if_neg (by simp), xCr x l]; simp
def putP (x : Str) : List Str → List Str
  | [] => [x]
  | y :: l => if Op.bytesLess x y = true then x :: y :: l else if x = y then y :: l else y :: putP x l
theorem xE3 (x : Str) : ∀ (l nx : List Str), (if (xAZ x l nx false).2 = false then (xAZ x l nx false).1 ++ [x] else (xAZ x l nx false).1) = nx ++ putP x l
  | [], nx => by simp [xAZ, putP]
  | y :: l, nx => by
    have e : xAZ x (y :: l) nx false = if false = false ∧ (Op.bytesLess x y || x == y) = true then xAZ x l ((if Op.bytesLess x y = true then nx ++ [x] else nx) ++ [y]) true else xAZ x l (nx ++ [y]) false := by rw [xAZ]
    by_cases h : Op.bytesLess x y = true
    · have e2 : xAZ x (y :: l) nx false = (nx ++ x :: y :: l, true) := by
        rw [e, if_pos ⟨rfl, by rw [h]; rfl⟩, if_pos h, xCr]; simp
      rw [e2, putP, if_pos h]
      simp
    · by_cases h2 : x = y
      · have e2 : xAZ x (y :: l) nx false = (nx ++ y :: l, true) := by
          rw [e, if_pos ⟨rfl, by simp [h2]⟩, if_neg h, xCr]; simp
        rw [e2, putP, if_neg h, if_pos h2]
        simp
      · have e2 : xAZ x (y :: l) nx false = xAZ x l (nx ++ [y]) false := by
          rw [e, if_neg (by simp [h, h2])]
        rw [e2, xE3 x l, putP, if_neg h, if_neg h2]
        simp
theorem xI0 (out : List Str) (x : Str) : xCK out x = if x = [] then out else putP x out := by
  unfold xCK
  by_cases h : x = []
  · have : (x == []) = true := by simpa using h
    rw [this, xCr, if_pos h]
    simp
  · have : (x == []) = false := by simpa using h
    rw [this, if_neg h]
    exact xE3 x out []
theorem xJm {x z : Str} : ∀ {l : List Str}, z ∈ putP x l → z = x ∨ z ∈ l
  | [], h => .inl (by simpa [putP] using h)
  | y :: l, h => by
    rw [putP] at h
    split at h
    · simpa using h
    · split at h
      · exact .inr h
      · rcases List.mem_cons.1 h with h | h
        · exact .inr (by simp [h])
        · rcases xJm h with h | h
          · exact .inl h
          · exact .inr (by simp [h])
theorem xMp {x : Str} (hx : x ≠ []) : ∀ {l : List Str}, Asc l → Asc (putP x l)
  | [], _ => ⟨by simp [putP, hx], by simp [putP]⟩
  | y :: l, ⟨h1, h2⟩ => by
    rw [putP]
    obtain ⟨h3, h4⟩ := List.pairwise_cons.1 h2
    split
    · next h =>
      refine ⟨?_, List.pairwise_cons.2 ⟨?_, h2⟩⟩
      · intro z hz
        rcases List.mem_cons.1 hz with rfl | hz
        · exact hx
        · exact h1 z hz
      · intro z hz
        rcases List.mem_cons.1 hz with rfl | hz
        · exact h
        · exact xAk h (h3 z hz)
    · split
      · exact ⟨h1, h2⟩
      · next h h5 =>
        have hyx : Op.bytesLess y x = true := by
          rcases xBv x y with h6 | h6 | h6
          · exact absurd h6 h
          · exact absurd h6 h5
          · exact h6
        obtain ⟨h6, h7⟩ := xMp hx (l := l) ⟨fun z hz => h1 z (by simp [hz]), h4⟩
        refine ⟨?_, List.pairwise_cons.2 ⟨?_, h7⟩⟩
        · intro z hz
          rcases List.mem_cons.1 hz with rfl | hz
          · exact h1 _ (by simp)
          · exact h6 z hz
        · intro z hz
          rcases xJm hz with rfl | hz
          · exact hyx
          · exact h3 z hz
theorem xGZ : ∀ (l o : List Str), Asc o → Asc (l.foldl xCK o)
  | [], o, h => h
  | x :: l, o, h => by
    rw [List.foldl_cons]
    refine xGZ l _ ?_
    rw [xI0]
    split
    · exact h
    · next hx => exact xMp hx h
theorem xRy (l : List Str) : Asc (pivL l) := xGZ l [] ⟨by simp, by simp⟩
theorem xGY : ∀ (l o : List Str), (l.foldl xCK o).length ≤ o.length + l.length
  | [], o => by simp
  | x :: l, o => by
    rw [List.foldl_cons, List.length_cons]
    have h1 := xGY l (xCK o x)
    have h2 := xHb o x
    omega
theorem xRx (l : List Str) : (pivL l).length ≤ l.length := by
  have := xGY l []
  simpa [pivL] using this
def atL (key : Str) : List Str → Nat
  | [] => 0
  | p :: l => if ble p key = true then atL key l + 1 else 0
theorem xRC (key : Str) : ∀ l : List Str, atL key l ≤ l.length
  | [] => Nat.le_refl _
  | p :: l => by
    have := xRC key l
    rw [atL, List.length_cons]
    split <;> omega
theorem xVK (key : Str) : ∀ (l : List Str) (i : Nat) (p : Str), l[i]? = some p → i ≤ atL key l → (ble p key = true ↔ i < atL key l)
  | [], i, p, h, _ => by simp at h
  | q :: l, i, p, h, hi => by
    rw [atL] at hi ⊢
    cases i with
    | zero =>
      obtain rfl : q = p := by simpa using h
      split
      · next h2 => simp [h2]
      · next h2 => simp [h2]
    | succ i =>
      split at hi
      · next h2 =>
        rw [if_pos h2]
        have := xVK key l i p (by simpa using h) (by omega)
        rw [this]
        omega
      · omega
theorem xKw (s : SpanL) (key : Str) : ∀ (l : List Str) (lo : Str) (k : Nat) (t : SpanL), Asc l → (∀ p ∈ l, ble lo p = true) → (xBT s lo l)[k]? = some t →
    hasL t key = (ble lo key && (decide (k = atL key l) && hasL s key))
  | [], lo, k, t, _, _, h => by
    rw [xBT] at h
    have hk : k = 0 := by
      have := (List.getElem?_eq_some_iff.1 h).1
      simp at this
      omega
    subst hk
    obtain rfl : xAV s ⟨lo, []⟩ = t := by simpa using h
    rw [xBZ, xG9, atL]
    cases hasL s key <;> simp
  | p :: l, lo, k, t, ha, hlo, h => by
    rw [xBT] at h
    obtain ⟨h3, h4⟩ := List.pairwise_cons.1 ha.2
    cases k with
    | zero =>
      obtain rfl : xAV s ⟨lo, p⟩ = t := by simpa using h
      rw [xBZ, xIF (ha.1 p (by simp)), atL]
      have e : ble p key = !Op.bytesLess key p := rfl
      rw [e]
      cases Op.bytesLess key p <;> cases hasL s key <;> simp
    | succ k =>
      rw [xKw s key l p k t ⟨fun z hz => ha.1 z (by simp [hz]), h4⟩ (fun z hz => ble_iff.2 (.inl (h3 z hz))) (by simpa using h), atL]
      cases h5 : ble p key with
      | true =>
        have h6 : ble lo key = true := xBC (hlo p (by simp)) h5
        simp [h6]
      | false => simp
theorem xR0 (s : SpanL) (key : Str) : ∀ (l : List Str) (lo : Str), Asc l → (∀ p ∈ l, ble lo p = true) → inL (xBT s lo l) key = (ble lo key && hasL s key)
  | [], lo, _, _ => by
    rw [xBT, xAW, xBZ, xG9]
    cases hasL s key <;> simp [inL]
  | p :: l, lo, ha, hlo => by
    obtain ⟨h3, h4⟩ := List.pairwise_cons.1 ha.2
    rw [xBT, xAW, xBZ, xIF (ha.1 p (by simp)), xR0 s key l p ⟨fun z hz => ha.1 z (by simp [hz]), h4⟩ (fun z hz => ble_iff.2 (.inl (h3 z hz)))]
    have e : ble p key = !Op.bytesLess key p := rfl
    cases h5 : Op.bytesLess key p with
    | true => rw [e, h5]; cases hasL s key <;> simp
    | false =>
      have h6 : ble lo key = true := xBC (hlo p (by simp)) (by rw [e, h5]; rfl)
      rw [e, h5, h6]
      cases hasL s key <;> simp
def lbS (l : List Str) (k : Str) : Nat := (l.takeWhile (fun p => Op.bytesLess p k)).length
def fdS (l : List Str) (k : Str) : Bool := match l[lbS l k]? with | some p => p == k | none => false
theorem xJ4 (p : Str) (t : List Str) (k : Str) : lbS (p :: t) k = if Op.bytesLess p k = true then lbS t k + 1 else 0 := by
  unfold lbS
  rw [List.takeWhile_cons]
  split <;> simp [*]
theorem xQG (k : Str) : ∀ t : List Str, lbS t k ≤ t.length
  | [] => Nat.le_refl _
  | p :: t => by
    have := xQG k t
    rw [xJ4, List.length_cons]
    split <;> omega
theorem xUo {t : List Str} (h : t.Pairwise (fun a b => Op.bytesLess a b = true)) (k : Str) : ∀ {m : Nat} {p : Str}, t[m]? = some p → (Op.bytesLess p k = true ↔ m < lbS t k) := by
  induction t with
  | nil => intro m p hp; simp at hp
  | cons x t ih =>
    intro m p hp
    obtain ⟨hx0, ht⟩ := List.pairwise_cons.1 h
    rw [xJ4]
    cases m with
    | zero =>
      obtain rfl : x = p := by simpa using hp
      split <;> simp [*]
    | succ m =>
      have hp' : t[m]? = some p := by simpa using hp
      split
      · rw [ih ht hp']; omega
      · next hx =>
        have hmem : p ∈ t := List.mem_of_getElem? hp'
        constructor
        · intro h2
          exact absurd (xAk (hx0 p hmem) h2) hx
        · intro h2; omega
theorem xTL (k : Str) : ∀ {t : List Str}, t.Pairwise (fun a b => Op.bytesLess a b = true) → lbS t k + (if fdS t k = true then 1 else 0) = atL k t
  | [], _ => rfl
  | x :: t, h => by
    obtain ⟨hx0, ht⟩ := List.pairwise_cons.1 h
    have ih := xTL k ht
    unfold fdS at ih ⊢
    rw [xJ4, atL]
    by_cases hx : Op.bytesLess x k = true
    · rw [if_pos hx, if_pos (ble_iff.2 (.inl hx)), List.getElem?_cons_succ]
      omega
    · rw [if_neg hx, List.getElem?_cons_zero]
      by_cases he : x = k
      · subst he
        have : atL x t = 0 := by
          cases t with
          | nil => rfl
          | cons y t =>
            rw [atL, if_neg]
            have h1 := hx0 y (by simp)
            intro h2
            have := xDs h2 h1
            rw [xAq] at this
            cases this
        simp [xCR, this]
      · have h1 : ble x k = false := by
          cases hb : ble x k with
          | false => rfl
          | true => rcases ble_iff.1 hb with h2 | h2
                    · exact absurd h2 hx
                    · exact absurd h2 he
        simp [he, h1]
theorem xSv {a b : Str} (h : ble a b = true) : ∀ l : List Str, atL a l ≤ atL b l
  | [] => Nat.le_refl _
  | p :: l => by
    rw [atL, atL]
    split
    · next h2 =>
      rw [if_pos (xBC h2 h)]
      have := xSv h l
      omega
    · exact Nat.zero_le _
end Go.Pu
set_option linter.unusedVariables false
set_option linter.unusedSimpArgs false
namespace Go.Pu
theorem xOT {a b : SpanL} (h : xA7 a b = true) {k : Str} (hk : hasL b k = true) : hasL a k = true := by
  rw [xA7, Bool.or_eq_true, Bool.and_eq_true] at h
  rcases h with h | ⟨h1, h2⟩
  · rw [xAU h] at hk; cases hk
  · have hk' := has_iff.1 hk
    refine has_iff.2 ⟨xBC (has_iff.1 h1).1 hk'.1, ?_⟩
    by_cases ha : a.hi = []
    · exact .inl ha
    · right
      have hn : ¬ elt a.hi b.hi := fun h => by have := cmpEnd_lt.2 h; have := of_decide_eq_true h2; omega
      rcases hk'.2 with h3 | h3
      · exact absurd ⟨ha, .inl h3⟩ hn
      · rcases xBv a.hi b.hi with h | h | h
        · exact absurd ⟨ha, .inr h⟩ hn
        · rw [h]; exact h3
        · exact xAk h3 h
def allS : SpanL := ⟨[], []⟩
theorem xKN (k : Str) : hasL allS k = true := by simp [hasL, allS, xB9]
def xBA (m : MsgL) : Bool := m.kind == 4 || m.kind == 5
def xAh (m : MsgL) : Bool := m.kind == 3 || m.kind == 6
def tch (a b : SpanL) : Bool := !xAJ (xAV a b)
theorem xRW (a b : SpanL) : tch a b = tch b a := by unfold tch; rw [xP0]
theorem tch_iff {a b : SpanL} : tch a b = true ↔ ∃ k, hasL a k = true ∧ hasL b k = true := by
  unfold tch
  constructor
  · intro h
    have h : xAJ (xAV a b) = false := by simpa using h
    have := xDQ h
    rw [xBZ, Bool.and_eq_true] at this
    exact ⟨_, this⟩
  · rintro ⟨k, h1, h2⟩
    cases he : xAJ (xAV a b) with
    | false => rfl
    | true =>
      have := xAU he k
      rw [xBZ, h1, h2] at this
      cases this
def xBx (a b : List SpanL) : Bool := a.any fun x => b.any fun y => tch x y
theorem touch_iff {a b : List SpanL} : xBx a b = true ↔ ∃ k, inL a k = true ∧ inL b k = true := by
  unfold xBx inL
  simp only [List.any_eq_true, tch_iff]
  constructor
  · rintro ⟨x, hx, y, hy, k, h1, h2⟩; exact ⟨k, ⟨x, hx, h1⟩, ⟨y, hy, h2⟩⟩
  · rintro ⟨k, ⟨x, hx, h1⟩, ⟨y, hy, h2⟩⟩; exact ⟨x, hx, y, hy, k, h1, h2⟩
def xAw (m : MsgL) : List SpanL := xA2 m ++ xAG m
def xCM (m : MsgL) (s : SpanL) : Bool := (xAw m).all (xA7 s)
theorem xDP {m : MsgL} {s : SpanL} (h : xCM m s = true) {k : Str} (hk : inL (xAw m) k = true) : hasL s k = true := by
  unfold inL at hk
  obtain ⟨x, hx, h2⟩ := List.any_eq_true.1 hk
  exact xOT (List.all_eq_true.1 h x hx) h2
def xAx (m : MsgL) (s : SpanL) : List MsgL :=
  if xAh m = true then (if xAJ (xAV m.sp s) = true then [] else [{ m with sp := xAV m.sp s }]) else if (xAG m).any (fun x => tch x s) = true then [m] else []
def xIx (m : MsgL) (s : SpanL) : List MsgL :=
  if xBx (xAG m) [s] = true then [if xAh m = true then { m with sp := xAV m.sp s } else m] else []
theorem xOr (l : List SpanL) (s : SpanL) : xBx l [s] = l.any (fun x => tch x s) := by simp [xBx]
theorem xCG {m : MsgL} (h : xAh m = true) : xAG m = [m.sp] := by
  unfold xAh at h
  have : m.kind = 3 ∨ m.kind = 6 := by simpa using h
  unfold xAG
  rw [if_neg (by omega), if_neg (by omega), if_neg (by omega)]
theorem xPi (m : MsgL) (s : SpanL) : xAx m s = xIx m s := by
  unfold xAx xIx
  rw [xOr]
  cases hr : xAh m with
  | true =>
    rw [xCG hr]
    simp only [if_true, List.any_cons, List.any_nil, Bool.or_false, tch]
    cases xAJ (xAV m.sp s) <;> simp
  | false => simp
def xFP (b l : List SpanL) : Bool := !l.any fun x => b.any fun y => tch y x
theorem xUz (b l : List SpanL) : xFP b l = !xBx l b := by
  unfold xFP xBx
  congr 2
  funext x
  congr 1
  funext y
  exact xRW y x
def xCs (m : MsgL) (s : SpanL) : List MsgL := if xAh m = true then (xBW [m.sp] [s]).map (fun x => { m with sp := x }) else []
structure WayL where
  go : List MsgL
  stay : List MsgL
  blk : List SpanL
def xAg (s : SpanL) (w : WayL) (m : MsgL) : WayL :=
  if xBA m = true then
    (if (xCM m s && xFP w.blk (xAw m)) = true then ⟨w.go ++ [m], w.stay, w.blk⟩ else ⟨w.go, w.stay ++ [m], w.blk ++ xAw m⟩)
  else match xAx m s with
    | [] => ⟨w.go, w.stay ++ [m], w.blk⟩
    | p :: _ => if xFP w.blk (xAG p) = true then ⟨w.go ++ [p], w.stay ++ xCs m s, w.blk⟩ else ⟨w.go, w.stay ++ [m], w.blk ++ xAG p⟩
def xAf (buf : List MsgL) (s : SpanL) : WayL := buf.foldl (xAg s) ⟨[], [], []⟩
def xAK (pv : List Str) : List SpanL := xBT allS [] pv
theorem xCV (pv : List Str) : (xAK pv).length = pv.length + 1 := xI1 _ _ _
theorem xGX {pv : List Str} (ha : Asc pv) {i : Nat} {s : SpanL} (h : (xAK pv)[i]? = some s) (k : Str) : hasL s k = decide (i = atL k pv) := by
  have := xKw allS k pv [] i s ha (fun p _ => xEk p) h
  rw [this, xEk, xKN]
  simp
theorem xL2 (pv : List Str) (k : Str) : ∃ s, (xAK pv)[atL k pv]? = some s := by
  have h1 := xRC k pv
  have h2 := xCV pv
  exact ⟨_, List.getElem?_eq_getElem (by omega)⟩
def xDr (m : MsgL) (pv : List Str) : Bool := xBA m && !xCM m (((xAK pv)[atL m.fr pv]?).getD xHi)
def xFF (m : MsgL) (pv : List Str) : Bool := xBA m && (xAK pv).all fun s => !xCM m s
theorem moves_iff {m : MsgL} : xBA m = true ↔ m.kind = 4 ∨ m.kind = 5 := by simp [xBA]
theorem xM7 {m : MsgL} (h : xBA m = true) : inL (xAw m) m.fr = true := by
  unfold xAw xA2
  rw [if_pos (moves_iff.1 h), xAo]
  have : xAF m.fr m.fr = true := begins_iff.2 ⟨[], by simp⟩
  simp [inL, xAX, this]
theorem xSV {m : MsgL} {pv : List Str} (ha : Asc pv) {i : Nat} {s : SpanL} (h : (xAK pv)[i]? = some s) (hm : xBA m = true) (hl : xCM m s = true) : i = atL m.fr pv := by
  have := xDP hl (xM7 hm)
  rw [xGX ha h] at this
  exact of_decide_eq_true this
theorem xNh {m : MsgL} {pv : List Str} (ha : Asc pv) : xDr m pv = xFF m pv := by
  unfold xDr xFF
  cases hm : xBA m with
  | false => rfl
  | true =>
    rw [Bool.true_and, Bool.true_and]
    obtain ⟨s, hs⟩ := xL2 pv m.fr
    rw [hs, Option.getD_some]
    cases hl : xCM m s with
    | true =>
      symm
      rw [Bool.not_true, List.all_eq_false]
      exact ⟨s, List.mem_of_getElem? hs, by rw [hl]; simp⟩
    | false =>
      symm
      rw [Bool.not_false, List.all_eq_true]
      intro t ht
      obtain ⟨i, hi⟩ := List.getElem?_of_mem ht
      cases hlt : xCM m t with
      | false => rfl
      | true =>
        have := xSV ha hi hm hlt
        subst this
        rw [hs] at hi
        cases hi
        rw [hl] at hlt; cases hlt
theorem xTt (s : SpanL) (w : WayL) (m : MsgL) : ∃ x, (xAg s w m).go = w.go ++ x := by
  unfold xAg
  split
  · split
    · exact ⟨_, rfl⟩
    · exact ⟨[], by simp⟩
  · split
    · exact ⟨[], by simp⟩
    · split
      · exact ⟨_, rfl⟩
      · exact ⟨[], by simp⟩
theorem xOz (s : SpanL) (w : WayL) (m : MsgL) : ∃ x, (xAg s w m).stay = w.stay ++ x := by
  unfold xAg
  split
  · split
    · exact ⟨[], by simp⟩
    · exact ⟨_, rfl⟩
  · split
    · exact ⟨_, rfl⟩
    · split
      · exact ⟨_, rfl⟩
      · exact ⟨_, rfl⟩
theorem xQY (s : SpanL) : ∀ (l : List MsgL) (w : WayL), ∃ x, (l.foldl (xAg s) w).go = w.go ++ x
  | [], w => ⟨[], by simp⟩
  | m :: l, w => by
    obtain ⟨x, hx⟩ := xTt s w m
    obtain ⟨y, hy⟩ := xQY s l (xAg s w m)
    exact ⟨x ++ y, by rw [List.foldl_cons, hy, hx, List.append_assoc]⟩
theorem xLP (s : SpanL) : ∀ (l : List MsgL) (w : WayL), ∃ x, (l.foldl (xAg s) w).stay = w.stay ++ x
  | [], w => ⟨[], by simp⟩
  | m :: l, w => by
    obtain ⟨x, hx⟩ := xOz s w m
    obtain ⟨y, hy⟩ := xLP s l (xAg s w m)
    exact ⟨x ++ y, by rw [List.foldl_cons, hy, hx, List.append_assoc]⟩
theorem xHB (l : List SpanL) : xFP [] l = true := by simp [xFP]
theorem xU0 {m : MsgL} {pv : List Str} (ha : Asc pv) (hc : xDr m pv = true) {i : Nat} {s : SpanL} (hs : (xAK pv)[i]? = some s) (r : List MsgL) : ∃ x, (xAf (m :: r) s).stay = m :: x := by
  rw [xNh ha, xFF, Bool.and_eq_true] at hc
  have hl : xCM m s = false := by
    have := List.all_eq_true.1 hc.2 s (List.mem_of_getElem? hs)
    simpa using this
  have e : xAg s ⟨[], [], []⟩ m = ⟨[], [m], xAw m⟩ := by
    unfold xAg
    rw [if_pos hc.1, hl]
    simp
  obtain ⟨x, hx⟩ := xLP s r ⟨[], [m], xAw m⟩
  exact ⟨x, by unfold xAf; rw [List.foldl_cons, e, hx]; rfl⟩
theorem xMv (m : MsgL) (s : SpanL) : (xAx m s).length ≤ 1 := by
  unfold xAx
  repeat' split
  all_goals simp
theorem first_part {m : MsgL} {pv : List Str} (ha : Asc pv) (hc : xDr m pv = false) {i : Nat} {s : SpanL} (hs : (xAK pv)[i]? = some s) {p : MsgL} {q : List MsgL} (hp : xAx m s = p :: q) (r : List MsgL) : ∃ x, (xAf (m :: r) s).go = p :: x := by
  have key : ∃ w, xAg s ⟨[], [], []⟩ m = w ∧ w.go = [p] := by
    cases hm : xBA m with
    | false =>
      refine ⟨_, rfl, ?_⟩
      unfold xAg
      rw [if_neg (by rw [hm]; simp), hp]
      simp [xHB]
    | true =>
      have hr : xAh m = false := by
        have := moves_iff.1 hm
        simp only [xAh, Bool.or_eq_false_iff, beq_eq_false_iff_ne]
        omega
      have hpe : p = m ∧ (xAG m).any (fun x => tch x s) = true := by
        unfold xAx at hp
        rw [if_neg (by rw [hr]; simp)] at hp
        split at hp
        · rename_i h; cases hp; exact ⟨rfl, h⟩
        · cases hp
      obtain ⟨s', hs'⟩ := xL2 pv m.fr
      have hl : xCM m s' = true := by
        unfold xDr at hc
        rw [hm, hs', Bool.true_and] at hc
        simpa using hc
      obtain ⟨x, hx, ht⟩ := List.any_eq_true.1 hpe.2
      obtain ⟨k, h1, h2⟩ := tch_iff.1 ht
      have h3 : hasL s' k = true := xDP hl (by unfold xAw; rw [xAo]; have : inL (xAG m) k = true := List.any_eq_true.2 ⟨x, hx, h1⟩; rw [this]; simp)
      rw [xGX ha hs] at h2
      rw [xGX ha hs'] at h3
      have e : i = atL m.fr pv := by rw [of_decide_eq_true h2, of_decide_eq_true h3]
      subst e
      rw [hs] at hs'
      cases hs'
      refine ⟨_, rfl, ?_⟩
      unfold xAg
      rw [if_pos hm, hl, xHB]
      simp [hpe.1]
  obtain ⟨w, hw, hg⟩ := key
  obtain ⟨x, hx⟩ := xQY s r w
  exact ⟨x, by unfold xAf; rw [List.foldl_cons, hw, hx, hg]; rfl⟩
theorem xHd {m : MsgL} {s : SpanL} {k : Str} (hw : inL (xAG m) k = true) (hs : hasL s k = true) : xAx m s ≠ [] := by
  rw [xPi]
  unfold xIx
  rw [if_pos (touch_iff.2 ⟨k, hw, by simp [inL, hs]⟩)]
  simp
theorem goes_some {m : MsgL} (hm : MsgW m) {pv : List Str} (ha : Asc pv) : ∃ i s, i ≤ pv.length ∧ (xAK pv)[i]? = some s ∧ xAx m s ≠ [] := by
  obtain ⟨k, hk⟩ := hm.w
  obtain ⟨s, hs⟩ := xL2 pv k
  refine ⟨_, s, xRC k pv, hs, xHd hk ?_⟩
  rw [xGX ha hs]
  simp
def xA9 (m : MsgL) : Bool := !xAh m
theorem xI2 {m : MsgL} {s : SpanL} {p : MsgL} {q : List MsgL} (h : xAx m s = p :: q) : q = [] ∧ xAh p = xAh m := by
  unfold xAx at h
  split at h
  · split at h
    · cases h
    · cases h; exact ⟨rfl, rfl⟩
  · split at h
    · cases h; exact ⟨rfl, rfl⟩
    · cases h
theorem xOF (m : MsgL) (s : SpanL) : (xCs m s).countP xA9 = 0 := by
  unfold xCs
  split
  · rename_i h
    rw [List.countP_eq_zero]
    intro x hx
    obtain ⟨y, _, rfl⟩ := List.mem_map.1 hx
    have e : xAh { m with sp := y } = xAh m := rfl
    simp [xA9, e, h]
  · rfl
theorem xNK (m : MsgL) (s : SpanL) : (xCs m s).length ≤ 2 := by
  unfold xCs
  split
  · have := xEW [m.sp] [s]
    rw [List.length_map]
    simpa using this
  · simp
theorem xNu (s : SpanL) (w : WayL) (m : MsgL) : (xAg s w m).go.countP xA9 + (xAg s w m).stay.countP xA9 = w.go.countP xA9 + w.stay.countP xA9 + (if xA9 m = true then 1 else 0) ∧ (xAg s w m).go.length + (xAg s w m).stay.length ≤ w.go.length + w.stay.length + 3 ∧ (xAg s w m).blk.length ≤ w.blk.length + 3 := by
  have hb : (xAw m).length ≤ 3 := by
    unfold xAw
    have := xDg m
    have := xBh m
    rw [List.length_append]; omega
  unfold xAg
  split
  · split
    · simp only [List.countP_append, List.countP_cons, List.countP_nil, List.length_append, List.length_cons, List.length_nil]
      exact ⟨by omega, by omega, by omega⟩
    · simp only [List.countP_append, List.countP_cons, List.countP_nil, List.length_append, List.length_cons, List.length_nil]
      exact ⟨by omega, by omega, by omega⟩
  · split
    · simp only [List.countP_append, List.countP_cons, List.countP_nil, List.length_append, List.length_cons, List.length_nil]
      exact ⟨by omega, by omega, by omega⟩
    · rename_i p q hp
      obtain ⟨_, hr⟩ := xI2 hp
      have hw : xA9 p = xA9 m := by unfold xA9; rw [hr]
      have h1 := xOF m s
      have h2 := xNK m s
      have h3 := xBh p
      split
      · simp only [List.countP_append, List.countP_cons, List.countP_nil, List.length_append, List.length_cons, List.length_nil, h1, hw]
        exact ⟨by omega, by omega, by omega⟩
      · simp only [List.countP_append, List.countP_cons, List.countP_nil, List.length_append, List.length_cons, List.length_nil]
        exact ⟨by omega, by omega, by omega⟩
theorem xGH (s : SpanL) : ∀ (l : List MsgL) (w : WayL), (l.foldl (xAg s) w).go.countP xA9 + (l.foldl (xAg s) w).stay.countP xA9 = w.go.countP xA9 + w.stay.countP xA9 + l.countP xA9 ∧ (l.foldl (xAg s) w).go.length + (l.foldl (xAg s) w).stay.length ≤ w.go.length + w.stay.length + 3 * l.length ∧ (l.foldl (xAg s) w).blk.length ≤ w.blk.length + 3 * l.length
  | [], w => by simp
  | m :: l, w => by
    obtain ⟨h1, h2, h3⟩ := xNu s w m
    obtain ⟨h4, h5, h6⟩ := xGH s l (xAg s w m)
    rw [List.foldl_cons, List.countP_cons, List.length_cons]
    exact ⟨by omega, by omega, by omega⟩
theorem xD0 (l : List MsgL) (s : SpanL) : (xAf l s).go.countP xA9 + (xAf l s).stay.countP xA9 = l.countP xA9 ∧ (xAf l s).go.length + (xAf l s).stay.length ≤ 3 * l.length ∧ (xAf l s).blk.length ≤ 3 * l.length := by
  have := xGH s l ⟨[], [], []⟩
  simpa [xAf] using this
theorem xOU (x : SpanL) : xA7 allS x = true := by
  unfold xA7
  cases xAJ x with
  | true => rfl
  | false =>
    rw [xKN]
    have : ¬ xEC allS.hi x.hi < 0 := by
      rw [cmpEnd_lt]
      rintro ⟨h, _⟩
      exact h rfl
    simp only [Bool.false_or, Bool.true_and]
    exact decide_eq_true (by omega)
theorem xSW (m : MsgL) : xCM m allS = true := List.all_eq_true.2 fun x _ => xOU x
theorem parts_nil : xAK [] = [allS] := by decide
theorem xSJ {s : SpanL} (h : xAJ s = false) : xAV s allS = s := by
  have e1 : maxL s.lo allS.lo = s.lo := by unfold maxL allS; simp [xB9]
  have e2 : xCD s.hi allS.hi = s.hi := by
    rw [xEa]
    simp [xDJ, allS]
  have e3 : (⟨s.lo, s.hi⟩ : SpanL) = s := rfl
  unfold xAV
  rw [e1, e2, e3, if_neg (by rw [h]; simp)]
theorem xPy (s : SpanL) : xBW [s] [allS] = [] := by
  refine Nrm.ext (xDA _ _) ⟨by simp, by simp⟩ fun k => ?_
  rw [xBU]
  simp [inL, xKN]
theorem ready_all {l : List MsgL} (hl : ∀ m ∈ l, MsgW m) (hs : ∀ m ∈ l, xAh m = true → xAJ m.sp = false) : xAf l allS = ⟨l, [], []⟩ := by
  have key : ∀ (l : List MsgL) (g : List MsgL), (∀ m ∈ l, MsgW m) → (∀ m ∈ l, xAh m = true → xAJ m.sp = false) → l.foldl (xAg allS) ⟨g, [], []⟩ = ⟨g ++ l, [], []⟩ := by
    intro l
    induction l with
    | nil => intro g _ _; simp
    | cons m l ih =>
      intro g h1 h2
      have e : xAg allS ⟨g, [], []⟩ m = ⟨g ++ [m], [], []⟩ := by
        unfold xAg
        split
        · rw [xSW, xHB]; rfl
        · have hp : xAx m allS = [m] := by
            unfold xAx
            split
            · rename_i hr
              have he := h2 m (by simp) hr
              rw [xSJ he, if_neg (by rw [he]; simp)]
            · obtain ⟨k, hk⟩ := (h1 m (by simp)).w
              obtain ⟨x, hx, hxk⟩ := List.any_eq_true.1 hk
              have hany : (xAG m).any (fun x => tch x allS) = true := List.any_eq_true.2 ⟨x, hx, tch_iff.2 ⟨k, hxk, xKN k⟩⟩
              rw [if_pos hany]
          have hlf : xCs m allS = [] := by
            unfold xCs
            rw [xPy]
            simp
          rw [hp]
          simp [xHB, hlf]
      rw [List.foldl_cons, e, ih _ (fun x hx => h1 x (by simp [hx])) (fun x hx => h2 x (by simp [hx]))]
      simp
  have := key l [] hl hs
  simpa [xAf] using this
end Go.Pu
set_option linter.unusedVariables false
namespace Go.Pu
def xAO (t : List PairL) (k : Str) : Option PairL := t.find? (fun p => p.key == k)
theorem xAL (p : PairL) (t : List PairL) (k : Str) : xAO (p :: t) k = if p.key = k then some p else xAO t k := by
  unfold xAO
  rw [List.find?_cons]
  by_cases h : p.key = k
  · have : (p.key == k) = true := by simpa using h
    rw [if_pos h, this]
  · have : (p.key == k) = false := by simpa using h
    rw [if_neg h, this]
theorem xB0 {t : List PairL} {k : Str} {p : PairL} (h : xAO t k = some p) : p.key = k := by
  have := List.find?_some h
  simpa using this
theorem xQb {t : List PairL} {k : Str} {p : PairL} (h : xAO t k = some p) : p ∈ t := List.mem_of_find?_eq_some h
theorem findP_none {t : List PairL} {k : Str} : xAO t k = none ↔ ∀ p ∈ t, p.key ≠ k := by simp [xAO]
theorem Srt.tail {p : PairL} {t : List PairL} (h : Srt (p :: t)) : Srt t := (List.pairwise_cons.1 h).2
theorem Srt.head {p : PairL} {t : List PairL} (h : Srt (p :: t)) {x : PairL} (hx : x ∈ t) : Op.bytesLess p.key x.key = true := (List.pairwise_cons.1 h).1 x hx
theorem Srt.find {t : List PairL} (h : Srt t) {p : PairL} (hp : p ∈ t) : xAO t p.key = some p := by
  induction t with
  | nil => cases hp
  | cons x t ih =>
    rw [xAL]
    rcases List.mem_cons.1 hp with rfl | hp
    · rw [if_pos rfl]
    · rw [if_neg (xDS (h.head hp)), ih h.tail hp]
theorem Srt.below {p : PairL} {t : List PairL} (h : Srt (p :: t)) {k : Str} (hk : ble k p.key = true) : xAO t k = none := by
  refine findP_none.2 (fun x hx e => ?_)
  have h1 := xDs hk (h.head hx)
  rw [e, xAq] at h1
  cases h1
theorem Srt.ext : ∀ {a b : List PairL}, Srt a → Srt b → (∀ k, xAO a k = xAO b k) → a = b
  | [], [], _, _, _ => rfl
  | [], y :: b, _, _, h => by
    have := h y.key
    rw [xAL, if_pos rfl] at this
    cases this
  | x :: a, [], _, _, h => by
    have := h x.key
    rw [xAL, if_pos rfl] at this
    cases this
  | x :: a, y :: b, ha, hb, h => by
    have hxy : x = y := by
      rcases xBv x.key y.key with h1 | h1 | h1
      · have h2 := h x.key
        rw [xAL, if_pos rfl, xAL, if_neg (fun e => xDS h1 e.symm), hb.below (ble_iff.2 (.inl h1))] at h2
        cases h2
      · have h2 := h x.key
        rw [xAL, if_pos rfl, xAL, if_pos h1.symm] at h2
        exact Option.some.inj h2
      · have h2 := h y.key
        rw [xAL, if_neg (fun e => xDS h1 e.symm), ha.below (ble_iff.2 (.inl h1)), xAL, if_pos rfl] at h2
        cases h2
    subst hxy
    rw [Srt.ext ha.tail hb.tail (fun k => ?_)]
    have h2 := h k
    by_cases hk : x.key = k
    · rw [ha.below (by rw [hk]; exact xCR k), hb.below (by rw [hk]; exact xCR k)]
    · rw [xAL, if_neg hk, xAL, if_neg hk] at h2
      exact h2
theorem srt_nil : Srt [] := List.Pairwise.nil
def xA1 : List PairL → List PairL → List PairL
  | [], b => b
  | x :: a, [] => x :: a
  | x :: a, y :: b => if Op.bytesLess x.key y.key = true then x :: xA1 a (y :: b) else if x.key = y.key then y :: xA1 a b else y :: xA1 (x :: a) b
termination_by a b => a.length + b.length
theorem xDa (a : List PairL) : xA1 a [] = a := by cases a <;> simp [xA1]
theorem xDh (b : List PairL) : xA1 [] b = b := by simp [xA1]
theorem xCu (x y : PairL) (a b : List PairL) : xA1 (x :: a) (y :: b) = if Op.bytesLess x.key y.key = true then x :: xA1 a (y :: b) else if x.key = y.key then y :: xA1 a b else y :: xA1 (x :: a) b := by
  rw [xA1]
theorem xC1 {z : PairL} : ∀ (a b : List PairL), z ∈ xA1 a b → z ∈ a ∨ z ∈ b
  | [], b, h => by rw [xDh] at h; exact .inr h
  | x :: a, [], h => by rw [xDa] at h; exact .inl h
  | x :: a, y :: b, h => by
    rw [xCu] at h
    split at h
    · rcases List.mem_cons.1 h with rfl | h
      · exact .inl (by simp)
      · rcases xC1 a (y :: b) h with h | h
        · exact .inl (by simp [h])
        · exact .inr h
    · split at h
      · rcases List.mem_cons.1 h with rfl | h
        · exact .inr (by simp)
        · rcases xC1 a b h with h | h
          · exact .inl (by simp [h])
          · exact .inr (by simp [h])
      · rcases List.mem_cons.1 h with rfl | h
        · exact .inr (by simp)
        · rcases xC1 (x :: a) b h with h | h
          · exact .inl h
          · exact .inr (by simp [h])
termination_by a b => a.length + b.length
theorem xAr : ∀ {a b : List PairL}, Srt a → Srt b → Srt (xA1 a b)
  | [], b, _, h => by rw [xDh]; exact h
  | x :: a, [], h, _ => by rw [xDa]; exact h
  | x :: a, y :: b, ha, hb => by
    rw [xCu]
    split
    · next h =>
      refine List.pairwise_cons.2 ⟨fun z hz => ?_, xAr ha.tail hb⟩
      rcases xC1 _ _ hz with hz | hz
      · exact ha.head hz
      · rcases List.mem_cons.1 hz with rfl | hz
        · exact h
        · exact xAk h (hb.head hz)
    · next h =>
      split
      · next h2 =>
        refine List.pairwise_cons.2 ⟨fun z hz => ?_, xAr ha.tail hb.tail⟩
        rcases xC1 _ _ hz with hz | hz
        · rw [← h2]; exact ha.head hz
        · exact hb.head hz
      · next h2 =>
        have hyx : Op.bytesLess y.key x.key = true := by
          rcases xBv x.key y.key with h3 | h3 | h3
          · exact absurd h3 h
          · exact absurd h3 h2
          · exact h3
        refine List.pairwise_cons.2 ⟨fun z hz => ?_, xAr ha hb.tail⟩
        rcases xC1 _ _ hz with hz | hz
        · rcases List.mem_cons.1 hz with rfl | hz
          · exact hyx
          · exact xAk hyx (ha.head hz)
        · exact hb.head hz
termination_by a b => a.length + b.length
theorem xAp (k : Str) : ∀ {a b : List PairL}, Srt a → Srt b → xAO (xA1 a b) k = (xAO b k).or (xAO a k)
  | [], b, _, _ => by rw [xDh]; simp [xAO]
  | x :: a, [], _, _ => by rw [xDa]; simp [xAO]
  | x :: a, y :: b, ha, hb => by
    rw [xCu]
    split
    · next h =>
      rw [xAL, xAp k ha.tail hb, xAL x a]
      split
      · next h2 =>
        have : xAO (y :: b) k = none := by
          rw [xAL, if_neg (fun e => xDS h (h2.trans e.symm)), hb.below (by rw [← h2]; exact ble_iff.2 (.inl h))]
        rw [this]; rfl
      · rfl
    · next h =>
      split
      · next h2 =>
        rw [xAL, xAp k ha.tail hb.tail, xAL y b, xAL x a, h2]
        split
        · rfl
        · rfl
      · next h2 =>
        rw [xAL, xAp k ha hb.tail, xAL y b]
        split
        · rfl
        · rfl
termination_by a b => a.length + b.length
theorem xEJ : ∀ (a b : List PairL), (xA1 a b).length ≤ a.length + b.length
  | [], b => by rw [xDh]; simp
  | x :: a, [] => by rw [xDa]; simp
  | x :: a, y :: b => by
    rw [xCu]
    simp only [List.length_cons]
    split
    · have := xEJ a (y :: b)
      simp only [List.length_cons] at this ⊢
      omega
    · split
      · have := xEJ a b
        simp only [List.length_cons] at this ⊢
        omega
      · have := xEJ (x :: a) b
        simp only [List.length_cons] at this ⊢
        omega
termination_by a b => a.length + b.length
theorem xEI : ∀ (a b : List PairL), (∀ x ∈ a, ∀ y ∈ b, x.key ≠ y.key) → (xA1 a b).length = a.length + b.length
  | [], b, _ => by rw [xDh]; simp
  | x :: a, [], _ => by rw [xDa]; simp
  | x :: a, y :: b, h => by
    rw [xCu]
    simp only [List.length_cons]
    split
    · have := xEI a (y :: b) (fun p hp q hq => h p (by simp [hp]) q hq)
      simp only [List.length_cons] at this ⊢
      omega
    · split
      · next h2 => exact absurd h2 (h x (by simp) y (by simp))
      · have := xEI (x :: a) b (fun p hp q hq => h p hp q (by simp [hq]))
        simp only [List.length_cons] at this ⊢
        omega
termination_by a b => a.length + b.length
theorem xTm {a b c : List PairL} (ha : Srt a) (hb : Srt b) (hc : Srt c) : xA1 (xA1 a b) c = xA1 a (xA1 b c) := by
  refine Srt.ext (xAr (xAr ha hb) hc) (xAr ha (xAr hb hc)) (fun k => ?_)
  rw [xAp k (xAr ha hb) hc, xAp k ha hb, xAp k ha (xAr hb hc), xAp k hb hc]
  cases xAO c k <;> rfl
theorem union_self {a : List PairL} (ha : Srt a) : xA1 a a = a := by
  refine Srt.ext (xAr ha ha) ha (fun k => ?_)
  rw [xAp k ha ha]
  cases xAO a k <;> rfl
def xKl (a b : List PairL) : List PairL := b.filter (fun p => !(xAO a p.key).isSome)
theorem xEr {a b : List PairL} (h : Srt b) : Srt (xKl a b) := h.filter _
theorem xBb {t : List PairL} (h : Srt t) (f : PairL → Bool) (k : Str) : xAO (t.filter f) k = (xAO t k).filter f := by
  induction t with
  | nil => rfl
  | cons x t ih =>
    rw [List.filter_cons, xAL]
    by_cases hk : x.key = k
    · rw [if_pos hk]
      split
      · next h2 => rw [xAL, if_pos hk, Option.filter, if_pos h2]
      · next h2 =>
        rw [ih h.tail, h.below (by rw [hk]; exact xCR k), Option.filter, Option.filter, if_neg h2]
    · rw [if_neg hk]
      split
      · rw [xAL, if_neg hk, ih h.tail]
      · rw [ih h.tail]
theorem xLR {a b : List PairL} (hb : Srt b) (k : Str) : xAO (xKl a b) k = if (xAO a k).isSome = true then none else xAO b k := by
  rw [xKl, xBb hb]
  cases h : xAO b k with
  | none => simp
  | some p =>
    have := xB0 h
    simp only [Option.filter_some, this]
    cases xAO a k <;> simp
theorem xUD {a b : List PairL} : ∀ x ∈ a, ∀ y ∈ xKl a b, x.key ≠ y.key := by
  intro x hx y hy e
  obtain ⟨_, h2⟩ := List.mem_filter.1 hy
  have h3 : xAO a y.key = none := by simpa using h2
  exact findP_none.1 h3 x hx e
theorem rest_comm {a b : List PairL} (ha : Srt a) (hb : Srt b) : xA1 a (xKl a b) = xA1 (xKl a b) a := by
  refine Srt.ext (xAr ha (xEr hb)) (xAr (xEr hb) ha) (fun k => ?_)
  rw [xAp k ha (xEr hb), xAp k (xEr hb) ha, xLR hb]
  cases xAO a k <;> simp
theorem rest_union {a b : List PairL} (ha : Srt a) (hb : Srt b) : (xA1 a b).length = a.length + (xKl a b).length := by
  have h1 : (xA1 a b).map PairL.key = (xA1 a (xKl a b)).map PairL.key := by
    have key : ∀ {s t : List PairL}, Srt s → Srt t → (∀ k, (xAO s k).isSome = (xAO t k).isSome) → s.map PairL.key = t.map PairL.key := by
      intro s t hs ht h
      have f1 : ∀ {u : List PairL}, Srt u → Srt (u.map (fun p => ⟨p.key, [], 0⟩)) := by
        intro u hu
        unfold Srt
        rw [List.pairwise_map]
        exact hu
      have f2 : ∀ (u : List PairL) (k : Str), xAO (u.map (fun p => (⟨p.key, [], 0⟩ : PairL))) k = if (xAO u k).isSome = true then some ⟨k, [], 0⟩ else none := by
        intro u k
        induction u with
        | nil => simp [xAO]
        | cons x u ih =>
          rw [List.map_cons, xAL, xAL]
          by_cases hk : x.key = k
          · rw [if_pos hk, if_pos hk]; simp [hk]
          · rw [if_neg hk, if_neg hk, ih]
      have f3 := Srt.ext (f1 hs) (f1 ht) (fun k => by rw [f2, f2, h k])
      have f4 := congrArg (List.map PairL.key) f3
      simpa [List.map_map, Function.comp_def] using f4
    refine key (xAr ha hb) (xAr ha (xEr hb)) (fun k => ?_)
    rw [xAp k ha hb, xAp k ha (xEr hb), xLR hb]
    cases xAO a k <;> cases xAO b k <;> rfl
  have h2 := congrArg List.length h1
  rw [List.length_map, List.length_map, xEI _ _ xUD] at h2
  exact h2
end Go.Pu
set_option linter.unusedVariables false
namespace Go.Pu
def lbN (t : List PairL) (k : Str) : Nat := (t.takeWhile (fun p => Op.bytesLess p.key k)).length
theorem xH4 (p : PairL) (t : List PairL) (k : Str) : lbN (p :: t) k = if Op.bytesLess p.key k = true then lbN t k + 1 else 0 := by
  unfold lbN
  rw [List.takeWhile_cons]
  split <;> simp [*]
theorem xOH (k : Str) : ∀ t : List PairL, lbN t k ≤ t.length
  | [] => Nat.le_refl _
  | p :: t => by
    have := xOH k t
    rw [xH4, List.length_cons]
    split <;> omega
theorem xH3 {t : List PairL} (h : Srt t) (k : Str) : ∀ {m : Nat} {p : PairL}, t[m]? = some p → (Op.bytesLess p.key k = true ↔ m < lbN t k) := by
  induction t with
  | nil => intro m p hp; simp at hp
  | cons x t ih =>
    intro m p hp
    rw [xH4]
    cases m with
    | zero =>
      obtain rfl : x = p := by simpa using hp
      split <;> simp [*]
    | succ m =>
      have hp' : t[m]? = some p := by simpa using hp
      split
      · rw [ih h.tail hp']; omega
      · next hx =>
        have hmem : p ∈ t := List.mem_of_getElem? hp'
        constructor
        · intro h2
          exact absurd (xAk (h.head hmem) h2) hx
        · intro h2; omega
theorem xNM {t : List PairL} (h : Srt t) (k : Str) : (match t[lbN t k]? with | some p => decide (p.key = k) | none => false) = (xAO t k).isSome := by
  induction t with
  | nil => simp [xAO]
  | cons x t ih =>
    rw [xH4, xAL]
    by_cases hx : Op.bytesLess x.key k = true
    · rw [if_pos hx, if_neg (xDS hx), List.getElem?_cons_succ]
      exact ih h.tail
    · rw [if_neg hx]
      simp only [List.getElem?_cons_zero]
      by_cases hk : x.key = k
      · rw [if_pos hk]; simp [hk]
      · rw [if_neg hk, h.below (by simpa [ble] using hx)]
        simp [hk]
theorem xUn {t : List PairL} (h : Srt t) {a b : Str} (hab : ble a b = true) : lbN t a ≤ lbN t b := by
  rcases Nat.lt_or_ge (lbN t b) (lbN t a) with h1 | h1
  · have h2 : lbN t b < t.length := Nat.lt_of_lt_of_le h1 (xOH a t)
    obtain ⟨p, hp⟩ : ∃ p, t[lbN t b]? = some p := ⟨_, List.getElem?_eq_getElem h2⟩
    have h3 := (xH3 h a hp).2 h1
    have h4 := (xH3 h b hp).1 (xAb h3 hab)
    omega
  · exact h1
def xAc (t : List PairL) (s : SpanL) : Nat × Nat := if xAJ s = true then (0, 0) else (lbN t s.lo, if s.hi = [] then t.length else lbN t s.hi)
def xBo (t : List PairL) (s : SpanL) : List PairL := t.filter (fun p => hasL s p.key)
def xAv (t : List PairL) (s : SpanL) : List PairL := t.filter (fun p => !hasL s p.key)
theorem xIa {t : List PairL} (h : Srt t) (s : SpanL) : (xAc t s).1 ≤ (xAc t s).2 ∧ (xAc t s).2 ≤ t.length := by
  unfold xAc
  split
  · simp
  · next he =>
    have he : xAJ s = false := by simpa using he
    dsimp only
    split
    · exact ⟨xOH _ _, Nat.le_refl _⟩
    · next hh => exact ⟨xUn h (ble_iff.2 (.inl (xBM he hh))), xOH _ _⟩
theorem xGl {t : List PairL} (h : Srt t) (s : SpanL) : (∀ p ∈ t.take (xAc t s).1, hasL s p.key = false) ∧ (∀ p ∈ (t.drop (xAc t s).1).take ((xAc t s).2 - (xAc t s).1), hasL s p.key = true) ∧ ∀ p ∈ t.drop (xAc t s).2, hasL s p.key = false := by
  unfold xAc
  split
  · next he => refine ⟨by simp, by simp, fun p _ => xAU he p.key⟩
  · next he =>
    have he : xAJ s = false := by simpa using he
    dsimp only
    refine ⟨?_, ?_, ?_⟩
    · intro p hp
      obtain ⟨m, hm⟩ := List.mem_iff_getElem?.1 hp
      rw [List.getElem?_take] at hm
      split at hm
      · next hml =>
        have h1 := (xH3 h s.lo hm).2 hml
        simp [hasL, h1]
      · cases hm
    · intro p hp
      obtain ⟨m, hm⟩ := List.mem_iff_getElem?.1 hp
      have key : ∀ n : Nat, ((t.drop (lbN t s.lo)).take n)[m]? = some p → m < n ∧ t[lbN t s.lo + m]? = some p := by
        intro n hm
        rw [List.getElem?_take] at hm
        split at hm
        · next hml => rw [List.getElem?_drop] at hm; exact ⟨hml, hm⟩
        · cases hm
      obtain ⟨hml, hm⟩ := key _ hm
      have h1 : ¬ Op.bytesLess p.key s.lo = true := fun h2 => by have := (xH3 h s.lo hm).1 h2; omega
      have h1' : Op.bytesLess p.key s.lo = false := by simpa using h1
      refine has_iff.2 ⟨by simp [ble, h1'], ?_⟩
      by_cases hh : s.hi = []
      · exact .inl hh
      · rw [if_neg hh] at hml
        exact .inr ((xH3 h s.hi hm).2 (by omega))
    · intro p hp
      obtain ⟨m, hm⟩ := List.mem_iff_getElem?.1 hp
      rw [List.getElem?_drop] at hm
      by_cases hh : s.hi = []
      · rw [if_pos hh] at hm
        have := (List.getElem?_eq_some_iff.1 hm).1
        omega
      · rw [if_neg hh] at hm
        have h1 : ¬ Op.bytesLess p.key s.hi = true := fun h2 => by have := (xH3 h s.hi hm).1 h2; omega
        have h1' : Op.bytesLess p.key s.hi = false := by simpa using h1
        have h2 : (s.hi == []) = false := by simpa using hh
        simp only [hasL, h1', h2, Bool.or_self, Bool.and_false]
theorem xGk {t : List PairL} (s : SpanL) (h : Srt t) : t = t.take (xAc t s).1 ++ ((t.drop (xAc t s).1).take ((xAc t s).2 - (xAc t s).1) ++ t.drop (xAc t s).2) := by
  obtain ⟨h1, h2⟩ := xIa h s
  have e : t.drop (xAc t s).2 = (t.drop (xAc t s).1).drop ((xAc t s).2 - (xAc t s).1) := by
    rw [List.drop_drop]; congr 1; omega
  rw [e, List.take_append_drop, List.take_append_drop]
theorem xRr {t : List PairL} (h : Srt t) (s : SpanL) : (t.drop (xAc t s).1).take ((xAc t s).2 - (xAc t s).1) = xBo t s := by
  obtain ⟨h1, h2, h3⟩ := xGl h s
  have e := xGk s h
  generalize (xAc t s).1 = a at *
  generalize (xAc t s).2 = b at *
  unfold xBo
  conv => rhs; rw [e]
  rw [List.filter_append, List.filter_append, List.filter_eq_nil_iff.2 (fun p hp => by simp [h1 p hp]), List.filter_eq_self.2 h2, List.filter_eq_nil_iff.2 (fun p hp => by simp [h3 p hp])]
  simp
theorem xU2 {t : List PairL} (h : Srt t) (s : SpanL) : t.take (xAc t s).1 ++ t.drop (xAc t s).2 = xAv t s := by
  obtain ⟨h1, h2, h3⟩ := xGl h s
  have e := xGk s h
  generalize (xAc t s).1 = a at *
  generalize (xAc t s).2 = b at *
  unfold xAv
  conv => rhs; rw [e]
  rw [List.filter_append, List.filter_append, List.filter_eq_self.2 (fun p hp => by simp [h1 p hp]), List.filter_eq_nil_iff.2 (fun p hp => by simp [h2 p hp]), List.filter_eq_self.2 (fun p hp => by simp [h3 p hp])]
  simp
theorem xKp {t : List PairL} (h : Srt t) (s : SpanL) : Srt (xBo t s) := h.filter _
theorem xCc {t : List PairL} (h : Srt t) (s : SpanL) : Srt (xAv t s) := h.filter _
theorem xRK (t : List PairL) (s : SpanL) : (xBo t s).length + (xAv t s).length = t.length := by
  unfold xBo xAv
  induction t with
  | nil => rfl
  | cons x t ih =>
    rw [List.filter_cons, List.filter_cons]
    cases hasL s x.key <;> simp <;> omega
theorem xOf {t : List PairL} (h : Srt t) (s : SpanL) : xA1 (xBo t s) (xAv t s) = t := by
  refine Srt.ext (xAr (xKp h s) (xCc h s)) h (fun k => ?_)
  rw [xAp k (xKp h s) (xCc h s), xBo, xAv, xBb h, xBb h]
  cases hf : xAO t k with
  | none => rfl
  | some p =>
    simp only [Option.filter_some]
    cases hasL s p.key <;> rfl
theorem xRq (t : List PairL) (s : SpanL) : xBo (xAv t s) s = [] := by
  unfold xBo xAv
  rw [List.filter_filter, List.filter_eq_nil_iff]
  intro p _
  cases hasL s p.key <;> simp
theorem xUF (t : List PairL) (s u : SpanL) : xBo (xBo t s) u = xBo (xBo t u) s := by
  unfold xBo
  rw [List.filter_filter, List.filter_filter]
  congr 1
  funext p
  rw [Bool.and_comm]
theorem drop_drop (t : List PairL) (s u : SpanL) : xAv (xAv t s) u = xAv (xAv t u) s := by
  unfold xAv
  rw [List.filter_filter, List.filter_filter]
  congr 1
  funext p
  rw [Bool.and_comm]
def mvP (f t : Str) (p : PairL) : PairL := ⟨t ++ p.key.drop f.length, p.val, p.stamp⟩
def srcL (t : List PairL) (f : Str) : List PairL := t.filter (fun p => xAF p.key f)
def xBV (t : List PairL) (f to : Str) : List PairL := (srcL t f).map (mvP f to)
theorem xGW (t : List PairL) (f : Str) : xBo t (xAH f) = srcL t f := by
  unfold xBo srcL
  congr 1
  funext p
  rw [xAX]
theorem xDb {t : List PairL} {f : Str} {p : PairL} (h : p ∈ srcL t f) : xAF p.key f = true := (List.mem_filter.1 h).2
theorem xTu {t : List PairL} (h : Srt t) (f : Str) : Srt (srcL t f) := h.filter _
theorem xHn {t : List PairL} (h : Srt t) (f to : Str) : Srt (xBV t f to) := by
  unfold xBV Srt
  rw [List.pairwise_map]
  refine List.Pairwise.imp_of_mem ?_ (xTu h f)
  intro a b ha hb hab
  obtain ⟨r1, h1⟩ := begins_iff.1 (xDb ha)
  obtain ⟨r2, h2⟩ := begins_iff.1 (xDb hb)
  simp only [mvP]
  rw [h1, h2] at hab ⊢
  rw [xEj] at hab ⊢
  rw [List.drop_left, List.drop_left]
  exact hab
theorem moved_back {t : List PairL} (f to : Str) : xBV (xBV t f to) to f = srcL t f := by
  have h1 : srcL (xBV t f to) to = xBV t f to := by
    unfold srcL
    refine List.filter_eq_self.2 (fun p hp => ?_)
    obtain ⟨q, _, rfl⟩ := List.mem_map.1 hp
    exact begins_iff.2 ⟨_, rfl⟩
  rw [xBV, h1, xBV, List.map_map]
  refine (List.map_congr_left (fun p hp => ?_)).trans (List.map_id _)
  obtain ⟨r, hr⟩ := begins_iff.1 (xDb hp)
  obtain ⟨k, v, st⟩ := p
  simp only [mvP, Function.comp_def, id]
  dsimp only at hr
  rw [hr]
  simp
end Go.Pu
set_option linter.unusedVariables false
namespace Go.Pu
theorem xCP {p : PairL} {t : List PairL} (h : Srt t) (k : Str) : xAO (putL t p) k = if p.key = k then some p else xAO t k := by
  rw [xF0]
  induction t with
  | nil => rw [insL, xAL]
  | cons x t ih =>
    rw [insL]
    split
    · next hx =>
      rw [xAL, ih h.tail, xAL]
      by_cases hk : x.key = k
      · rw [if_pos hk, if_pos hk, if_neg (fun e => xDS hx (hk.trans e.symm))]
      · rw [if_neg hk, if_neg hk]
    · next hx =>
      rw [xAL]
      by_cases hk : p.key = k
      · rw [if_pos hk, if_pos hk]
      · rw [if_neg hk, if_neg hk, xBb h]
        cases hf : xAO (x :: t) k with
        | none => rfl
        | some y =>
          have := xB0 hf
          rw [Option.filter_some, if_pos]
          simpa [this] using fun e => hk e.symm
theorem xQF {t : List PairL} (h : Srt t) {k : Str} (hf : (xAO t k).isSome = true) : ∃ p, t[lbN t k]? = some p ∧ xAO t k = some p ∧ p.key = k := by
  have h1 := xNM h k
  rw [hf] at h1
  cases hg : t[lbN t k]? with
  | none => rw [hg] at h1; cases h1
  | some p =>
    rw [hg] at h1
    have hk : p.key = k := by simpa using h1
    exact ⟨p, rfl, by rw [← hk]; exact h.find (List.mem_of_getElem? hg), hk⟩
theorem xKq {p : PairL} {t : List PairL} (h : Srt t) (hf : (xAO t p.key).isSome = true) : t.set (lbN t p.key) p = putL t p := by
  rw [xF0]
  induction t with
  | nil => cases hf
  | cons x t ih =>
    rw [xH4, insL]
    by_cases hx : Op.bytesLess x.key p.key = true
    · rw [if_pos hx, if_pos hx, List.set_cons_succ, ih h.tail]
      rw [xAL, if_neg (xDS hx)] at hf
      exact hf
    · rw [if_neg hx, if_neg hx, List.set_cons_zero]
      have hk : x.key = p.key := by
        rw [xAL] at hf
        by_cases hk : x.key = p.key
        · exact hk
        · rw [if_neg hk, h.below (by simpa [ble] using hx)] at hf
          cases hf
      have hne : ∀ y ∈ t, (!(y.key == p.key)) = true := fun y hy => by
        have := xDS (h.head hy)
        rw [hk] at this
        simpa using fun e => this e.symm
      rw [List.filter_cons, if_neg (by simp [hk]), List.filter_eq_self.2 hne]
theorem xPa {p : PairL} {t : List PairL} (h : Srt t) (hf : (xAO t p.key).isSome = false) : t.take (lbN t p.key) ++ p :: t.drop (lbN t p.key) = putL t p := by
  rw [xF0]
  induction t with
  | nil => simp [insL]
  | cons x t ih =>
    rw [xH4, insL]
    by_cases hx : Op.bytesLess x.key p.key = true
    · rw [if_pos hx, if_pos hx, List.take_succ_cons, List.drop_succ_cons, List.cons_append, ih h.tail]
      rw [xAL, if_neg (xDS hx)] at hf
      exact hf
    · rw [if_neg hx, if_neg hx, List.take_zero, List.drop_zero, List.nil_append]
      have h1 : xAO (x :: t) p.key = none := by simpa using hf
      have h2 := findP_none.1 h1
      rw [List.filter_eq_self.2 (fun y hy => by simpa using h2 y hy)]
def delT (t : List PairL) (k : Str) : List PairL := t.filter (fun p => !(p.key == k))
theorem xNa (t : List PairL) (k : Str) : xAv t (oneL k) = delT t k := by
  unfold xAv delT
  refine List.filter_congr (fun p _ => ?_)
  rw [xFG]
theorem xML {t : List PairL} (h : Srt t) (k : Str) : Srt (delT t k) := h.filter _
theorem xU3 (t : List PairL) (k : Str) : (delT t k).length ≤ t.length := List.length_filter_le ..
theorem xKG {t : List PairL} (h : Srt t) (k x : Str) : xAO (delT t k) x = if k = x then none else xAO t x := by
  rw [delT, xBb h]
  cases hf : xAO t x with
  | none => simp
  | some p =>
    have := xB0 hf
    subst this
    by_cases hk : k = p.key
    · simp [hk]
    · rw [if_neg hk, Option.filter_some, if_pos]
      simpa using fun e => hk e.symm
theorem put_put {p q : PairL} {t : List PairL} (h : Srt t) (hk : p.key = q.key) : putL (putL t p) q = putL t q := by
  refine Srt.ext (xBL (xBL h)) (xBL h) (fun k => ?_)
  rw [xCP (xBL h), xCP h, xCP h, hk]
  by_cases h1 : q.key = k <;> simp [h1]
theorem put_comm {p q : PairL} {t : List PairL} (h : Srt t) (hk : p.key ≠ q.key) : putL (putL t p) q = putL (putL t q) p := by
  refine Srt.ext (xBL (xBL h)) (xBL (xBL h)) (fun k => ?_)
  rw [xCP (xBL h), xCP h, xCP (xBL h), xCP h]
  by_cases h1 : q.key = k
  · have h2 : p.key ≠ k := fun e => hk (e.trans h1.symm)
    simp [h1, h2]
  · simp [h1]
theorem del_put {p : PairL} {t : List PairL} (h : Srt t) : delT (putL t p) p.key = delT t p.key := by
  refine Srt.ext (xML (xBL h) _) (xML h _) (fun k => ?_)
  rw [xKG (xBL h), xKG h, xCP h]
  by_cases h1 : p.key = k <;> simp [h1]
theorem xRu (b : List PairL) : ∀ {a : List PairL}, Srt a → Srt (b.foldl putL a) := by
  induction b with
  | nil => intro a h; exact h
  | cons x b ih => intro a h; exact ih (xBL h)
theorem xQa {b : List PairL} (hb : Srt b) : ∀ {a : List PairL}, Srt a → ∀ k, xAO (b.foldl putL a) k = (xAO b k).or (xAO a k) := by
  induction b with
  | nil => intro a _ k; simp [xAO]
  | cons x b ih =>
    intro a ha k
    rw [List.foldl_cons, ih hb.tail (xBL ha), xCP ha, xAL]
    by_cases hk : x.key = k
    · rw [if_pos hk, if_pos hk, hb.below (by rw [hk]; exact xCR k)]; rfl
    · rw [if_neg hk, if_neg hk]
theorem xIy {a b : List PairL} (ha : Srt a) (hb : Srt b) : b.foldl putL a = xA1 a b :=
  Srt.ext (xRu b ha) (xAr ha hb) (fun k => by rw [xQa hb ha, xAp k ha hb])
end Go.Pu
set_option linter.unusedVariables false
set_option linter.unusedSimpArgs false
namespace Go.Pu
def xBr (m : MsgL) (p : PairL) : PairL := if hasL m.sp p.key = true then { p with stamp := m.n } else p
def xCo (t : List PairL) (m : MsgL) : List PairL := xA1 (xAv t (xAH m.to)) (xBV t m.fr m.to)
def xAs (t : List PairL) (m : MsgL) : List PairL :=
  if m.kind = 1 then putL t ⟨m.key, m.val, m.n⟩ else
  if m.kind = 2 then delT t m.key else
  if m.kind = 3 then xAv t m.sp else
  if m.kind = 6 then t.map (xBr m) else
  if m.kind = 4 then xAv (xCo t m) (xAH m.fr) else xCo t m
def allT (t : List PairL) (l : List MsgL) : List PairL := l.foldl xAs t
theorem xEq (m : MsgL) (p : PairL) : (xBr m p).key = p.key := by unfold xBr; split <;> rfl
theorem xNW {g : PairL → PairL} (hg : ∀ p, (g p).key = p.key) : ∀ (t : List PairL) (k : Str), xAO (t.map g) k = (xAO t k).map g
  | [], k => rfl
  | p :: t, k => by
    rw [List.map_cons, xAL, xAL, hg]
    split
    · rfl
    · exact xNW hg t k
theorem xUc {g : PairL → PairL} (hg : ∀ p, (g p).key = p.key) {t : List PairL} (h : Srt t) : Srt (t.map g) := by
  unfold Srt at *
  rw [List.pairwise_map]
  exact h.imp fun {a b} hab => by rw [hg, hg]; exact hab
theorem xFs {t : List PairL} (h : Srt t) (m : MsgL) : Srt (xCo t m) := xAr (xCc h _) (xHn h _ _)
theorem xA3 {t : List PairL} (h : Srt t) (m : MsgL) : Srt (xAs t m) := by
  unfold xAs
  repeat' split
  · exact xBL h
  · exact xML h _
  · exact xCc h _
  · exact xUc (xEq m) h
  · exact xCc (xFs h m) _
  · exact xFs h m
theorem xBP : ∀ (l : List MsgL) {t : List PairL}, Srt t → Srt (allT t l)
  | [], t, h => h
  | m :: l, t, h => xBP l (xA3 h m)
theorem xJM (f to : Str) : ∀ (t : List PairL) (r : Str), xAO (xBV t f to) (to ++ r) = (xAO t (f ++ r)).map (mvP f to)
  | [], r => rfl
  | p :: t, r => by
    have ih := xJM f to t r
    unfold xBV srcL at ih ⊢
    rw [List.filter_cons]
    cases hb : xAF p.key f with
    | true =>
      obtain ⟨q, hq⟩ := begins_iff.1 hb
      simp only [if_true]
      rw [List.map_cons, xAL, xAL]
      have e : (mvP f to p).key = to ++ q := by unfold mvP; simp only; rw [hq]; simp
      rw [e, hq]
      by_cases h : q = r
      · subst h; simp
      · rw [if_neg (by simpa using h), if_neg (by simpa using h)]
        exact ih
    | false =>
      simp only [Bool.false_eq_true, if_false]
      rw [ih, xAL, if_neg]
      intro e
      rw [e, xBi] at hb
      cases hb
theorem xE8 {f to k : Str} (h : xAF k to = false) (t : List PairL) : xAO (xBV t f to) k = none := by
  rw [findP_none]
  intro p hp e
  unfold xBV at hp
  obtain ⟨q, hq, rfl⟩ := List.mem_map.1 hp
  rw [← e] at h
  have : xAF (mvP f to q).key to = true := xBi _ _
  rw [this] at h
  cases h
theorem xDp {t : List PairL} (h : Srt t) (s : SpanL) (k : Str) : xAO (xAv t s) k = if hasL s k = true then none else xAO t k := by
  unfold xAv
  rw [xBb h]
  cases hf : xAO t k with
  | none => simp
  | some p =>
    have := xB0 hf
    rw [Option.filter_some, this]
    cases hasL s k <;> simp
theorem xU1 {t : List PairL} (h : Srt t) (s : SpanL) (k : Str) : xAO (xBo t s) k = if hasL s k = true then xAO t k else none := by
  unfold xBo
  rw [xBb h]
  cases hf : xAO t k with
  | none => simp
  | some p =>
    have := xB0 hf
    rw [Option.filter_some, this]
theorem xON {t : List PairL} (h : Srt t) {m : MsgL} (k : Str) : xAO (xCo t m) k = if xAF k m.to = true then (xAO t (m.fr ++ k.drop m.to.length)).map (mvP m.fr m.to) else xAO t k := by
  unfold xCo
  rw [xAp k (xCc h _) (xHn h _ _), xDp h, xAX]
  cases hb : xAF k m.to with
  | true =>
    obtain ⟨r, rfl⟩ := begins_iff.1 hb
    rw [xJM]
    simp
  | false =>
    rw [xE8 hb]
    simp
def effP (m : MsgL) (k : Str) (f : Str → Option PairL) : Option PairL :=
  match bkL m k with
  | none => if m.kind = 1 then some ⟨k, m.val, m.n⟩ else none
  | some x => (f x).map fun p => ⟨k, p.val, if m.kind = 6 ∧ hasL m.sp k = true then m.n else p.stamp⟩
theorem find_eta {t : List PairL} {k : Str} : (xAO t k).map (fun p => (⟨k, p.val, p.stamp⟩ : PairL)) = xAO t k := by
  cases h : xAO t k with
  | none => rfl
  | some p => have := xB0 h; subst this; rfl
theorem xA0 {t : List PairL} (h : Srt t) {m : MsgL} (hm : MsgOk m) (k : Str) : xAO (xAs t m) k = effP m k (xAO t) := by
  unfold xAs effP bkL
  by_cases h1 : m.kind = 1
  · simp only [h1, true_or, if_true]
    rw [xCP h]
    by_cases hk : m.key = k
    · rw [if_pos hk, if_pos hk]; subst hk; rfl
    · rw [if_neg hk, if_neg hk]
      simp only [show ¬ ((1 : Int) = 6) by decide, false_and, if_false]
      exact find_eta.symm
  · by_cases h2 : m.kind = 2
    · simp only [h2, or_true, if_true, show ¬ ((2 : Int) = 1) by decide, if_false]
      rw [xKG h]
      by_cases hk : m.key = k
      · rw [if_pos hk, if_pos hk]
      · rw [if_neg hk, if_neg hk]
        simp only [show ¬ ((2 : Int) = 6) by decide, false_and, if_false]
        exact find_eta.symm
    · simp only [h1, h2, or_self, if_false]
      by_cases h3 : m.kind = 3
      · simp only [h3, if_true]
        rw [xDp h]
        cases hk : hasL m.sp k with
        | true => simp
        | false =>
          simp only [Bool.false_eq_true, if_false, show ¬ ((3 : Int) = 6) by decide, false_and]
          exact find_eta.symm
      · simp only [h3, if_false]
        by_cases h6 : m.kind = 6
        · simp only [h6, if_true, true_and]
          rw [xNW (xEq m)]
          cases hf : xAO t k with
          | none => rfl
          | some p =>
            have := xB0 hf
            subst this
            simp only [Option.map_some, xBr]
            split <;> rfl
        · simp only [h6, if_false, false_and]
          have hk := hm.k
          have h45 : m.kind = 4 ∨ m.kind = 5 := by omega
          obtain ⟨ap1, ap2⟩ := hm.ap h45
          have mv : ∀ r, (xAO t (m.fr ++ r)).map (mvP m.fr m.to) = (xAO t (m.fr ++ r)).map fun p => ⟨m.to ++ r, p.val, p.stamp⟩ := by
            intro r
            cases hf : xAO t (m.fr ++ r) with
            | none => rfl
            | some p =>
              have := xB0 hf
              simp [mvP, this]
          have cl : xAO (xCo t m) k = (if xAF k m.to = true then some (m.fr ++ k.drop m.to.length) else some k).elim none fun x => (xAO t x).map fun p => (⟨k, p.val, p.stamp⟩ : PairL) := by
            rw [xON h]
            split
            · rename_i hb
              obtain ⟨r, rfl⟩ := begins_iff.1 hb
              simp only [List.drop_left, Option.elim_some]
              exact mv r
            · exact find_eta.symm
          by_cases h4 : m.kind = 4
          · simp only [h4, if_true, true_and]
            rw [xDp (xFs h m), xAX]
            cases hb : xAF k m.fr with
            | true => simp
            | false =>
              simp only [Bool.false_eq_true, if_false]
              rw [cl]
              cases xAF k m.to <;> rfl
          · simp only [h4, if_false, false_and]
            rw [cl]
            cases xAF k m.to <;> rfl
end Go.Pu
set_option linter.unusedVariables false
set_option linter.unusedSimpArgs false
namespace Go.Pu
def xL1 (t : List PairL) (m : MsgL) : List PairL :=
  (xBV t m.fr m.to).foldl putL (if m.kind = 4 then xAv (xAv t (xAH m.to)) (xAH m.fr) else xAv t (xAH m.to))
def xHa (t : List PairL) (m : MsgL) : List PairL :=
  if m.kind = 1 then putL t ⟨m.key, m.val, m.n⟩ else
  if m.kind = 2 then delT t m.key else
  if m.kind = 3 then xAv t m.sp else
  if m.kind = 6 then t.map (xBr m) else xL1 t m
theorem xHZ {t : List PairL} (h : Srt t) {m : MsgL} (hm : MsgOk m) : xHa t m = xAs t m := by
  unfold xHa xAs
  by_cases h1 : m.kind = 1
  · rw [if_pos h1, if_pos h1]
  rw [if_neg h1, if_neg h1]
  by_cases h2 : m.kind = 2
  · rw [if_pos h2, if_pos h2]
  rw [if_neg h2, if_neg h2]
  by_cases h3 : m.kind = 3
  · rw [if_pos h3, if_pos h3]
  rw [if_neg h3, if_neg h3]
  by_cases h6 : m.kind = 6
  · rw [if_pos h6, if_pos h6]
  rw [if_neg h6, if_neg h6]
  have hk := hm.k
  obtain ⟨ap1, ap2⟩ := hm.ap (by omega)
  have hmv := xHn h m.fr m.to
  unfold xL1 xCo
  by_cases h4 : m.kind = 4
  · rw [if_pos h4, if_pos h4]
    have hd1 := xCc h (xAH m.to)
    have hd2 := xCc hd1 (xAH m.fr)
    rw [xIy hd2 hmv]
    refine Srt.ext (xAr hd2 hmv) (xCc (xAr hd1 hmv) _) fun k => ?_
    rw [xAp k hd2 hmv, xDp (xAr hd1 hmv), xAp k hd1 hmv, xDp hd1, xAX]
    cases hb : xAF k m.fr with
    | false => simp
    | true =>
      simp only [if_true, Option.or_none]
      refine xE8 ?_ t
      cases hc : xAF k m.to with
      | false => rfl
      | true => 
        rcases xMS hb hc with h5 | h5
        · rw [ap1] at h5; cases h5
        · rw [ap2] at h5; cases h5
  · rw [if_neg h4, if_neg h4, xIy (xCc h _) hmv]
def rallT (t : List PairL) (l : List MsgL) : List PairL := l.foldl xHa t
theorem xUG : ∀ (l : List MsgL) {t : List PairL}, Srt t → (∀ m ∈ l, MsgOk m) → rallT t l = allT t l
  | [], t, _, _ => rfl
  | m :: l, t, h, hm => by
    unfold rallT allT
    rw [List.foldl_cons, List.foldl_cons, xHZ h (hm m (by simp))]
    exact xUG l (xA3 h m) fun x hx => hm x (by simp [hx])
end Go.Pu
set_option linter.unusedVariables false
set_option linter.unusedSimpArgs false
namespace Go.Pu
theorem xHG (t : List PairL) (m : MsgL) (r : List MsgL) : allT t (m :: r).reverse = xAs (allT t r.reverse) m := by
  unfold allT
  rw [List.reverse_cons, List.foldl_append]
  rfl
theorem xDI (t : List PairL) (a b : List MsgL) : allT t (a ++ b) = allT (allT t a) b := List.foldl_append
theorem xEh {m : MsgL} {k : Str} {f g : Str → Option PairL} (h : ∀ x, bkL m k = some x → f x = g x) : effP m k f = effP m k g := by
  unfold effP
  cases hb : bkL m k with
  | none => rfl
  | some x => simp only; rw [h x hb]
theorem xHF {m : MsgL} (hm : MsgOk m) {k x : Str} (h : bkL m k = some x) : inL (xA2 m) x = true ∨ (x = k ∧ inL (xDj m) k = false) := by
  unfold bkL at h
  unfold xA2 xDj xAG
  by_cases h1 : m.kind = 1 ∨ m.kind = 2
  · rw [if_pos h1] at h
    right
    have h6 : ¬ m.kind = 6 := by omega
    split at h
    · cases h
    · cases h
      rename_i hk
      refine ⟨rfl, ?_⟩
      rw [if_neg h6, if_pos h1]
      simp only [inL, List.any_cons, List.any_nil, Bool.or_false, xFG]
      exact beq_eq_false_iff_ne.2 (fun e => hk e.symm)
  rw [if_neg h1] at h
  by_cases h3 : m.kind = 3
  · rw [if_pos h3] at h
    right
    split at h
    · cases h
    · cases h
      rename_i hk
      refine ⟨rfl, ?_⟩
      rw [if_neg (by omega), if_neg h1, if_neg (by omega), if_neg (by omega)]
      simpa [inL] using hk
  rw [if_neg h3] at h
  by_cases h6 : m.kind = 6
  · rw [if_pos h6] at h
    right
    cases h
    refine ⟨rfl, ?_⟩
    rw [if_pos h6]; rfl
  rw [if_neg h6] at h
  have h45 (hk : 1 ≤ m.kind ∧ m.kind ≤ 6) : m.kind = 4 ∨ m.kind = 5 := by omega
  have h45 := h45 hm.k
  split at h
  · cases h
  rename_i h4
  split at h
  · cases h
    left
    rw [if_pos h45]
    simp [inL, xAX, xBi]
  · cases h
    right
    refine ⟨rfl, ?_⟩
    rename_i hto
    rw [if_neg h6, if_neg h1]
    by_cases hk4 : m.kind = 4
    · rw [if_pos hk4]
      have : xAF k m.fr = false := by
        cases hb : xAF k m.fr with
        | false => rfl
        | true => exact absurd ⟨hk4, hb⟩ h4
      simp [inL, xAX, this, hto]
    · rw [if_neg hk4, if_pos (by omega)]
      simp [inL, xAX, hto]
theorem xCZ {m : MsgL} (hm : MsgOk m) {k : Str} (hw : inL (xAG m) k = false) {t : List PairL} : effP m k (xAO t) = xAO t k := by
  have hk := hm.k
  unfold xAG at hw
  unfold effP bkL
  by_cases h1 : m.kind = 1 ∨ m.kind = 2
  · rw [if_pos h1] at hw ⊢
    simp only [inL, List.any_cons, List.any_nil, Bool.or_false, xFG, beq_eq_false_iff_ne] at hw
    rw [if_neg (fun e => hw e.symm)]
    simp only [show ¬ m.kind = 6 by omega, false_and, if_false]
    exact find_eta
  rw [if_neg h1] at hw ⊢
  by_cases h3 : m.kind = 3
  · rw [if_neg (by omega), if_neg (by omega)] at hw
    simp only [inL, List.any_cons, List.any_nil, Bool.or_false] at hw
    rw [if_pos h3, if_neg (by simp [hw])]
    simp only [show ¬ m.kind = 6 by omega, false_and, if_false]
    exact find_eta
  rw [if_neg h3]
  by_cases h6 : m.kind = 6
  · rw [if_neg (by omega), if_neg (by omega)] at hw
    simp only [inL, List.any_cons, List.any_nil, Bool.or_false] at hw
    rw [if_pos h6]
    simp only [hw, Bool.false_eq_true, and_false, if_false]
    exact find_eta
  rw [if_neg h6]
  by_cases h4 : m.kind = 4
  · rw [if_pos h4] at hw
    simp only [inL, List.any_cons, List.any_nil, Bool.or_false, Bool.or_eq_false_iff, xAX] at hw
    rw [if_neg (by simp [hw.1]), if_neg (by simp [hw.2])]
    simp only [h6, false_and, if_false]
    exact find_eta
  · rw [if_neg h4, if_pos (by omega)] at hw
    simp only [inL, List.any_cons, List.any_nil, Bool.or_false, xAX] at hw
    rw [if_neg (by simp [h4]), if_neg (by simp [hw])]
    simp only [h6, false_and, if_false]
    exact find_eta
theorem xEn : ∀ (r : List MsgL) (d : List SpanL) {t u : List PairL}, Srt t → Srt u → (∀ m ∈ r, MsgOk m) → (∀ k, inL (xQj r d) k = false → xAO t k = xAO u k) →
    ∀ k, inL d k = false → xAO (allT t r.reverse) k = xAO (allT u r.reverse) k
  | [], d, t, u, _, _, _, h, k, hk => h k hk
  | m :: r, d, t, u, ht, hu, hm, h, k, hk => by
    have hmo := hm m (by simp)
    have hr : ∀ x ∈ r, MsgOk x := fun x hx => hm x (by simp [hx])
    rw [xHG, xHG, xA0 (xBP _ ht) hmo, xA0 (xBP _ hu) hmo]
    rw [xQj] at h
    by_cases hc : covL m d = true
    · rw [if_pos hc] at h
      have hw : inL (xAG m) k = false := by
        cases hw : inL (xAG m) k with
        | false => rfl
        | true => rw [cov_iff.1 hc k hw] at hk; cases hk
      rw [xCZ hmo hw, xCZ hmo hw]
      exact xEn r d ht hu hr h k hk
    · rw [if_neg hc] at h
      refine xEh fun x hx => xEn r _ ht hu hr h x ?_
      rw [xFc]
      rcases xHF hmo hx with h1 | ⟨rfl, h1⟩
      · rw [h1]; simp
      · rw [hk, h1]; rfl
theorem xEx : ∀ (r : List MsgL) (d : List SpanL) {t : List PairL}, Srt t → (∀ m ∈ r, MsgOk m) → ∀ k, inL d k = false → xAO (allT t r.reverse) k = xAO (allT t (xDk r d).reverse) k
  | [], d, t, _, _, k, hk => rfl
  | m :: r, d, t, ht, hm, k, hk => by
    have hmo := hm m (by simp)
    have hr : ∀ x ∈ r, MsgOk x := fun x hx => hm x (by simp [hx])
    rw [xHG, xA0 (xBP _ ht) hmo, xDk]
    by_cases hc : covL m d = true
    · rw [if_pos hc]
      have hw : inL (xAG m) k = false := by
        cases hw : inL (xAG m) k with
        | false => rfl
        | true => rw [cov_iff.1 hc k hw] at hk; cases hk
      rw [xCZ hmo hw]
      exact xEx r d ht hr k hk
    · rw [if_neg hc, xHG, xA0 (xBP _ ht) hmo]
      refine xEh fun x hx => xEx r _ ht hr x ?_
      rw [xFc]
      rcases xHF hmo hx with h1 | ⟨rfl, h1⟩
      · rw [h1]; simp
      · rw [hk, h1]; rfl
theorem reduce_all {t : List PairL} (ht : Srt t) {l : List MsgL} (hl : ∀ m ∈ l, MsgOk m) : allT t (xCk l) = allT t l := by
  refine Srt.ext (xBP _ ht) (xBP _ ht) fun k => ?_
  have h := xEx l.reverse (xAn []) ht (fun m hm => hl m (List.mem_reverse.1 hm)) k (by rfl)
  rw [List.reverse_reverse] at h
  exact h.symm
def outT (t : List PairL) (d : List SpanL) : List PairL := t.filter fun p => !inL d p.key
def inT (t : List PairL) (d : List SpanL) : List PairL := t.filter fun p => inL d p.key
theorem xFp {t : List PairL} (h : Srt t) (d : List SpanL) (k : Str) : xAO (outT t d) k = if inL d k = true then none else xAO t k := by
  unfold outT
  rw [xBb h]
  cases hf : xAO t k with
  | none => simp
  | some p =>
    have := xB0 hf
    rw [Option.filter_some, this]
    cases inL d k <;> simp
theorem xGI {t : List PairL} (h : Srt t) (d : List SpanL) (k : Str) : xAO (inT t d) k = if inL d k = true then xAO t k else none := by
  unfold inT
  rw [xBb h]
  cases hf : xAO t k with
  | none => simp
  | some p =>
    have := xB0 hf
    rw [Option.filter_some, this]
theorem xF2 {t : List PairL} (h : Srt t) (d : List SpanL) : Srt (outT t d) := h.filter _
theorem xLJ {t : List PairL} (h : Srt t) (d : List SpanL) : Srt (inT t d) := h.filter _
theorem live_out {t : List PairL} (ht : Srt t) {l : List MsgL} (hl : ∀ m ∈ l, MsgOk m) (d : List SpanL) : outT (allT t l) d = outT (allT t (xMG l d).1) d := by
  refine Srt.ext (xF2 (xBP _ ht) _) (xF2 (xBP _ ht) _) fun k => ?_
  rw [xFp (xBP _ ht), xFp (xBP _ ht)]
  split
  · rfl
  · rename_i hk
    have h := xEx l.reverse (xAn d) ht (fun m hm => hl m (List.mem_reverse.1 hm)) k (by rw [(xA6 d).2]; simpa using hk)
    rw [List.reverse_reverse] at h
    exact h
def xPk (t u : List PairL) (d : List SpanL) : List PairL := xA1 (outT t d) (inT u d)
theorem xPj {t u : List PairL} (ht : Srt t) (hu : Srt u) (d : List SpanL) : Srt (xPk t u d) := xAr (xF2 ht d) (xLJ hu d)
theorem live_other {t u : List PairL} (ht : Srt t) (hu : Srt u) {l : List MsgL} (hl : ∀ m ∈ l, MsgOk m) : allT t l = allT (xPk t u (xMG l []).2) l := by
  have ho := xPj ht hu (xMG l []).2
  refine Srt.ext (xBP _ ht) (xBP _ ho) fun k => ?_
  have h := xEn l.reverse (xAn []) ht ho (fun m hm => hl m (List.mem_reverse.1 hm)) (fun k hk => ?_) k (by rfl)
  · rw [List.reverse_reverse] at h
    exact h
  · have hk' : inL (xMG l []).2 k = false := hk
    unfold xPk
    rw [xAp k (xF2 ht _) (xLJ hu _), xGI hu, xFp ht, hk']
    simp
end Go.Pu
set_option linter.unusedVariables false
set_option linter.unusedSimpArgs false
namespace Go.Pu
theorem xQs {a b : SpanL} (h : ∀ k, hasL b k = true → hasL a k = true) : xA7 a b = true := by
  unfold xA7
  cases he : xAJ b with
  | true => rfl
  | false =>
    have h1 := h _ (xDQ he)
    rw [h1]
    simp only [Bool.false_or, Bool.true_and]
    refine decide_eq_true ?_
    by_cases hc : xEC a.hi b.hi < 0
    · exfalso
      obtain ⟨h2, h3⟩ := cmpEnd_lt.1 hc
      have h5 : Op.bytesLess b.lo a.hi = true := (has_iff.1 h1).2.resolve_left h2
      have h6 : hasL b a.hi = true := has_iff.2 ⟨ble_iff.2 (.inl h5), h3⟩
      rcases (has_iff.1 (h _ h6)).2 with h7 | h7
      · exact h2 h7
      · rw [xAq] at h7; cases h7
    · omega
theorem xQC {m : MsgL} {s : SpanL} (h : ∀ k, inL (xAw m) k = true → hasL s k = true) : xCM m s = true :=
  List.all_eq_true.2 fun x hx => xQs fun k hk => h k (List.any_eq_true.2 ⟨x, hx, hk⟩)
theorem xED {m : MsgL} {k : Str} (h : inL (xAG m) k = true) : inL (xAw m) k = true := by unfold xAw; rw [xAo, h]; simp
theorem xTW {m : MsgL} {k : Str} (h : inL (xA2 m) k = true) : inL (xAw m) k = true := by unfold xAw; rw [xAo, h]; simp
theorem xQ7 {m : MsgL} (hm : MsgOk m) {k x : Str} (hw : inL (xAw m) k = true) (h : bkL m k = some x) : inL (xAw m) x = true := by
  rcases xHF hm h with h1 | ⟨rfl, _⟩
  · exact xTW h1
  · exact hw
def Near (m : MsgL) (s : SpanL) : Prop := xBA m = true → xCM m s = true ∨ ∀ k, inL (xAw m) k = true → hasL s k = false
theorem xM3 {m : MsgL} {pv : List Str} (ha : Asc pv) (hc : xDr m pv = false) {i : Nat} {s : SpanL} (hs : (xAK pv)[i]? = some s) : Near m s := by
  intro hm
  unfold xDr at hc
  rw [hm, Bool.true_and] at hc
  obtain ⟨s', hs'⟩ := xL2 pv m.fr
  rw [hs', Option.getD_some] at hc
  have hl : xCM m s' = true := by simpa using hc
  by_cases e : i = atL m.fr pv
  · subst e
    rw [hs'] at hs; cases hs
    exact .inl hl
  · right
    intro k hk
    have h1 := xDP hl hk
    rw [xGX ha hs'] at h1
    rw [xGX ha hs, ← of_decide_eq_true h1]
    simpa using e
theorem xBd {m : MsgL} {s : SpanL} {p : MsgL} {q : List MsgL} (h : xAx m s = p :: q) : q = [] ∧ ((xAh m = true ∧ p = { m with sp := xAV m.sp s }) ∨ (xAh m = false ∧ p = m ∧ ∃ k, inL (xAG m) k = true ∧ hasL s k = true)) := by
  unfold xAx at h
  split at h
  · rename_i hr
    split at h
    · cases h
    · cases h; exact ⟨rfl, .inl ⟨hr, rfl⟩⟩
  · rename_i hr
    split at h
    · rename_i ha
      cases h
      obtain ⟨x, hx, ht⟩ := List.any_eq_true.1 ha
      obtain ⟨k, h1, h2⟩ := tch_iff.1 ht
      exact ⟨rfl, .inr ⟨by simpa using hr, rfl, k, List.any_eq_true.2 ⟨x, hx, h1⟩, h2⟩⟩
    · cases h
theorem xMu {m : MsgL} {s : SpanL} (h : xAx m s = []) (k : Str) (hk : hasL s k = true) : inL (xAG m) k = false := by
  cases hw : inL (xAG m) k with
  | false => rfl
  | true => exact absurd h (xHd hw hk)
theorem xMt {m : MsgL} {s : SpanL} (h : ∀ k, inL (xAG m) k = true → hasL s k = false) : xAx m s = [] := by
  rw [xPi]
  unfold xIx
  rw [if_neg]
  intro ht
  obtain ⟨k, h1, h2⟩ := touch_iff.1 ht
  rw [xAW, h k h1] at h2
  simp [inL] at h2
theorem ranges_iff {m : MsgL} : xAh m = true ↔ m.kind = 3 ∨ m.kind = 6 := by simp [xAh]
theorem xL4 {m : MsgL} (hm : MsgOk m) {s : SpanL} {p : MsgL} {q : List MsgL} (h : xAx m s = p :: q) : MsgOk p := by
  rcases (xBd h).2 with ⟨_, rfl⟩ | ⟨_, rfl, _⟩
  · exact ⟨hm.k, hm.ap, hm.ne⟩
  · exact hm
theorem xFj {m : MsgL} {s : SpanL} {x : MsgL} (h : x ∈ xCs m s) : xAh m = true ∧ ∃ y ∈ xBW [m.sp] [s], x = { m with sp := y } := by
  unfold xCs at h
  split at h
  · rename_i hr
    obtain ⟨y, hy, rfl⟩ := List.mem_map.1 h
    exact ⟨hr, y, hy, rfl⟩
  · cases h
theorem xUm {m : MsgL} (hm : MsgOk m) {s : SpanL} {x : MsgL} (h : x ∈ xCs m s) : MsgOk x := by
  obtain ⟨_, y, _, rfl⟩ := xFj h
  exact ⟨hm.k, hm.ap, hm.ne⟩
theorem xGN {m : MsgL} (hr : xAh m = true) {k : Str} (h : inL (xAw m) k = true) : hasL m.sp k = true := by
  unfold xAw at h
  rw [xAo, xCG hr] at h
  have hk := ranges_iff.1 hr
  unfold xA2 at h
  rw [if_neg (by omega)] at h
  split at h <;> simpa [inL] using h
theorem xPx {m : MsgL} {s : SpanL} {y : SpanL} (hy : y ∈ xBW [m.sp] [s]) {k : Str} (hk : hasL y k = true) : hasL m.sp k = true ∧ hasL s k = false := by
  have : inL (xBW [m.sp] [s]) k = true := List.any_eq_true.2 ⟨y, hy, hk⟩
  rw [xBU] at this
  simpa [inL] using this
theorem xNJ {m : MsgL} {s : SpanL} {x : MsgL} (h : x ∈ xCs m s) {k : Str} (hk : inL (xAw x) k = true) : hasL s k = false := by
  obtain ⟨hr, y, hy, rfl⟩ := xFj h
  exact (xPx hy (xGN (m := { m with sp := y }) hr hk)).2
theorem xLF {m : MsgL} {s : SpanL} {x : MsgL} (h : x ∈ xCs m s) : xAx x s = [] ∧ xBA x = false := by
  refine ⟨xMt fun k hk => xNJ h (xED hk), ?_⟩
  obtain ⟨hr, y, _, rfl⟩ := xFj h
  have := ranges_iff.1 hr
  simp only [xBA, Bool.or_eq_false_iff, beq_eq_false_iff_ne]
  omega
theorem xQI {m : MsgL} (hm : MsgOk m) (h1 : xAh m = false) (h2 : xBA m = false) : m.kind = 1 ∨ m.kind = 2 := by
  have := hm.k
  have h3 : ¬ (m.kind = 3 ∨ m.kind = 6) := fun h => by rw [ranges_iff.2 h] at h1; cases h1
  have h4 : ¬ (m.kind = 4 ∨ m.kind = 5) := fun h => by rw [moves_iff.2 h] at h2; cases h2
  omega
theorem xL5 {m : MsgL} (hm : MsgOk m) {s : SpanL} (hn : Near m s) {p : MsgL} {q : List MsgL} (h : xAx m s = p :: q) {k : Str} (hk : inL (xAw p) k = true) : hasL s k = true := by
  rcases (xBd h).2 with ⟨hr, rfl⟩ | ⟨hr, rfl, k', h1, h2⟩
  · have := xGN (m := { m with sp := xAV m.sp s }) hr hk
    simp only [xBZ, Bool.and_eq_true] at this
    exact this.2
  · cases hmv : xBA p with
    | true =>
      rcases hn hmv with hl | hd
      · exact xDP hl hk
      · have := hd k' (xED h1)
        rw [h2] at this; cases this
    | false =>
      have h12 := xQI hm hr hmv
      unfold xAG at h1
      unfold xAw xA2 xAG at hk
      rw [if_pos h12] at h1 hk
      rw [if_neg (by omega), if_neg (by omega)] at hk
      simp only [List.nil_append, inL, List.any_cons, List.any_nil, Bool.or_false, xFG, beq_iff_eq] at h1 hk
      subst hk
      subst h1
      exact h2
theorem xMw {t : List PairL} (ht : Srt t) {m : MsgL} (hm : MsgOk m) {s : SpanL} (hn : Near m s) : allT (inT t [s]) (xAx m s) = inT (xAs t m) [s] := by
  refine Srt.ext (xBP _ (xLJ ht _)) (xLJ (xA3 ht _) _) fun k => ?_
  rw [xGI (xA3 ht _)]
  have es : inL [s] k = hasL s k := by simp [inL]
  cases hp : xAx m s with
  | nil =>
    show xAO (inT t [s]) k = _
    rw [xGI ht, es]
    cases hk : hasL s k with
    | false => rfl
    | true => rw [if_pos rfl, if_pos rfl, xA0 ht hm, xCZ hm (xMu hp k hk)]
  | cons p q =>
    obtain ⟨rfl, hc⟩ := xBd hp
    have hpo := xL4 hm hp
    show xAO (xAs (inT t [s]) p) k = _
    rw [xA0 (xLJ ht _) hpo, es]
    cases hk : hasL s k with
    | false =>
      rw [if_neg (by simp)]
      have hw : inL (xAG p) k = false := by
        cases hw : inL (xAG p) k with
        | false => rfl
        | true => rw [xL5 hm hn hp (xED hw)] at hk; cases hk
      rw [xCZ hpo hw, xGI ht, es, hk]
      simp
    | true =>
      rw [if_pos rfl, xA0 ht hm]
      rcases hc with ⟨hr, rfl⟩ | ⟨hr, rfl, k', h1, h2⟩
      · have hr' := ranges_iff.1 hr
        have hmt : hasL (xAV m.sp s) k = hasL m.sp k := by rw [xBZ, hk, Bool.and_true]
        have hf : xAO (inT t [s]) k = xAO t k := by rw [xGI ht, es, hk, if_pos rfl]
        unfold effP bkL
        rcases hr' with h3 | h6
        · simp only [h3, hmt]
          cases hasL m.sp k <;> simp [hf]
        · simp only [h6, hmt]
          simp [hf]
      · refine xEh fun x hx => ?_
        have hsx : hasL s x = true := by
          rcases xHF hm hx with h3 | ⟨rfl, _⟩
          · cases hmv : xBA p with
            | true =>
              rcases hn hmv with hl | hd
              · exact xDP hl (xTW h3)
              · rw [hd k' (xED h1)] at h2; cases h2
            | false =>
              have h12 := xQI hm hr hmv
              unfold xA2 at h3
              rw [if_neg (by omega), if_neg (by omega)] at h3
              simp [inL] at h3
          · exact hk
        rw [xGI ht]
        simp [inL, hsx]
def Apart (p q : MsgL) : Prop := ∀ k, inL (xAw p) k = true → inL (xAw q) k = false
theorem xMT {p q : MsgL} (h : Apart p q) {k : Str} (hk : inL (xAw p) k = true) : inL (xAG q) k = false := by
  cases hw : inL (xAG q) k with
  | false => rfl
  | true => have := h k hk; rw [xED hw] at this; cases this
theorem Apart.symm {p q : MsgL} (h : Apart p q) : Apart q p := fun k hk => by
  cases hw : inL (xAw p) k with
  | false => rfl
  | true => have := h k hw; rw [hk] at this; cases this
theorem xU6 {t : List PairL} (ht : Srt t) {p q : MsgL} (hp : MsgOk p) (hq : MsgOk q) (hd : Apart p q) : xAs (xAs t p) q = xAs (xAs t q) p := by
  refine Srt.ext (xA3 (xA3 ht _) _) (xA3 (xA3 ht _) _) fun k => ?_
  rw [xA0 (xA3 ht _) hq, xA0 (xA3 ht _) hp]
  cases hwq : inL (xAG q) k with
  | true =>
    have hwp : inL (xAG p) k = false := xMT hd.symm (xED hwq)
    rw [xCZ hp hwp, xA0 ht hq]
    refine xEh fun x hx => ?_
    rw [xA0 ht hp, xCZ hp (xMT hd.symm (xQ7 hq (xED hwq) hx))]
  | false =>
    rw [xCZ hq hwq, xA0 ht hp]
    cases hwp : inL (xAG p) k with
    | true =>
      refine xEh fun x hx => ?_
      rw [xA0 ht hq, xCZ hq (xMT hd (xQ7 hp (xED hwp) hx))]
    | false => rw [xCZ hp hwp, xCZ hp hwp, xA0 ht hq, xCZ hq hwq]
theorem xIU {p : MsgL} (hp : MsgOk p) : ∀ (l : List MsgL) {t : List PairL}, Srt t → (∀ q ∈ l, MsgOk q ∧ Apart p q) → allT (xAs t p) l = xAs (allT t l) p
  | [], t, _, _ => rfl
  | q :: l, t, ht, h => by
    obtain ⟨h1, h2⟩ := h q (by simp)
    show allT (xAs (xAs t p) q) l = xAs (allT (xAs t q) l) p
    rw [xU6 ht hp h1 h2]
    exact xIU hp l (xA3 ht _) fun x hx => h x (by simp [hx])
def rngP (m : MsgL) (k : Str) (b : Bool) (o : Option PairL) : Option PairL := if b = true then (if m.kind = 3 then none else o.map fun p => ⟨k, p.val, m.n⟩) else o
theorem xKF {t : List PairL} (ht : Srt t) {m : MsgL} (hm : MsgOk m) (hr : xAh m = true) (k : Str) : xAO (xAs t m) k = rngP m k (hasL m.sp k) (xAO t k) := by
  rw [xA0 ht hm]
  unfold effP bkL rngP
  rcases ranges_iff.1 hr with h | h
  · simp only [h]
    cases hasL m.sp k
    · simp [find_eta]
    · simp
  · simp only [h]
    cases hasL m.sp k
    · simp [find_eta]
    · simp
theorem xPP (m : MsgL) (k : Str) (a b : Bool) (o : Option PairL) : rngP m k a (rngP m k b o) = rngP m k (b || a) o := by
  unfold rngP
  cases a <;> cases b <;> simp
  split <;> simp [Function.comp_def]
theorem xLQ {m : MsgL} (hm : MsgOk m) (hr : xAh m = true) (k : Str) : ∀ (l : List SpanL) {t : List PairL}, Srt t → xAO (allT t (l.map fun x => { m with sp := x })) k = rngP m k (inL l k) (xAO t k)
  | [], t, _ => by simp [allT, inL, rngP]
  | x :: l, t, ht => by
    have hx : MsgOk { m with sp := x } := ⟨hm.k, hm.ap, hm.ne⟩
    show xAO (allT (xAs t { m with sp := x }) (l.map fun x => { m with sp := x })) k = _
    rw [xLQ hm hr k l (xA3 ht _), xKF ht hx hr k]
    have e : ∀ b o, rngP { m with sp := x } k b o = rngP m k b o := fun _ _ => rfl
    rw [e, xPP, xAW]
theorem xO1 {t : List PairL} (ht : Srt t) {m : MsgL} (hm : MsgOk m) {s : SpanL} {p : MsgL} {q : List MsgL} (h : xAx m s = p :: q) : allT (xAs t p) (xCs m s) = xAs t m := by
  rcases (xBd h).2 with ⟨hr, rfl⟩ | ⟨hr, rfl, _⟩
  · refine Srt.ext (xBP _ (xA3 ht _)) (xA3 ht _) fun k => ?_
    unfold xCs
    rw [if_pos hr, xLQ hm hr k _ (xA3 ht _), xKF ht (m := { m with sp := xAV m.sp s }) ⟨hm.k, hm.ap, hm.ne⟩ hr k, xKF ht hm hr k]
    have e : ∀ b o, rngP { m with sp := xAV m.sp s } k b o = rngP m k b o := fun _ _ => rfl
    rw [e, xPP, xBU, xBZ]
    simp only [inL, List.any_cons, List.any_nil, Bool.or_false]
    congr 1
    cases hasL m.sp k <;> cases hasL s k <;> rfl
  · unfold xCs
    rw [if_neg (by rw [hr]; simp)]
    rfl
structure InvR (s : SpanL) (t : List PairL) (pre : List MsgL) (w : WayL) : Prop where
  eff : allT (allT t w.go) w.stay = allT t pre
  go : ∀ p ∈ w.go, MsgOk p ∧ ∀ k, inL (xAw p) k = true → hasL s k = true
  st : ∀ q ∈ w.stay, MsgOk q ∧ ∀ k, inL (xAw q) k = true → hasL s k = true → inL w.blk k = true
theorem free_iff {b l : List SpanL} : xFP b l = true ↔ ∀ k, inL l k = true → inL b k = false := by
  rw [xUz, Bool.not_eq_true']
  constructor
  · intro h k hk
    cases hb : inL b k with
    | false => rfl
    | true => rw [touch_iff.2 ⟨k, hk, hb⟩] at h; cases h
  · intro h
    cases ht : xBx l b with
    | false => rfl
    | true =>
      obtain ⟨k, h1, h2⟩ := touch_iff.1 ht
      rw [h k h1] at h2; cases h2
theorem xIb {m : MsgL} (hm : MsgOk m) (hmv : xBA m = false) {k : Str} (h : inL (xAw m) k = true) : inL (xAG m) k = true := by
  cases hr : xAh m with
  | true =>
    rw [xCG hr]
    simpa [inL] using xGN hr h
  | false =>
    have h12 := xQI hm hr hmv
    unfold xAw xA2 at h
    rw [if_neg (by omega), if_neg (by omega)] at h
    exact h
theorem xOC {m : MsgL} {s : SpanL} {p : MsgL} {q : List MsgL} (h : xAx m s = p :: q) : xBA p = xBA m := by
  rcases (xBd h).2 with ⟨_, rfl⟩ | ⟨_, rfl, _⟩ <;> rfl
theorem xL6 {m : MsgL} {s : SpanL} {p : MsgL} {q : List MsgL} (h : xAx m s = p :: q) {k : Str} (hw : inL (xAG m) k = true) (hk : hasL s k = true) : inL (xAG p) k = true := by
  rcases (xBd h).2 with ⟨hr, rfl⟩ | ⟨_, rfl, _⟩
  · rw [xCG (m := { m with sp := xAV m.sp s }) hr]
    rw [xCG hr] at hw
    simp only [inL, List.any_cons, List.any_nil, Bool.or_false] at hw ⊢
    rw [xBZ, hw, hk]; rfl
  · exact hw
theorem xSa {s : SpanL} {t : List PairL} (ht : Srt t) {pre : List MsgL} {w : WayL} (h : InvR s t pre w) {m : MsgL} (hm : MsgOk m) : InvR s t (pre ++ [m]) (xAg s w m) := by
  have estay : ∀ (b : List SpanL), allT (allT t w.go) (w.stay ++ [m]) = allT t (pre ++ [m]) := fun _ => by rw [xDI, xDI, h.eff]
  have ego : ∀ p lf, MsgOk p → (∀ k, inL (xAw p) k = true → hasL s k = true) → (∀ k, inL (xAw p) k = true → inL w.blk k = false) → (∀ u, Srt u → allT (xAs u p) lf = xAs u m) → allT (allT t (w.go ++ [p])) (w.stay ++ lf) = allT t (pre ++ [m]) := by
    intro p lf hp h1 h2 h3
    rw [xDI, xDI, xDI]
    show allT (allT (xAs (allT t w.go) p) w.stay) lf = xAs (allT t pre) m
    rw [xIU hp w.stay (xBP _ ht), h.eff, h3 _ (xBP _ ht)]
    intro q hq
    refine ⟨(h.st q hq).1, fun k hk => ?_⟩
    cases hb : inL (xAw q) k with
    | false => rfl
    | true =>
      have := (h.st q hq).2 k hb (h1 k hk)
      rw [h2 k hk] at this; cases this
  unfold xAg
  split
  · rename_i hmv
    split
    · rename_i hl
      rw [Bool.and_eq_true] at hl
      have h1 : ∀ k, inL (xAw m) k = true → hasL s k = true := fun k hk => xDP hl.1 hk
      refine ⟨?_, ?_, h.st⟩
      · have := ego m [] hm h1 (fun k hk => free_iff.1 hl.2 k hk) (fun u _ => rfl)
        simpa using this
      · intro p hp
        rcases List.mem_append.1 hp with hp | hp
        · exact h.go p hp
        · obtain rfl : p = m := by simpa using hp
          exact ⟨hm, h1⟩
    · refine ⟨estay [], h.go, ?_⟩
      intro q hq
      rcases List.mem_append.1 hq with hq | hq
      · exact ⟨(h.st q hq).1, fun k h1 h2 => by rw [xAo, (h.st q hq).2 k h1 h2]; rfl⟩
      · obtain rfl : q = m := by simpa using hq
        exact ⟨hm, fun k h1 _ => by rw [xAo, h1]; simp⟩
  · rename_i hmv
    have hmv : xBA m = false := by simpa using hmv
    have hn : Near m s := fun h => by rw [hmv] at h; cases h
    split
    · rename_i hp
      refine ⟨estay [], h.go, ?_⟩
      intro q hq
      rcases List.mem_append.1 hq with hq | hq
      · exact h.st q hq
      · obtain rfl : q = m := by simpa using hq
        refine ⟨hm, fun k h1 h2 => ?_⟩
        have := xMu hp k h2
        rw [xIb hm hmv h1] at this; cases this
    · rename_i p r hp
      have hpo := xL4 hm hp
      have h1 : ∀ k, inL (xAw p) k = true → hasL s k = true := fun k hk => xL5 hm hn hp hk
      have hpm : xBA p = false := by rw [xOC hp, hmv]
      split
      · rename_i hf
        refine ⟨ego p _ hpo h1 (fun k hk => free_iff.1 hf k (xIb hpo hpm hk)) (fun u hu => xO1 hu hm hp), ?_, ?_⟩
        · intro x hx
          rcases List.mem_append.1 hx with hx | hx
          · exact h.go x hx
          · obtain rfl : x = p := by simpa using hx
            exact ⟨hpo, h1⟩
        · intro q hq
          rcases List.mem_append.1 hq with hq | hq
          · exact h.st q hq
          · refine ⟨xUm hm hq, fun k h2 h3 => ?_⟩
            rw [xNJ hq h2] at h3; cases h3
      · refine ⟨estay [], h.go, ?_⟩
        intro q hq
        rcases List.mem_append.1 hq with hq | hq
        · exact ⟨(h.st q hq).1, fun k h1 h2 => by rw [xAo, (h.st q hq).2 k h1 h2]; rfl⟩
        · obtain rfl : q = m := by simpa using hq
          refine ⟨hm, fun k h2 h3 => ?_⟩
          rw [xAo, xL6 hp (xIb hm hmv h2) h3]
          simp
theorem xNP {s : SpanL} {t : List PairL} (ht : Srt t) : ∀ (l pre : List MsgL) (w : WayL), InvR s t pre w → (∀ m ∈ l, MsgOk m) → InvR s t (pre ++ l) (l.foldl (xAg s) w)
  | [], pre, w, h, _ => by simpa using h
  | m :: l, pre, w, h, hl => by
    have := xNP ht l (pre ++ [m]) _ (xSa ht h (hl m (by simp))) fun x hx => hl x (by simp [hx])
    rw [List.append_assoc] at this
    exact this
theorem xDf {t : List PairL} (ht : Srt t) {l : List MsgL} (hl : ∀ m ∈ l, MsgOk m) (s : SpanL) : InvR s t l (xAf l s) := by
  have := xNP ht l [] ⟨[], [], []⟩ ⟨rfl, by simp, by simp⟩ hl (s := s)
  rw [List.nil_append] at this
  exact this
theorem xHY {t : List PairL} (ht : Srt t) {l : List MsgL} (hl : ∀ m ∈ l, MsgOk m) (s : SpanL) : allT (allT t (xAf l s).go) (xAf l s).stay = allT t l := (xDf ht hl s).eff
theorem ready_two {t : List PairL} (ht : Srt t) {l : List MsgL} (hl : ∀ m ∈ l, MsgOk m) (s u : SpanL) :
    allT (allT (allT t (xAf l s).go) (xAf (xAf l s).stay u).go) (xAf (xAf l s).stay u).stay = allT t l := by
  have h := xDf ht hl s
  rw [xHY (xBP _ ht) (fun m hm => (h.st m hm).1), h.eff]
theorem xN7 {l : List MsgL} (hl : ∀ m ∈ l, MsgOk m) (s : SpanL) {p : MsgL} (hp : p ∈ (xAf l s).go) : xCM p s = true := xQC ((xDf (t := []) (by simp [Srt]) hl s).go p hp).2
theorem xGy {l : List MsgL} (hl : ∀ m ∈ l, MsgOk m) (s : SpanL) : (∀ p ∈ (xAf l s).go, MsgOk p) ∧ ∀ p ∈ (xAf l s).stay, MsgOk p :=
  ⟨fun p hp => ((xDf (t := []) (by simp [Srt]) hl s).go p hp).1, fun p hp => ((xDf (t := []) (by simp [Srt]) hl s).st p hp).1⟩
theorem xTN {s : SpanL} {k : Str} (hk : hasL s k = false) : ∀ (l : List MsgL) {t : List PairL}, Srt t → (∀ p ∈ l, MsgOk p ∧ ∀ k, inL (xAw p) k = true → hasL s k = true) → xAO (allT t l) k = xAO t k
  | [], t, _, _ => rfl
  | p :: l, t, ht, h => by
    obtain ⟨h1, h2⟩ := h p (by simp)
    show xAO (allT (xAs t p) l) k = _
    rw [xTN hk l (xA3 ht _) fun x hx => h x (by simp [hx]), xA0 ht h1, xCZ h1]
    cases hw : inL (xAG p) k with
    | false => rfl
    | true => rw [h2 k (xED hw)] at hk; cases hk
theorem xJj {t : List PairL} (ht : Srt t) {l : List MsgL} (hl : ∀ m ∈ l, MsgOk m) (s : SpanL) : outT (allT t (xAf l s).go) [s] = outT t [s] := by
  refine Srt.ext (xF2 (xBP _ ht) _) (xF2 ht _) fun k => ?_
  rw [xFp (xBP _ ht), xFp ht]
  split
  · rfl
  · rename_i hk
    exact xTN (by simpa [inL] using hk) _ ht (xDf ht hl s).go
theorem xKZ {s : SpanL} : ∀ (l : List MsgL) (w : WayL), (∀ x ∈ l, xAx x s = [] ∧ xBA x = false) → l.foldl (xAg s) w = ⟨w.go, w.stay ++ l, w.blk⟩
  | [], w, _ => by simp
  | x :: l, w, h => by
    obtain ⟨h1, h2⟩ := h x (by simp)
    have e : xAg s w x = ⟨w.go, w.stay ++ [x], w.blk⟩ := by
      unfold xAg
      rw [if_neg (by rw [h2]; simp), h1]
    rw [List.foldl_cons, e, xKZ l _ fun y hy => h y (by simp [hy])]
    simp
theorem xOd {s : SpanL} {w : WayL} (h : w.stay.foldl (xAg s) ⟨[], [], []⟩ = ⟨[], w.stay, w.blk⟩) (m : MsgL) : (xAg s w m).stay.foldl (xAg s) ⟨[], [], []⟩ = ⟨[], (xAg s w m).stay, (xAg s w m).blk⟩ := by
  generalize hF : xAg s = F at h ⊢
  have hw : F w m = xAg s w m := by rw [hF]
  have hw2 : ∀ u, F u m = xAg s u m := fun u => by rw [hF]
  unfold xAg at hw hw2
  rw [hw]
  split
  · rename_i hmv
    split
    · exact h
    · rename_i hl
      simp only
      rw [List.foldl_append, h, List.foldl_cons, List.foldl_nil, hw2, if_pos hmv, if_neg hl]
  · rename_i hmv
    split
    · rename_i hp
      simp only
      rw [List.foldl_append, h, List.foldl_cons, List.foldl_nil, hw2, if_neg hmv, hp]
    · rename_i p r hp
      split
      · rename_i hf
        simp only
        rw [List.foldl_append, h, ← hF, xKZ _ _ fun x hx => xLF hx]
      · rename_i hf
        simp only
        rw [List.foldl_append, h, List.foldl_cons, List.foldl_nil, hw2, if_neg hmv, hp]
        simp only
        rw [if_neg hf]
theorem xJY {s : SpanL} : ∀ (l : List MsgL) (w : WayL), w.stay.foldl (xAg s) ⟨[], [], []⟩ = ⟨[], w.stay, w.blk⟩ → (l.foldl (xAg s) w).stay.foldl (xAg s) ⟨[], [], []⟩ = ⟨[], (l.foldl (xAg s) w).stay, (l.foldl (xAg s) w).blk⟩
  | [], w, h => h
  | m :: l, w, h => xJY l _ (xOd h m)
theorem xLz (l : List MsgL) (s : SpanL) : xAf (xAf l s).stay s = ⟨[], (xAf l s).stay, (xAf l s).blk⟩ := xJY l ⟨[], [], []⟩ rfl
structure InvF (s : SpanL) (t : List PairL) (pre : List MsgL) (w : WayL) : Prop where
  eff : allT (inT t [s]) w.go = inT (allT t pre) [s]
  st : ∀ q ∈ w.stay, xAx q s = []
  blk : ∀ k, inL w.blk k = true → hasL s k = false
theorem xQW {s : SpanL} {t : List PairL} (ht : Srt t) {pre : List MsgL} {w : WayL} (h : InvF s t pre w) {m : MsgL} (hm : MsgOk m) (hn : Near m s) : InvF s t (pre ++ [m]) (xAg s w m) := by
  have key : inT (allT t (pre ++ [m])) [s] = allT (inT (allT t pre) [s]) (xAx m s) := by
    rw [xMw (xBP _ ht) hm hn, xDI]
    rfl
  have hfree : ∀ l, (∀ k, inL l k = true → hasL s k = true) → xFP w.blk l = true := fun l hl => free_iff.2 fun k hk => by
    cases hb : inL w.blk k with
    | false => rfl
    | true => have := h.blk k hb; rw [hl k hk] at this; cases this
  have estay : xAx m s = [] → InvF s t (pre ++ [m]) ⟨w.go, w.stay ++ [m], w.blk⟩ := fun hp => by
    refine ⟨by rw [key, hp, ← h.eff]; rfl, ?_, h.blk⟩
    intro q hq
    rcases List.mem_append.1 hq with hq | hq
    · exact h.st q hq
    · obtain rfl : q = m := by simpa using hq
      exact hp
  unfold xAg
  split
  · rename_i hmv
    have hr : xAh m = false := by
      have := moves_iff.1 hmv
      simp only [xAh, Bool.or_eq_false_iff, beq_eq_false_iff_ne]
      omega
    split
    · rename_i hl
      rw [Bool.and_eq_true] at hl
      have hw : inL (xAG m) m.to = true := by
        have := moves_iff.1 hmv
        have hb : xAF m.to m.to = true := begins_iff.2 ⟨[], by simp⟩
        unfold xAG
        rw [if_neg (by omega)]
        split
        · simp [inL, xAX, hb]
        · rw [if_pos (by omega)]
          simp [inL, xAX, hb]
      have hp : xAx m s = [m] := by
        cases hp : xAx m s with
        | nil => exact absurd hp (xHd hw (xDP hl.1 (xED hw)))
        | cons p q =>
          obtain ⟨rfl, hc⟩ := xBd hp
          rcases hc with ⟨h1, _⟩ | ⟨_, rfl, _⟩
          · rw [hr] at h1; cases h1
          · rfl
      refine ⟨?_, h.st, h.blk⟩
      rw [key, hp, xDI, h.eff]
    · rename_i hl
      rcases hn hmv with h1 | h1
      · exact absurd (by rw [h1, hfree _ fun k hk => xDP h1 hk]; rfl) hl
      · have hp : xAx m s = [] := xMt fun k hk => h1 k (xED hk)
        have h2 := estay hp
        refine ⟨h2.eff, h2.st, ?_⟩
        intro k hk
        simp only [xAo, Bool.or_eq_true] at hk
        rcases hk with hk | hk
        · exact h.blk k hk
        · exact h1 k hk
  · rename_i hmv
    split
    · rename_i hp
      exact estay hp
    · rename_i p r hp
      obtain ⟨rfl, _⟩ := xBd hp
      split
      · rename_i hf
        refine ⟨?_, ?_, h.blk⟩
        · rw [key, hp, xDI, h.eff]
        · intro q hq
          rcases List.mem_append.1 hq with hq | hq
          · exact h.st q hq
          · exact (xLF hq).1
      · rename_i hf
        exact absurd (hfree _ fun k hk => xL5 hm hn hp (xED hk)) hf
theorem xLN {s : SpanL} {t : List PairL} (ht : Srt t) : ∀ (l pre : List MsgL) (w : WayL), InvF s t pre w → (∀ m ∈ l, MsgOk m ∧ Near m s) → InvF s t (pre ++ l) (l.foldl (xAg s) w)
  | [], pre, w, h, _ => by simpa using h
  | m :: l, pre, w, h, hl => by
    have hm := hl m (by simp)
    have := xLN ht l (pre ++ [m]) _ (xQW ht h hm.1 hm.2) fun x hx => hl x (by simp [hx])
    rw [List.append_assoc] at this
    exact this
theorem xN8 {t : List PairL} (ht : Srt t) {l : List MsgL} {s : SpanL} (hl : ∀ m ∈ l, MsgOk m ∧ Near m s) : allT (inT t [s]) (xAf l s).go = inT (allT t l) [s] ∧ ∀ q ∈ (xAf l s).stay, xAx q s = [] := by
  have := xLN ht l [] ⟨[], [], []⟩ ⟨rfl, by simp, by simp [inL]⟩ hl
  rw [List.nil_append] at this
  exact ⟨this.eff, this.st⟩
theorem xLW {α : Type} {p : α → Bool} : ∀ {l : List α} {i j : Nat} {x y : α}, l[i]? = some x → l[j]? = some y → i < j → p x = true → p y = true → 1 < l.countP p := by
  intro l i j x y hx hy hij h1 h2
  have hls : l = l.take j ++ l.drop j := (List.take_append_drop j l).symm
  have ha : 0 < (l.take j).countP p := List.countP_pos_iff.2 ⟨x, List.mem_of_getElem? (i := i) (by rw [List.getElem?_take, if_pos hij]; exact hx), h1⟩
  have hb : 0 < (l.drop j).countP p := List.countP_pos_iff.2 ⟨y, List.mem_of_getElem? (i := 0) (by rw [List.getElem?_drop, Nat.add_zero]; exact hy), h2⟩
  rw [hls, List.countP_append]
  omega
def tchB (m : MsgL) (s : SpanL) : Bool := xBx [s] (xAG m) || xBx [s] (xA2 m)
theorem xJd {m : MsgL} {s : SpanL} {k : Str} (h1 : inL (xAw m) k = true) (h2 : hasL s k = true) : tchB m s = true := by
  unfold xAw at h1
  rw [xAo, Bool.or_eq_true] at h1
  unfold tchB
  rw [Bool.or_eq_true]
  rcases h1 with h | h
  · exact .inr (touch_iff.2 ⟨k, by simp [inL, h2], h⟩)
  · exact .inl (touch_iff.2 ⟨k, by simp [inL, h2], h⟩)
theorem xQq {m : MsgL} {pv : List Str} (ha : Asc pv) (hc : xDr m pv = true) : 1 < (xAK pv).countP (tchB m) := by
  unfold xDr at hc
  rw [Bool.and_eq_true] at hc
  obtain ⟨s, hs⟩ := xL2 pv m.fr
  rw [hs, Option.getD_some] at hc
  obtain ⟨hm, hl⟩ := hc
  have hf := xM7 hm
  have hsf : hasL s m.fr = true := by rw [xGX ha hs]; simp
  have : ∃ k, inL (xAw m) k = true ∧ hasL s k = false := by
    by_cases h : ∃ k, inL (xAw m) k = true ∧ hasL s k = false
    · exact h
    · exfalso
      have : xCM m s = true := xQC fun k hk => by
        cases hb : hasL s k with
        | true => rfl
        | false => exact absurd ⟨k, hk, hb⟩ h
      rw [this] at hl; cases hl
  obtain ⟨k, hk, hsk⟩ := this
  obtain ⟨u, hu⟩ := xL2 pv k
  have huk : hasL u k = true := by rw [xGX ha hu]; simp
  have hne : atL m.fr pv ≠ atL k pv := fun e => by
    rw [e] at hs
    rw [hs] at hu; cases hu
    rw [huk] at hsk; cases hsk
  rcases Nat.lt_or_gt_of_ne hne with h | h
  · exact xLW hs hu h (xJd hf hsf) (xJd hk huk)
  · exact xLW hu hs h (xJd hk huk) (xJd hf hsf)
end Go.Pu
set_option linter.unusedVariables false
set_option linter.unusedSimpArgs false
namespace Go.Pu
theorem xPd : ∀ (l o : List Str) {z : Str}, z ∈ l.foldl xCK o → z ∈ o ∨ z ∈ l
  | [], o, z, h => .inl h
  | x :: l, o, z, h => by
    rw [List.foldl_cons] at h
    rcases xPd l _ h with h | h
    · rw [xI0] at h
      split at h
      · exact .inl h
      · rcases xJm h with rfl | h
        · exact .inr (by simp)
        · exact .inl h
    · exact .inr (by simp [h])
theorem xRw {l : List Str} {z : Str} (h : z ∈ pivL l) : z ∈ l := (xPd l [] h).resolve_left (by simp)
theorem xHc {n : Nat} (hn : 1 ≤ n) {s : SpanL} (hs : s.lo.length ≤ n ∧ s.hi.length ≤ n) : ∀ (l : List Str) (lo : Str), lo.length ≤ n → (∀ p ∈ l, p.length ≤ n) → SpLen n (xBT s lo l)
  | [], lo, h1, _ => by
    intro x hx
    obtain rfl : x = xAV s ⟨lo, []⟩ := by simpa [xBT] using hx
    exact xCy hn hs ⟨h1, by simp⟩
  | p :: l, lo, h1, h2 => by
    intro x hx
    rw [xBT] at hx
    have hp := h2 p (by simp)
    rcases List.mem_cons.1 hx with rfl | hx
    · exact xCy hn hs ⟨h1, hp⟩
    · exact xHc hn hs l p hp (fun y hy => h2 y (by simp [hy])) x hx
theorem xRt {n : Nat} (hn : 1 ≤ n) {pv : List Str} (h : ∀ p ∈ pv, p.length ≤ n) : SpLen n (xAK pv) := xHc hn ⟨by simp [allS], by simp [allS]⟩ pv [] (by simp) h
theorem step_P {P : MsgL → Prop} {s : SpanL} (h1 : ∀ m p q, P m → xAx m s = p :: q → P p) (h2 : ∀ m x, P m → x ∈ xCs m s → P x) {w : WayL} (hg : ∀ m ∈ w.go, P m) (hs : ∀ m ∈ w.stay, P m) {m : MsgL} (hm : P m) :
    (∀ m' ∈ (xAg s w m).go, P m') ∧ ∀ m' ∈ (xAg s w m).stay, P m' := by
  have app : ∀ {l : List MsgL} {x : MsgL}, (∀ y ∈ l, P y) → P x → ∀ y ∈ l ++ [x], P y := fun hl hx y hy => by
    rcases List.mem_append.1 hy with h | h
    · exact hl y h
    · obtain rfl : y = _ := by simpa using h
      exact hx
  unfold xAg
  split
  · split
    · exact ⟨app hg hm, hs⟩
    · exact ⟨hg, app hs hm⟩
  · split
    · exact ⟨hg, app hs hm⟩
    · rename_i p q hp
      split
      · refine ⟨app hg (h1 m p q hm hp), fun y hy => ?_⟩
        rcases List.mem_append.1 hy with h | h
        · exact hs y h
        · exact h2 m y hm h
      · exact ⟨hg, app hs hm⟩
theorem xPS {P : MsgL → Prop} {s : SpanL} (h1 : ∀ m p q, P m → xAx m s = p :: q → P p) (h2 : ∀ m x, P m → x ∈ xCs m s → P x) {l : List MsgL} (hl : ∀ m ∈ l, P m) :
    (∀ m ∈ (xAf l s).go, P m) ∧ ∀ m ∈ (xAf l s).stay, P m := by
  have key : ∀ (l : List MsgL) (w : WayL), (∀ m ∈ l, P m) → (∀ m ∈ w.go, P m) → (∀ m ∈ w.stay, P m) → (∀ m ∈ (l.foldl (xAg s) w).go, P m) ∧ ∀ m ∈ (l.foldl (xAg s) w).stay, P m := by
    intro l
    induction l with
    | nil => intro w _ hg hs; exact ⟨hg, hs⟩
    | cons m l ih =>
      intro w hl hg hs
      obtain ⟨a, b⟩ := step_P h1 h2 hg hs (hl m (by simp))
      exact ih _ (fun x hx => hl x (by simp [hx])) a b
  exact key l _ hl (by simp) (by simp)
theorem xHe {n : Nat} (hn : 1 ≤ n) {s : SpanL} (hs : s.lo.length ≤ n ∧ s.hi.length ≤ n) {m p : MsgL} {q : List MsgL} (hm : MsgLen n m) (h : xAx m s = p :: q) : MsgLen n p := by
  rcases (xBd h).2 with ⟨_, rfl⟩ | ⟨_, rfl, _⟩
  · have := xCy hn (a := m.sp) (b := s) ⟨hm.lo, hm.hi⟩ hs
    exact ⟨hm.key, this.1, this.2, hm.fr, hm.to⟩
  · exact hm
theorem xFX {n : Nat} {s : SpanL} (h : s.lo.length ≤ n ∧ s.hi.length ≤ n) : SpLen n [s] := fun z hz => by
  rw [List.mem_singleton] at hz
  subst hz
  exact h
theorem xLG {n : Nat} (hn : 1 ≤ n) {s : SpanL} (hs : s.lo.length ≤ n ∧ s.hi.length ≤ n) {m x : MsgL} (hm : MsgLen n m) (h : x ∈ xCs m s) : MsgLen n x := by
  obtain ⟨_, y, hy, rfl⟩ := xFj h
  have := xC9 hn (l := [m.sp]) (g := [s]) (xFX ⟨hm.lo, hm.hi⟩) (xFX hs) y hy
  exact ⟨hm.key, this.1, this.2, hm.fr, hm.to⟩
theorem xEs {n : Nat} (hn : 1 ≤ n) {s : SpanL} (hs : s.lo.length ≤ n ∧ s.hi.length ≤ n) {l : List MsgL} (hl : ∀ m ∈ l, MsgLen n m) : (∀ m ∈ (xAf l s).go, MsgLen n m) ∧ ∀ m ∈ (xAf l s).stay, MsgLen n m :=
  xPS (fun _ _ _ h1 h2 => xHe hn hs h1 h2) (fun _ _ h1 h2 => xLG hn hs h1 h2) hl
def noSp : SpanL := ⟨[], []⟩
def spOk (s : SpanL) : Prop := xAJ s = false ∧ s.lo.length ≤ 65535 ∧ s.hi.length ≤ 65535
structure MsgV (m : MsgL) : Prop where
  put : m.kind = 1 → 1 ≤ m.key.length ∧ m.key.length ≤ 65535 ∧ m.val.length ≤ 64 ∧ 0 ≤ m.n ∧ m.n ≤ 1000000000 ∧ m = ⟨1, m.key, m.val, noSp, [], [], m.n⟩
  del : m.kind = 2 → 1 ≤ m.key.length ∧ m.key.length ≤ 65535 ∧ m = ⟨2, m.key, [], noSp, [], [], 0⟩
  drop : m.kind = 3 → spOk m.sp ∧ m = ⟨3, [], [], m.sp, [], [], 0⟩
  mv : m.kind = 4 ∨ m.kind = 5 → 1 ≤ m.fr.length ∧ m.fr.length ≤ 200 ∧ 1 ≤ m.to.length ∧ m.to.length ≤ 200 ∧ xAF m.fr m.to = false ∧ xAF m.to m.fr = false ∧ m = ⟨m.kind, [], [], noSp, m.fr, m.to, 0⟩
  stamp : m.kind = 6 → spOk m.sp ∧ 0 ≤ m.n ∧ m.n ≤ 1000000000 ∧ m = ⟨6, [], [], m.sp, [], [], m.n⟩
theorem xTg (n : Nat) : (valM n).length ≤ 10 := by
  have h : n % 5 < 5 := Nat.mod_lt _ (by decide)
  unfold valM
  generalize n % 5 = m at h
  have : ∀ m, m < 5 → ((vals5[m]?).getD []).length ≤ 10 := by decide
  exact this m h
theorem key_ne (n : Nat) : 1 ≤ (keyM n).length := by
  have := (xB3 (xB2 (n % 4))).2
  unfold keyM
  rw [List.length_append]
  have : (xA5 (n % 4)).length ≠ 0 := by simpa using this
  omega
theorem made_v (x : RawM) : MsgV (xAl x) := by
  have hl := xFh x
  have hs := xFg x
  have ho := xHw x
  have hkl := xGD x.b
  have hkn := key_ne x.b
  have hvl := xTg x.c
  have hf := xB3 (xB2 x.b)
  have ht := xB3 (xOt x)
  have hfl : 1 ≤ (xA5 x.b).length := Nat.pos_of_ne_zero (by simpa using hf.2)
  have htl : 1 ≤ (toM x).length := Nat.pos_of_ne_zero (by simpa using ht.2)
  have hap := xMa x
  have hsp : spOk (spM x) := ⟨xMf x, by
    have := xFh { x with a := 2 }
    have h2 := this.lo
    simp only [xAl] at h2
    exact Nat.le_trans h2 (by decide), by
    have := xFh { x with a := 2 }
    have h2 := this.hi
    simp only [xAl] at h2
    exact Nat.le_trans h2 (by decide)⟩
  clear hl hs ho
  have h6 : x.a % 6 < 6 := Nat.mod_lt _ (by decide)
  have hn : ((x.f % 8 : Nat) : Int) ≤ 1000000000 := by omega
  unfold xAl
  split
  · exact ⟨fun _ => ⟨hkn, by simp only; omega, by simp only; omega, by simp only; omega, by simp only; omega, rfl⟩, (by simp), (by simp), (by simp), (by simp)⟩
  · split
    · exact ⟨(by simp), fun _ => ⟨hkn, by simp only; omega, rfl⟩, (by simp), (by simp), (by simp)⟩
    · split
      · exact ⟨(by simp), (by simp), fun _ => ⟨hsp, rfl⟩, (by simp), (by simp)⟩
      · split
        · exact ⟨(by simp), (by simp), (by simp), fun _ => ⟨hfl, by simp only; omega, htl, by simp only; omega, hap.1, hap.2, rfl⟩, (by simp)⟩
        · split
          · exact ⟨(by simp), (by simp), (by simp), fun _ => ⟨hfl, by simp only; omega, htl, by simp only; omega, hap.1, hap.2, rfl⟩, (by simp)⟩
          · exact ⟨(by simp), (by simp), (by simp), (by simp), fun _ => ⟨hsp, by simp only; omega, by simp only; omega, rfl⟩⟩
theorem xPW {m : MsgL} (hm : MsgV m) (hr : xAh m = true) {y : SpanL} (hy : spOk y) : MsgV { m with sp := y } := by
  have hk := ranges_iff.1 hr
  refine ⟨fun h => ?_, fun h => ?_, fun h => ?_, fun h => ?_, fun h => ?_⟩
  · have h : m.kind = 1 := h
    omega
  · have h : m.kind = 2 := h
    omega
  · obtain ⟨_, h2⟩ := hm.drop h
    refine ⟨hy, ?_⟩
    have h3 : m.kind = 3 := h
    obtain ⟨k, a, b, c, d, e, f⟩ := m
    simp only [MsgL.mk.injEq] at h2 ⊢
    exact ⟨h2.1, h2.2.1, h2.2.2.1, trivial, h2.2.2.2.2⟩
  · have h : m.kind = 4 ∨ m.kind = 5 := h
    omega
  · obtain ⟨_, h1, h3, h2⟩ := hm.stamp h
    refine ⟨hy, h1, h3, ?_⟩
    obtain ⟨k, a, b, c, d, e, f⟩ := m
    simp only [MsgL.mk.injEq] at h2 ⊢
    exact ⟨h2.1, h2.2.1, h2.2.2.1, trivial, h2.2.2.2.2⟩
theorem part_v {n : Nat} {s : SpanL} (hs : s.lo.length ≤ 65535 ∧ s.hi.length ≤ 65535) {m p : MsgL} {q : List MsgL} (hl : m.sp.lo.length ≤ 65535 ∧ m.sp.hi.length ≤ 65535) (hm : MsgV m) (h : xAx m s = p :: q) : MsgV p := by
  have h0 := h
  rcases (xBd h).2 with ⟨hr, rfl⟩ | ⟨_, rfl, _⟩
  · refine xPW hm hr ⟨?_, xCy (by decide) hl hs⟩
    unfold xAx at h0
    rw [if_pos hr] at h0
    split at h0
    · cases h0
    · rename_i he
      simpa using he
  · exact hm
theorem left_v {s : SpanL} (hs : s.lo.length ≤ 65535 ∧ s.hi.length ≤ 65535) {m x : MsgL} (hl : m.sp.lo.length ≤ 65535 ∧ m.sp.hi.length ≤ 65535) (hm : MsgV m) (h : x ∈ xCs m s) : MsgV x := by
  obtain ⟨hr, y, hy, rfl⟩ := xFj h
  have := xC9 (n := 65535) (by decide) (l := [m.sp]) (g := [s]) (xFX hl) (xFX hs) y hy
  exact xPW hm hr ⟨(xDA [m.sp] [s]).1 y hy, this⟩
end Go.Pu
