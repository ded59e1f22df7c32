/- The order of texts, and sorted tables: plain Lean. -/
import GoSem.Op.String
import Derived.Sort.AssemblyPlain
set_option linter.unusedVariables false
namespace Go.Pu
abbrev Str := List UInt8
theorem xCE (a : Str) : Op.bytesLess a [] = false := by cases a <;> rfl
theorem xAs : ∀ a : Str, Op.bytesLess a a = false
  | [] => rfl
  | x :: a => by
    simp only [Op.bytesLess, Op.bytesLess, Bool.or_eq_false_iff, decide_eq_false_iff_not, Bool.and_eq_false_iff]
    exact ⟨UInt8.lt_irrefl x, .inr (xAs a)⟩
theorem blt_cons {x y : UInt8} {a b : Str} : Op.bytesLess (x :: a) (y :: b) = true ↔ x < y ∨ (x = y ∧ Op.bytesLess a b = true) := by
  simp [Op.bytesLess, Op.bytesLess]
theorem xAm : ∀ {a b c : Str}, Op.bytesLess a b = true → Op.bytesLess b c = true → Op.bytesLess a c = true
  | _, _, [], _, h => by rw [xCE] at h; cases h
  | _, [], _ :: _, h, _ => by rw [xCE] at h; cases h
  | [], _ :: _, _ :: _, _, _ => rfl
  | x :: a, y :: b, z :: c, h1, h2 => by
    rw [blt_cons] at h1 h2 ⊢
    rcases h1 with h1 | ⟨rfl, h1⟩
    · rcases h2 with h2 | ⟨rfl, h2⟩
      · exact .inl (UInt8.lt_trans h1 h2)
      · exact .inl h1
    · rcases h2 with h2 | ⟨rfl, h2⟩
      · exact .inl h2
      · exact .inr ⟨rfl, xAm h1 h2⟩
theorem xBn : ∀ (a b : Str), Op.bytesLess a b = true ∨ a = b ∨ Op.bytesLess b a = true
  | [], [] => .inr (.inl rfl)
  | [], _ :: _ => .inl rfl
  | _ :: _, [] => .inr (.inr rfl)
  | x :: a, y :: b => by
    rw [blt_cons, blt_cons]
    by_cases h : x < y
    · exact .inl (.inl h)
    · by_cases h' : y < x
      · exact .inr (.inr (.inl h'))
      · have e : x = y := UInt8.le_antisymm (UInt8.not_lt.1 h') (UInt8.not_lt.1 h)
        subst e
        rcases xBn a b with h1 | h1 | h1
        · exact .inl (.inr ⟨rfl, h1⟩)
        · exact .inr (.inl (by rw [h1]))
        · exact .inr (.inr (.inr ⟨rfl, h1⟩))
theorem xBh {a b : Str} (h : Op.bytesLess a b = true) : Op.bytesLess b a = false := by
  cases h' : Op.bytesLess b a with
  | false => rfl
  | true => have := xAm h h'; rw [xAs] at this; cases this
theorem xC6 {a b : Str} (h : Op.bytesLess a b = true) : a ≠ b := by
  intro e; subst e; rw [xAs] at h; cases h
theorem xNO {a b : Str} (h : Op.bytesLess a b = false) (hne : a ≠ b) : Op.bytesLess b a = true := by
  rcases xBn a b with h1 | h1 | h1
  · rw [h] at h1; cases h1
  · exact absurd h1 hne
  · exact h1
def ble (a b : Str) : Bool := !Op.bytesLess b a
theorem ble_iff {a b : Str} : ble a b = true ↔ Op.bytesLess a b = true ∨ a = b := by
  unfold ble
  constructor
  · intro h
    have h : Op.bytesLess b a = false := by simpa using h
    rcases xBn a b with h1 | h1 | h1
    · exact .inl h1
    · exact .inr h1
    · rw [h] at h1; cases h1
  · rintro (h | rfl)
    · simp [xBh h]
    · simp [xAs]
theorem xCH (a : Str) : ble a a = true := ble_iff.2 (.inr rfl)
theorem xBA {a b c : Str} (h1 : ble a b = true) (h2 : ble b c = true) : ble a c = true := by
  rw [ble_iff] at *
  rcases h1 with h1 | rfl
  · rcases h2 with h2 | rfl
    · exact .inl (xAm h1 h2)
    · exact .inl h1
  · exact h2
theorem xFu {a b c : Str} (h1 : ble a b = true) (h2 : Op.bytesLess b c = true) : Op.bytesLess a c = true := by
  rw [ble_iff] at h1
  rcases h1 with h1 | rfl
  · exact xAm h1 h2
  · exact h2
theorem xAc {a b c : Str} (h1 : Op.bytesLess a b = true) (h2 : ble b c = true) : Op.bytesLess a c = true := by
  rw [ble_iff] at h2
  rcases h2 with h2 | rfl
  · exact xAm h1 h2
  · exact h1
theorem xRq {a : Str} : Op.bytesLess [] a = true ↔ a ≠ [] := by cases a <;> simp [Op.bytesLess, Op.bytesLess]
theorem xEI (a : Str) : ble [] a = true := by simp [ble, xCE]
structure PairL where
  key : Str
  val : Str
  stamp : Int
  deriving DecidableEq
def Srt (t : List PairL) : Prop := t.Pairwise fun a b => Op.bytesLess a.key b.key = true
def xDz : List PairL → Bool
  | a :: b :: r => Op.bytesLess a.key b.key && xDz (b :: r)
  | _ => true
theorem xKx : ∀ {t : List PairL}, xDz t = true ↔ Srt t
  | [] => by simp [xDz, Srt]
  | [a] => by simp [xDz, Srt]
  | a :: b :: r => by
    rw [xDz, Bool.and_eq_true, xKx (t := b :: r)]
    unfold Srt
    rw [List.pairwise_cons (a := a)]
    constructor
    · rintro ⟨h1, h2⟩
      refine ⟨fun c hc => ?_, h2⟩
      rcases List.mem_cons.1 hc with rfl | hc
      · exact h1
      · exact xAm h1 ((List.pairwise_cons.1 h2).1 c hc)
    · rintro ⟨h1, h2⟩
      exact ⟨h1 b (by simp), h2⟩
def xBI (p : PairL) (s : List PairL × Bool) (x : PairL) : List PairL × Bool :=
  let s1 := if (!s.2 && !(Op.bytesLess x.key p.key)) = true then (s.1 ++ [p], true) else s
  (if (!(x.key == p.key)) = true then s1.1 ++ [x] else s1.1, s1.2)
def putL (t : List PairL) (p : PairL) : List PairL :=
  let s := t.foldl (xBI p) ([], false)
  if s.2 = true then s.1 else s.1 ++ [p]
def insL (p : PairL) : List PairL → List PairL
  | [] => [p]
  | x :: r => if Op.bytesLess x.key p.key = true then x :: insL p r else p :: (x :: r).filter fun y => !(y.key == p.key)
theorem putT (p : PairL) : ∀ (l o : List PairL), l.foldl (xBI p) (o, true) = (o ++ l.filter (fun y => !(y.key == p.key)), true)
  | [], o => by simp
  | x :: l, o => by
    rw [List.foldl_cons]
    have : xBI p (o, true) x = (o ++ [x].filter (fun y => !(y.key == p.key)), true) := by
      simp only [xBI, Bool.not_true, Bool.false_and, Bool.false_eq_true, if_false, List.filter_cons, List.filter_nil]
      split <;> simp
    rw [this, putT p l, List.append_assoc, ← List.filter_append]
    rfl
theorem putF (p : PairL) : ∀ (l o : List PairL), (if (l.foldl (xBI p) (o, false)).2 = true then (l.foldl (xBI p) (o, false)).1 else (l.foldl (xBI p) (o, false)).1 ++ [p]) = o ++ insL p l
  | [], o => by simp [insL]
  | x :: l, o => by
    rw [List.foldl_cons, insL]
    by_cases h : Op.bytesLess x.key p.key = true
    · have hne : (x.key == p.key) = false := by simpa using xC6 h
      have : xBI p (o, false) x = (o ++ [x], false) := by
        simp [xBI, h, xC6 h]
      rw [this, putF p l, if_pos h, List.append_assoc]
      rfl
    · have h' : Op.bytesLess x.key p.key = false := by simpa using h
      have : xBI p (o, false) x = (o ++ [p] ++ [x].filter (fun y => !(y.key == p.key)), true) := by
        simp only [xBI, Bool.not_false, h', Bool.and_self, if_true, List.filter_cons, List.filter_nil]
        split <;> simp
      rw [this, putT, if_neg h]
      simp only [if_true]
      rw [List.append_assoc, List.append_assoc, ← List.filter_append]
      rfl
theorem xFZ (t : List PairL) (p : PairL) : putL t p = insL p t := by
  have := putF p t []
  simpa [putL] using this
theorem xJG {p y : PairL} : ∀ {t : List PairL}, y ∈ insL p t → y = p ∨ y ∈ t
  | [], h => by simp [insL] at h; exact .inl h
  | x :: r, h => by
    rw [insL] at h
    split at h
    · rcases List.mem_cons.1 h with rfl | h
      · exact .inr (by simp)
      · rcases xJG h with h | h
        · exact .inl h
        · exact .inr (List.mem_cons_of_mem _ h)
    · rcases List.mem_cons.1 h with rfl | h
      · exact .inl rfl
      · exact .inr (List.mem_filter.1 h).1
theorem xMI {p : PairL} : ∀ {t : List PairL}, Srt t → Srt (insL p t)
  | [], _ => by simp [insL, Srt]
  | x :: r, h => by
    obtain ⟨h1, h2⟩ := List.pairwise_cons.1 h
    rw [insL]
    split
    · rename_i hx
      refine List.pairwise_cons.2 ⟨fun y hy => ?_, xMI h2⟩
      rcases xJG hy with rfl | hy
      · exact hx
      · exact h1 y hy
    · rename_i hx
      have hx : Op.bytesLess x.key p.key = false := by simpa using hx
      refine List.pairwise_cons.2 ⟨fun y hy => ?_, h.filter _⟩
      obtain ⟨hy1, hy2⟩ := List.mem_filter.1 hy
      have hne : y.key ≠ p.key := by simpa using hy2
      rcases List.mem_cons.1 hy1 with rfl | hy1
      · exact xNO hx hne
      · have := h1 y hy1
        rcases xBn p.key y.key with h3 | h3 | h3
        · exact h3
        · exact absurd h3.symm hne
        · have := xAm this h3
          rw [hx] at this; cases this
theorem xMJ {p : PairL} : ∀ t : List PairL, (insL p t).length ≤ t.length + 1
  | [] => by simp [insL]
  | x :: r => by
    rw [insL]
    split
    · have := xMJ (p := p) r; simp; omega
    · simp only [List.length_cons]
      have := List.length_filter_le (fun y : PairL => !(y.key == p.key)) (x :: r)
      simp at this ⊢
      omega
theorem xLm (t : List PairL) (p : PairL) : (putL t p).length ≤ t.length + 1 := by rw [xFZ]; exact xMJ t
theorem xA4 {t : List PairL} {p : PairL} (h : Srt t) : Srt (putL t p) := by rw [xFZ]; exact xMI h
theorem xAn {α : Type} {l : List α} {i : Nat} {x : α} (h : l[i]? = some x) : l.drop i = x :: l.drop (i + 1) := by
  have hl := (List.getElem?_eq_some_iff.1 h).1
  rw [List.drop_eq_getElem_cons hl]
  congr 1
  exact (List.getElem?_eq_some_iff.1 h).2
theorem xRK {xs : List PairL} {i : Nat} {a b : PairL} (ha : xs[i]? = some a) (hb : xs[i + 1]? = some b) : xDz (xs.drop i) = (Op.bytesLess a.key b.key && xDz (xs.drop (i + 1))) := by
  rw [xAn ha, xAn hb, xDz]
end Go.Pu
set_option linter.unusedVariables false
namespace Go.Pu
structure SpanL where
  lo : Str
  hi : Str
  deriving DecidableEq
def hasL (s : SpanL) (k : Str) : Bool := !(Op.bytesLess k s.lo) && (s.hi == [] || Op.bytesLess k s.hi)
def xAJ (s : SpanL) : Bool := !(s.hi == []) && (Op.bytesLess s.hi s.lo || s.hi == s.lo)
def xB5 (a b : Str) : Int := if Op.bytesLess a b = true then -1 else if a = b then 0 else 1
def xEl (e f : Str) : Int := if e = f then 0 else if e = [] then 1 else if f = [] then -1 else xB5 e f
def xBz (a b : Str) : Str := if xEl b a < 0 then b else a
def maxL (a b : Str) : Str := if Op.bytesLess a b = true then b else a
def xH3 : SpanL := ⟨[97], [97]⟩
def xAu (a b : SpanL) : SpanL := if xAJ ⟨maxL a.lo b.lo, xBz a.hi b.hi⟩ = true then xH3 else ⟨maxL a.lo b.lo, xBz a.hi b.hi⟩
def xPI (a b : SpanL) : Bool := xAJ b || (hasL a b.lo && decide (xEl a.hi b.hi ≥ 0))
def xDC (a b : Str) : Bool := !(a == []) && (b == [] || Op.bytesLess a b)
def xLi (a b : SpanL) : SpanL :=
  let s : SpanL := ⟨maxL a.lo b.lo, if xDC b.hi a.hi = true then b.hi else a.hi⟩
  if xAJ s = true then xH3 else s
def xLj (a b : SpanL) : Bool := xAJ b || (!xAJ a && (Op.bytesLess a.lo b.lo || a.lo == b.lo) && !xDC a.hi b.hi)
def xAD (k p : Str) : Bool := decide (k.length ≥ p.length) && (k.take p.length == p)
def xFC (k f t : Str) : Str × Bool := if xAD k f = true then (t ++ k.drop f.length, true) else ([], false)
def oneL (k : Str) : SpanL := ⟨k, k ++ [0]⟩
def xBb (p : Str) : Nat → Nat
  | 0 => 0
  | n + 1 => if p[n]? = some 255 then xBb p n else n + 1
def upL (p : Str) : Str :=
  match xBb p p.length with
  | 0 => []
  | n + 1 => p.take n ++ [p.getD n 0 + 1]
def xAL (p : Str) : SpanL := ⟨p, upL p⟩
theorem xJk (p : Str) : ∀ n, xBb p n ≤ n
  | 0 => Nat.le_refl _
  | n + 1 => by
    rw [xBb]
    split
    · exact Nat.le_succ_of_le (xJk p n)
    · exact Nat.le_refl _
theorem has_iff {s : SpanL} {k : Str} : hasL s k = true ↔ ble s.lo k = true ∧ (s.hi = [] ∨ Op.bytesLess k s.hi = true) := by
  simp [hasL, ble]
theorem empty_iff {s : SpanL} : xAJ s = true ↔ s.hi ≠ [] ∧ ble s.hi s.lo = true := by
  simp only [xAJ, Bool.and_eq_true, Bool.not_eq_true', Bool.or_eq_true, beq_iff_eq, beq_eq_false_iff_ne, ble_iff]
theorem xAa {s : SpanL} (h : xAJ s = true) (k : Str) : hasL s k = false := by
  cases hk : hasL s k with
  | false => rfl
  | true =>
    obtain ⟨h1, h2⟩ := empty_iff.1 h
    obtain ⟨h3, h4⟩ := has_iff.1 hk
    rcases h4 with h4 | h4
    · exact absurd h4 h1
    · have := xAc h4 (xBA h2 h3)
      rw [xAs] at this; cases this
theorem xDn {s : SpanL} (h : xAJ s = false) : hasL s s.lo = true := by
  refine has_iff.2 ⟨xCH _, ?_⟩
  by_cases he : s.hi = []
  · exact .inl he
  · right
    cases hb : Op.bytesLess s.lo s.hi with
    | true => rfl
    | false =>
      have : xAJ s = true := empty_iff.2 ⟨he, by simp [ble, hb]⟩
      rw [h] at this; cases this
def elt (a b : Str) : Prop := a ≠ [] ∧ (b = [] ∨ Op.bytesLess a b = true)
theorem less_iff {a b : Str} : xDC a b = true ↔ elt a b := by simp [xDC, elt]
theorem cmpStr_lt {a b : Str} : xB5 a b < 0 ↔ Op.bytesLess a b = true := by
  unfold xB5
  split
  · rename_i h; simp [h]
  · rename_i h
    split <;> simp [h]
theorem cmpStr_eq {a b : Str} : xB5 a b = 0 ↔ a = b := by
  unfold xB5
  split
  · rename_i h
    constructor
    · intro h'; simp at h'
    · intro e; subst e; rw [xAs] at h; cases h
  · split
    · rename_i h; simp [h]
    · rename_i h; simp [h]
theorem cmpEnd_lt {a b : Str} : xEl a b < 0 ↔ elt a b := by
  unfold xEl elt
  split
  · rename_i h
    subst h
    simp
    intro h; exact ⟨h, xAs a⟩
  · rename_i h
    split
    · rename_i h1; simp [h1]
    · rename_i h1
      split
      · rename_i h2; simp [h1, h2]
      · rename_i h2; simp [h1, h2, cmpStr_lt]
theorem cmpEnd_eq {a b : Str} : xEl a b = 0 ↔ a = b := by
  unfold xEl
  split
  · rename_i h; simp [h]
  · rename_i h
    split
    · simp [h]
    · split
      · simp [h]
      · rw [cmpStr_eq]
theorem xFI (a b : Str) : xBz a b = if xDC b a = true then b else a := by
  unfold xBz
  by_cases h : elt b a
  · rw [if_pos (cmpEnd_lt.2 h), if_pos (less_iff.2 h)]
  · rw [if_neg (fun h' => h (cmpEnd_lt.1 h')), if_neg (fun h' => h (less_iff.1 h'))]
theorem xQY (a b : SpanL) : xAu a b = xLi a b := by
  unfold xAu xLi
  rw [xFI]
theorem xO6 (a b : Str) : elt a b ∨ a = b ∨ elt b a := by
  unfold elt
  by_cases ha : a = []
  · by_cases hb : b = []
    · exact .inr (.inl (ha.trans hb.symm))
    · exact .inr (.inr ⟨hb, .inl ha⟩)
  · by_cases hb : b = []
    · exact .inl ⟨ha, .inl hb⟩
    · rcases xBn a b with h | h | h
      · exact .inl ⟨ha, .inr h⟩
      · exact .inr (.inl h)
      · exact .inr (.inr ⟨hb, .inr h⟩)
theorem xHf {a b : Str} (h : elt a b) : ¬ elt b a := by
  rintro ⟨h1, h2⟩
  obtain ⟨h3, h4⟩ := h
  rcases h4 with h4 | h4
  · exact h1 h4
  · rcases h2 with h2 | h2
    · exact h3 h2
    · rw [xBh h4] at h2; cases h2
theorem xRW {a : Str} : ¬ elt a a := fun h => xHf h h
theorem covers_ref (a b : SpanL) : xPI a b = xLj a b := by
  unfold xPI xLj
  cases hb : xAJ b with
  | true => rfl
  | false =>
    simp only [Bool.false_or]
    have key : decide (xEl a.hi b.hi ≥ 0) = !xDC a.hi b.hi := by
      rw [Bool.eq_iff_iff]
      simp only [decide_eq_true_eq, Bool.not_eq_true']
      constructor
      · intro h
        cases hl : xDC a.hi b.hi with
        | false => rfl
        | true => have := cmpEnd_lt.2 (less_iff.1 hl); omega
      · intro h
        have : ¬ xEl a.hi b.hi < 0 := fun h' => by rw [less_iff.2 (cmpEnd_lt.1 h')] at h; cases h
        omega
    rw [key]
    cases hl : xDC a.hi b.hi with
    | true => simp
    | false =>
      simp only [Bool.not_false, Bool.and_true]
      rw [Bool.eq_iff_iff, has_iff, Bool.and_eq_true, Bool.not_eq_true', Bool.or_eq_true, beq_iff_eq, ← ble_iff]
      constructor
      · rintro ⟨h1, h2⟩
        refine ⟨?_, h1⟩
        cases he : xAJ a with
        | false => rfl
        | true =>
          have := xAa he b.lo
          rw [has_iff.2 ⟨h1, h2⟩] at this; cases this
      · rintro ⟨h1, h2⟩
        refine ⟨h2, ?_⟩
        by_cases ha : a.hi = []
        · exact .inl ha
        · right
          have hbl := (has_iff.1 (xDn hb)).2
          have hn : ¬ elt a.hi b.hi := fun h => by rw [less_iff.2 h] at hl; cases hl
          rcases hbl with hbl | hbl
          · exact absurd ⟨ha, .inl hbl⟩ hn
          · rcases xBn a.hi b.hi with h | h | h
            · exact absurd ⟨ha, .inr h⟩ hn
            · rw [h]; exact hbl
            · exact xAm hbl h
theorem xG7 {a b k : Str} : ble (maxL a b) k = true ↔ ble a k = true ∧ ble b k = true := by
  unfold maxL
  split
  · rename_i h
    exact ⟨fun h' => ⟨xBA (ble_iff.2 (.inl h)) h', h'⟩, fun h' => h'.2⟩
  · rename_i h
    have h : ble b a = true := by simp [ble, h]
    exact ⟨fun h' => ⟨h', xBA h h'⟩, fun h' => h'.1⟩
theorem xOn {a b k : Str} : (xBz a b = [] ∨ Op.bytesLess k (xBz a b) = true) ↔ (a = [] ∨ Op.bytesLess k a = true) ∧ (b = [] ∨ Op.bytesLess k b = true) := by
  rw [xFI]
  split
  · rename_i h
    obtain ⟨h1, h2⟩ := less_iff.1 h
    constructor
    · rintro (h3 | h3)
      · exact absurd h3 h1
      · refine ⟨?_, .inr h3⟩
        rcases h2 with h2 | h2
        · exact .inl h2
        · exact .inr (xAm h3 h2)
    · exact fun h => h.2
  · rename_i h
    have h : ¬ elt b a := fun h' => h (less_iff.2 h')
    constructor
    · intro h3
      refine ⟨h3, ?_⟩
      by_cases hb : b = []
      · exact .inl hb
      · right
        rcases h3 with h3 | h3
        · exact absurd ⟨hb, .inl h3⟩ h
        · rcases xBn b a with h4 | h4 | h4
          · exact absurd ⟨hb, .inr h4⟩ h
          · rw [h4]; exact h3
          · exact xAm h3 h4
    · exact fun h => h.1
theorem xCd (a b : SpanL) (k : Str) : hasL (xAu a b) k = (hasL a k && hasL b k) := by
  have key : hasL ⟨maxL a.lo b.lo, xBz a.hi b.hi⟩ k = (hasL a k && hasL b k) := by
    rw [Bool.eq_iff_iff, Bool.and_eq_true, has_iff, has_iff, has_iff]
    simp only
    rw [xG7, xOn]
    constructor
    · rintro ⟨⟨h1, h2⟩, h3, h4⟩; exact ⟨⟨h1, h3⟩, h2, h4⟩
    · rintro ⟨⟨h1, h2⟩, h3, h4⟩; exact ⟨⟨h1, h3⟩, h2, h4⟩
  unfold xAu
  split
  · rename_i h
    rw [← key, xAa h]
    exact xAa (s := xH3) (by decide) k
  · exact key
theorem xQZ (a b : Str) : maxL a b = maxL b a := by
  unfold maxL
  rcases xBn a b with h | h | h
  · rw [if_pos h, if_neg (by simp [xBh h])]
  · subst h; rfl
  · rw [if_neg (by simp [xBh h]), if_pos h]
theorem xM9 (a b : Str) : xBz a b = xBz b a := by
  rw [xFI, xFI]
  rcases xO6 a b with h | h | h
  · rw [if_neg (fun h' => xHf h (less_iff.1 h')), if_pos (less_iff.2 h)]
  · subst h; rfl
  · rw [if_pos (less_iff.2 h), if_neg (fun h' => xHf h (less_iff.1 h'))]
theorem meet_comm (a b : SpanL) : xAu a b = xAu b a := by
  unfold xAu
  rw [xQZ a.lo, xM9 a.hi]
theorem meet_empty {a b : SpanL} (h : xAJ (xAu a b) = true) : xAu a b = xH3 := by
  unfold xAu at h ⊢
  split
  · rfl
  · rename_i h1
    rw [if_neg h1] at h
    exact absurd h h1
theorem xFa (k x : Str) : hasL (oneL k) x = (x == k) := by
  rw [Bool.eq_iff_iff, has_iff, beq_iff_eq]
  simp only [oneL]
  constructor
  · rintro ⟨h1, h2 | h2⟩
    · simp at h2
    · -- k ≤ x < k ++ [0]
      have key : ∀ k x : Str, ble k x = true → Op.bytesLess x (k ++ [0]) = true → x = k := by
        intro k
        induction k with
        | nil =>
          intro x h1 h2
          cases x with
          | nil => rfl
          | cons a x =>
            rw [List.nil_append, blt_cons] at h2
            rcases h2 with h2 | ⟨_, h2⟩
            · exact absurd h2 (UInt8.not_lt.2 (UInt8.le_iff_toNat_le.2 (by simp)))
            · rw [xCE] at h2; cases h2
        | cons b k ih =>
          intro x h1 h2
          cases x with
          | nil =>
            rw [ble_iff] at h1
            rcases h1 with h1 | h1
            · rw [xCE] at h1; cases h1
            · cases h1
          | cons a x =>
            rw [List.cons_append, blt_cons] at h2
            have h1' : ¬ (a < b ∨ a = b ∧ Op.bytesLess x k = true) := by
              intro h
              have h3 := blt_cons.2 h
              have h4 : Op.bytesLess (a :: x) (b :: k) = false := by simpa [ble] using h1
              rw [h4] at h3; cases h3
            rcases h2 with h2 | ⟨rfl, h2⟩
            · exact absurd (.inl h2) h1'
            · have : ble k x = true := by
                simp only [ble, Bool.not_eq_true']
                cases hx : Op.bytesLess x k with
                | false => rfl
                | true => exact absurd (.inr ⟨rfl, hx⟩) h1'
              rw [ih x this h2]
      exact key k x h1 h2
  · rintro rfl
    refine ⟨xCH _, .inr ?_⟩
    induction x with
    | nil => rfl
    | cons a x ih => exact blt_cons.2 (.inr ⟨rfl, ih⟩)
end Go.Pu
set_option linter.unusedVariables false
namespace Go.Pu
theorem begins_iff {k p : Str} : xAD k p = true ↔ ∃ r, k = p ++ r := by
  simp only [xAD, Bool.and_eq_true, decide_eq_true_eq, beq_iff_eq]
  constructor
  · rintro ⟨h1, h2⟩
    refine ⟨k.drop p.length, ?_⟩
    have := List.take_append_drop p.length k
    rw [h2] at this
    exact this.symm
  · rintro ⟨r, rfl⟩
    simp
theorem xEH {p a b : Str} : Op.bytesLess (p ++ a) (p ++ b) = Op.bytesLess a b := by
  induction p with
  | nil => rfl
  | cons x p ih =>
    rw [Bool.eq_iff_iff, List.cons_append, List.cons_append, blt_cons, ih]
    simp [UInt8.lt_irrefl]
theorem xDE {p a b : Str} : ble (p ++ a) (p ++ b) = ble a b := by simp [ble, xEH]
theorem xC7 (p r : Str) : ble p (p ++ r) = true := by
  have := xDE (p := p) (a := []) (b := r)
  rw [List.append_nil] at this
  rw [this]; exact xEI r
theorem xGk (p : Str) : ∀ n, n ≤ p.length → (∀ i, xBb p n ≤ i → i < n → p[i]? = some 255) ∧ (∀ m, xBb p n = m + 1 → p[m]? ≠ some 255)
  | 0, _ => ⟨fun i _ h => by omega, fun m h => by cases h⟩
  | n + 1, hn => by
    obtain ⟨h1, h2⟩ := xGk p n (by omega)
    by_cases h : p[n]? = some 255
    · have e : xBb p (n + 1) = xBb p n := by rw [xBb, if_pos h]
      rw [e]
      refine ⟨fun i hi hl => ?_, h2⟩
      by_cases he : i = n
      · subst he; exact h
      · exact h1 i hi (by omega)
    · have e : xBb p (n + 1) = n + 1 := by rw [xBb, if_neg h]
      rw [e]
      refine ⟨fun i hi hl => by omega, fun m hm => ?_⟩
      have : m = n := by omega
      subst this; exact h
theorem lt_up {c : UInt8} (h : c ≠ 255) : c < c + 1 := by
  rw [UInt8.lt_iff_toNat_lt]
  have h1 : c.toNat ≠ 255 := fun e => h (UInt8.toNat_inj.1 e)
  have h2 : c.toNat < 256 := c.toNat_lt
  rw [UInt8.toNat_add]
  simp
  omega
theorem up_le {c x : UInt8} (h : c ≠ 255) (hx : x < c + 1) : x ≤ c := by
  rw [UInt8.lt_iff_toNat_lt, UInt8.toNat_add] at hx
  rw [UInt8.le_iff_toNat_le]
  have h1 : c.toNat ≠ 255 := fun e => h (UInt8.toNat_inj.1 e)
  have h2 : c.toNat < 256 := c.toNat_lt
  simp at hx
  omega
theorem le_255 (x : UInt8) : x ≤ 255 := by
  rw [UInt8.le_iff_toNat_le]
  have := x.toNat_lt
  show x.toNat ≤ 255
  omega
theorem xFv : ∀ (p k : Str), (∀ c ∈ p, c = 255) → ble p k = true → xAD k p = true
  | [], k, _, _ => begins_iff.2 ⟨k, rfl⟩
  | c :: p, k, h, hk => by
    cases k with
    | nil =>
      rw [ble_iff] at hk
      rcases hk with hk | hk
      · rw [xCE] at hk; cases hk
      · cases hk
    | cons x k =>
      have hc : c = 255 := h c (by simp)
      subst hc
      have hx : ¬ (x < 255 ∨ x = 255 ∧ Op.bytesLess k p = true) := by
        intro h'
        have := blt_cons.2 h'
        simp [ble, this] at hk
      have hxe : x = 255 := UInt8.le_antisymm (le_255 x) (UInt8.not_lt.1 (fun h' => hx (.inl h')))
      subst hxe
      have : ble p k = true := by
        simp only [ble, Bool.not_eq_true']
        cases hb : Op.bytesLess k p with
        | false => rfl
        | true => exact absurd (.inr ⟨rfl, hb⟩) hx
      obtain ⟨r, rfl⟩ := begins_iff.1 (xFv p k (fun c hc => h c (by simp [hc])) this)
      exact begins_iff.2 ⟨r, rfl⟩
theorem xPY {a : Str} {c : UInt8} {q : Str} (hc : c ≠ 255) (hq : ∀ x ∈ q, x = 255) (k : Str) : (ble (a ++ c :: q) k = true ∧ Op.bytesLess k (a ++ [c + 1]) = true) ↔ xAD k (a ++ c :: q) = true := by
  constructor
  · rintro ⟨h1, h2⟩
    have ha : ∀ (a k : Str), ble (a ++ c :: q) k = true → Op.bytesLess k (a ++ [c + 1]) = true → ∃ r, k = a ++ r := by
      intro a
      induction a with
      | nil => intro k _ _; exact ⟨k, rfl⟩
      | cons x a ih =>
        intro k h1 h2
        cases k with
        | nil =>
          rw [ble_iff] at h1
          rcases h1 with h1 | h1
          · rw [xCE] at h1; cases h1
          · cases h1
        | cons y k =>
          rw [List.cons_append, blt_cons] at h2
          have h1' : ¬ (y < x ∨ y = x ∧ Op.bytesLess k (a ++ c :: q) = true) := by
            intro h'
            have := blt_cons.2 h'
            rw [List.cons_append] at h1
            simp [ble, this] at h1
          have hxy : y = x := by
            rcases h2 with h2 | ⟨h2, _⟩
            · exact absurd (.inl h2) h1'
            · exact h2
          subst hxy
          have h2' : Op.bytesLess k (a ++ [c + 1]) = true := by
            rcases h2 with h2 | ⟨_, h2⟩
            · exact absurd h2 (UInt8.lt_irrefl _)
            · exact h2
          have : ble (a ++ c :: q) k = true := by
            simp only [ble, Bool.not_eq_true']
            cases hb : Op.bytesLess k (a ++ c :: q) with
            | false => rfl
            | true => exact absurd (.inr ⟨rfl, hb⟩) h1'
          obtain ⟨r, rfl⟩ := ih k this h2'
          exact ⟨r, rfl⟩
    obtain ⟨r, rfl⟩ := ha a k h1 h2
    rw [xDE] at h1
    rw [xEH] at h2
    cases r with
    | nil =>
      rw [ble_iff] at h1
      rcases h1 with h1 | h1
      · rw [xCE] at h1; cases h1
      · cases h1
    | cons y r =>
      rw [blt_cons] at h2
      have hyc : y ≤ c := by
        rcases h2 with h2 | ⟨_, h2⟩
        · exact up_le hc h2
        · rw [xCE] at h2; cases h2
      have h1' : ¬ (y < c ∨ y = c ∧ Op.bytesLess r q = true) := by
        intro h'
        have := blt_cons.2 h'
        simp [ble, this] at h1
      have hye : y = c := UInt8.le_antisymm hyc (UInt8.not_lt.1 (fun h' => h1' (.inl h')))
      subst hye
      have : ble q r = true := by
        simp only [ble, Bool.not_eq_true']
        cases hb : Op.bytesLess r q with
        | false => rfl
        | true => exact absurd (.inr ⟨rfl, hb⟩) h1'
      obtain ⟨s, rfl⟩ := begins_iff.1 (xFv q r hq this)
      exact begins_iff.2 ⟨s, by simp⟩
  · intro h
    obtain ⟨r, rfl⟩ := begins_iff.1 h
    refine ⟨xC7 _ _, ?_⟩
    rw [List.append_assoc, xEH, List.cons_append]
    exact blt_cons.2 (.inl (lt_up hc))
theorem xGj (p : Str) : (upL p = [] ∧ ∀ c ∈ p, c = 255) ∨ ∃ a c q, p = a ++ c :: q ∧ c ≠ 255 ∧ (∀ x ∈ q, x = 255) ∧ upL p = a ++ [c + 1] := by
  obtain ⟨h1, h2⟩ := xGk p p.length (Nat.le_refl _)
  have hle := xJk p p.length
  unfold upL
  cases hs : xBb p p.length with
  | zero =>
    left
    refine ⟨rfl, fun c hc => ?_⟩
    obtain ⟨i, hi⟩ := List.mem_iff_getElem?.1 hc
    have := h1 i (by omega) (List.getElem?_eq_some_iff.1 hi).1
    rw [hi] at this
    simpa using this
  | succ n =>
    right
    have hn : n < p.length := by omega
    have hg : p[n]? = some p[n] := List.getElem?_eq_getElem hn
    refine ⟨p.take n, p[n], p.drop (n + 1), ?_, ?_, ?_, ?_⟩
    · rw [← List.drop_eq_getElem_cons hn, List.take_append_drop]
    · intro e
      rw [e] at hg
      exact h2 n hs hg
    · intro x hx
      obtain ⟨i, hi⟩ := List.mem_iff_getElem?.1 hx
      rw [List.getElem?_drop] at hi
      have := h1 (n + 1 + i) (by omega) (List.getElem?_eq_some_iff.1 hi).1
      rw [hi] at this
      simpa using this
    · simp only [List.getD, hg, Option.getD_some]
theorem xAb (p k : Str) : hasL (xAL p) k = xAD k p := by
  rw [Bool.eq_iff_iff, has_iff]
  simp only [xAL]
  rcases xGj p with ⟨h1, h2⟩ | ⟨a, c, q, rfl, hc, hq, hu⟩
  · rw [h1]
    constructor
    · rintro ⟨h3, _⟩; exact xFv p k h2 h3
    · intro h
      obtain ⟨r, rfl⟩ := begins_iff.1 h
      exact ⟨xC7 _ _, .inl rfl⟩
  · rw [hu, ← xPY hc hq k]
    constructor
    · rintro ⟨h3, h4 | h4⟩
      · simp at h4
      · exact ⟨h3, h4⟩
    · rintro ⟨h3, h4⟩; exact ⟨h3, .inr h4⟩
theorem xCU (p : Str) : xAJ (xAL p) = false := by
  cases h : xAJ (xAL p) with
  | false => rfl
  | true =>
    have := xAa h p
    rw [xAb, begins_iff.2 ⟨[], by simp⟩] at this
    cases this
theorem xFA (p : Str) : xAJ (oneL p) = false := by
  cases h : xAJ (oneL p) with
  | false => rfl
  | true =>
    have := xAa h p
    rw [xFa] at this
    simp at this
theorem xKs (p : Str) : (upL p).length ≤ p.length := by
  rcases xGj p with ⟨h1, _⟩ | ⟨a, c, q, rfl, _, _, hu⟩
  · rw [h1]; simp
  · rw [hu]; simp
theorem moved_app (f x t : Str) : xFC (f ++ x) f t = (t ++ x, true) := by
  have : xAD (f ++ x) f = true := begins_iff.2 ⟨x, rfl⟩
  simp [xFC, this]
theorem moved_not {k f t : Str} (h : xAD k f = false) : xFC k f t = ([], false) := by simp [xFC, h]
end Go.Pu
set_option linter.unusedVariables false
set_option linter.unusedSimpArgs false
namespace Go.Pu
theorem xEJ {a b : Str} (h1 : ble a b = true) (h2 : ble b a = true) : a = b := by
  rcases ble_iff.1 h1 with h | h
  · rw [ble, Bool.not_eq_true', h] at h2; cases h2
  · exact h
def insI (s : SpanL) : List SpanL → List SpanL → Bool → List SpanL × Bool
  | [], o, d => (o, d)
  | y :: l, o, d => if d = false ∧ Op.bytesLess s.lo y.lo = true then insI s l (o ++ [s] ++ [y]) true else insI s l (o ++ [y]) d
def insS (l : List SpanL) (s : SpanL) : List SpanL :=
  if (insI s l [] (xAJ s)).2 = false then (insI s l [] (xAJ s)).1 ++ [s] else (insI s l [] (xAJ s)).1
def xIr (l : List SpanL) : List SpanL := l.foldl insS []
def xB7 (out : List SpanL) (s : SpanL) : List SpanL :=
  match out[out.length - 1]? with
  | none => out ++ [s]
  | some x => if x.hi ≠ [] ∧ Op.bytesLess x.hi s.lo = true then out ++ [s] else if xDC x.hi s.hi = true then out.set (out.length - 1) ⟨x.lo, s.hi⟩ else out
def xLC (l : List SpanL) : List SpanL := l.foldl xB7 []
def xAO (l : List SpanL) : List SpanL := xLC (xIr l)
theorem xJH (s : SpanL) : ∀ (l o : List SpanL) (d : Bool), (insI s l o d).1.length = o.length + l.length + (if d = false ∧ (insI s l o d).2 = true then 1 else 0)
  | [], o, d => by cases d <;> simp [insI]
  | y :: l, o, d => by
    unfold insI
    split
    · rename_i h
      have h2 : ∀ (l o : List SpanL), (insI s l o true).2 = true := by
        intro l
        induction l with
        | nil => intro o; rfl
        | cons z l ih => intro o; unfold insI; rw [if_neg (by simp)]; exact ih _
      have := xJH s l (o ++ [s] ++ [y]) true
      rw [h2, h.1]
      simp at this ⊢
      omega
    · have := xJH s l (o ++ [y]) d
      simp only [List.length_append, List.length_cons, List.length_nil] at this ⊢
      omega
theorem xJE (l : List SpanL) (s : SpanL) : (insS l s).length ≤ l.length + 1 := by
  have := xJH s l [] (xAJ s)
  unfold insS
  generalize insI s l [] (xAJ s) = r at this
  generalize xAJ s = d at this
  obtain ⟨r1, r2⟩ := r
  cases r2 <;> cases d <;> simp at this ⊢ <;> omega
theorem xGl (out : List SpanL) (s : SpanL) : (xB7 out s).length ≤ out.length + 1 := by
  unfold xB7
  split
  · simp
  · split
    · simp
    · split
      · simp
      · omega
theorem xOT (l : List SpanL) : (xLC l).length ≤ l.length := by
  have key : ∀ (l o : List SpanL), (l.foldl xB7 o).length ≤ o.length + l.length := by
    intro l
    induction l with
    | nil => intro o; exact Nat.le_refl _
    | cons s l ih =>
      intro o
      have := xGl o s
      have := ih (xB7 o s)
      simp only [List.foldl_cons, List.length_cons] at this ⊢
      omega
  have := key l []
  simpa [xLC] using this
def Lo (l : List SpanL) : Prop := l.Pairwise (fun a b => ble a.lo b.lo = true)
theorem xDi (s : SpanL) : ∀ (l o : List SpanL) (d : Bool), insI s l o d = (o ++ (insI s l [] d).1, (insI s l [] d).2)
  | [], o, d => by simp [insI]
  | y :: l, o, d => by
    unfold insI
    split
    · rw [xDi s l (o ++ [s] ++ [y]), xDi s l ([] ++ [s] ++ [y])]; simp
    · rw [xDi s l (o ++ [y]), xDi s l ([] ++ [y])]; simp
def insP (s : SpanL) : List SpanL → List SpanL
  | [] => [s]
  | y :: l => if Op.bytesLess s.lo y.lo = true then s :: y :: l else y :: insP s l
theorem xHO (s : SpanL) : ∀ (l : List SpanL), insI s l [] true = (l, true)
  | [] => rfl
  | y :: l => by
    unfold insI
    rw [if_neg (by simp), xDi, xHO s l]; simp
theorem xS9 (l : List SpanL) (s : SpanL) : insS l s = if xAJ s = true then l else insP s l := by
  unfold insS
  cases he : xAJ s with
  | true => rw [xHO]; simp
  | false =>
    have key : ∀ l : List SpanL, (if (insI s l [] false).2 = false then (insI s l [] false).1 ++ [s] else (insI s l [] false).1) = insP s l := by
      intro l
      induction l with
      | nil => simp [insI, insP]
      | cons y l ih =>
        have hI : insI s (y :: l) [] false = if Op.bytesLess s.lo y.lo = true then (s :: y :: l, true) else (y :: (insI s l [] false).1, (insI s l [] false).2) := by
          rw [insI]
          by_cases h : Op.bytesLess s.lo y.lo = true
          · rw [if_pos ⟨rfl, h⟩, if_pos h, xDi, xHO]; simp
          · rw [if_neg (by simp [h]), if_neg h, xDi]; simp
        rw [hI, insP]
        by_cases h : Op.bytesLess s.lo y.lo = true
        · rw [if_pos h, if_pos h]; simp
        · rw [if_neg h, if_neg h, ← ih]
          cases h2 : (insI s l [] false).2 <;> simp [h2]
    simpa using key l
theorem insP_mem {s x : SpanL} : ∀ {l : List SpanL}, x ∈ insP s l ↔ x = s ∨ x ∈ l
  | [] => by simp [insP]
  | y :: l => by
    unfold insP
    split
    · simp
    · simp only [List.mem_cons, insP_mem (l := l)]
      constructor
      · rintro (h | h | h)
        · exact .inr (.inl h)
        · exact .inl h
        · exact .inr (.inr h)
      · rintro (h | h | h)
        · exact .inr (.inl h)
        · exact .inl h
        · exact .inr (.inr h)
theorem xOx {s : SpanL} : ∀ {l : List SpanL}, Lo l → Lo (insP s l)
  | [], _ => by simp [insP, Lo]
  | y :: l, h => by
    unfold insP
    obtain ⟨h1, h2⟩ := List.pairwise_cons.1 h
    split
    · rename_i hb
      refine List.pairwise_cons.2 ⟨fun z hz => ?_, h⟩
      have hsy : ble s.lo y.lo = true := ble_iff.2 (.inl hb)
      rcases List.mem_cons.1 hz with rfl | hz
      · exact hsy
      · exact xBA hsy (h1 z hz)
    · rename_i hb
      refine List.pairwise_cons.2 ⟨fun z hz => ?_, xOx h2⟩
      rcases insP_mem.1 hz with rfl | hz
      · simp [ble, hb]
      · exact h1 z hz
theorem xFY (l : List SpanL) : Lo (xIr l) ∧ (∀ s ∈ xIr l, xAJ s = false) ∧ ∀ s, s ∈ xIr l ↔ s ∈ l ∧ xAJ s = false := by
  have key : ∀ (l o : List SpanL), Lo o → (∀ s ∈ o, xAJ s = false) → Lo (l.foldl insS o) ∧ (∀ s ∈ l.foldl insS o, xAJ s = false) ∧ ∀ s, s ∈ l.foldl insS o ↔ s ∈ o ∨ (s ∈ l ∧ xAJ s = false) := by
    intro l
    induction l with
    | nil => intro o h1 h2; exact ⟨h1, h2, fun s => by simp⟩
    | cons x l ih =>
      intro o h1 h2
      have hx := xS9 o x
      cases he : xAJ x with
      | true =>
        rw [he, if_pos rfl] at hx
        obtain ⟨g1, g2, g3⟩ := ih o h1 h2
        rw [List.foldl_cons, hx]
        refine ⟨g1, g2, fun s => (g3 s).trans ?_⟩
        constructor
        · rintro (h | ⟨h, h'⟩)
          · exact .inl h
          · exact .inr ⟨by simp [h], h'⟩
        · rintro (h | ⟨h, h'⟩)
          · exact .inl h
          · rcases List.mem_cons.1 h with rfl | h
            · rw [he] at h'; cases h'
            · exact .inr ⟨h, h'⟩
      | false =>
        rw [he, if_neg (by simp)] at hx
        obtain ⟨g1, g2, g3⟩ := ih (insP x o) (xOx h1) (fun s hs => by rcases insP_mem.1 hs with rfl | hs; exact he; exact h2 s hs)
        rw [List.foldl_cons, hx]
        refine ⟨g1, g2, fun s => (g3 s).trans ?_⟩
        rw [insP_mem]
        constructor
        · rintro ((h | h) | ⟨h, h'⟩)
          · subst h; exact .inr ⟨by simp, he⟩
          · exact .inl h
          · exact .inr ⟨by simp [h], h'⟩
        · rintro (h | ⟨h, h'⟩)
          · exact .inl (.inr h)
          · rcases List.mem_cons.1 h with rfl | h
            · exact .inl (.inl rfl)
            · exact .inr ⟨h, h'⟩
  obtain ⟨h1, h2, h3⟩ := key l [] List.Pairwise.nil (by simp)
  exact ⟨h1, h2, fun s => (h3 s).trans (by simp)⟩
def inL (l : List SpanL) (k : Str) : Bool := l.any (fun s => hasL s k)
theorem inL_iff {l : List SpanL} {k : Str} : inL l k = true ↔ ∃ s ∈ l, hasL s k = true := by simp [inL]
def sep (a b : SpanL) : Prop := a.hi ≠ [] ∧ Op.bytesLess a.hi b.lo = true
structure Nrm (l : List SpanL) : Prop where
  ne : ∀ s ∈ l, xAJ s = false
  pw : l.Pairwise sep
theorem Nrm.tail {s : SpanL} {l : List SpanL} (h : Nrm (s :: l)) : Nrm l := ⟨fun t ht => h.ne t (by simp [ht]), (List.pairwise_cons.1 h.pw).2⟩
theorem xA5 {s : SpanL} (h : xAJ s = false) (hh : s.hi ≠ []) : Op.bytesLess s.lo s.hi = true := by
  have := (has_iff.1 (xDn h)).2
  rcases this with h1 | h1
  · exact absurd h1 hh
  · exact h1
theorem Nrm.above {s : SpanL} {l : List SpanL} (h : Nrm (s :: l)) {k : Str} (hk : inL l k = true) : s.hi ≠ [] ∧ Op.bytesLess s.hi k = true := by
  obtain ⟨t, ht, hk⟩ := inL_iff.1 hk
  obtain ⟨h1, h2⟩ := (List.pairwise_cons.1 h.pw).1 t ht
  exact ⟨h1, xAc h2 (has_iff.1 hk).1⟩
theorem xAT {s : SpanL} {l : List SpanL} {k : Str} : inL (s :: l) k = (hasL s k || inL l k) := by simp [inL]
theorem Nrm.ext : ∀ {l m : List SpanL}, Nrm l → Nrm m → (∀ k, inL l k = inL m k) → l = m
  | [], [], _, _, _ => rfl
  | [], t :: m, _, h, hk => by
    have := hk t.lo
    rw [xAT, xDn (h.ne t (by simp))] at this
    simp [inL] at this
  | s :: l, [], h, _, hk => by
    have := hk s.lo
    rw [xAT, xDn (h.ne s (by simp))] at this
    simp [inL] at this
  | s :: l, t :: m, h, g, hk => by
    have least : ∀ {s : SpanL} {l : List SpanL}, Nrm (s :: l) → ∀ {k : Str}, inL (s :: l) k = true → ble s.lo k = true := by
      intro s l h k hk
      rw [xAT, Bool.or_eq_true] at hk
      rcases hk with hk | hk
      · exact (has_iff.1 hk).1
      · obtain ⟨h1, h2⟩ := h.above hk
        exact ble_iff.2 (.inl (xAm (xA5 (h.ne s (by simp)) h1) h2))
    have hlo : s.lo = t.lo := by
      have h1 := least h (k := t.lo) (by rw [hk, xAT, xDn (g.ne t (by simp))]; rfl)
      have h2 := least g (k := s.lo) (by rw [← hk, xAT, xDn (h.ne s (by simp))]; rfl)
      exact xEJ h1 h2
    have ends : ∀ {s t : SpanL} {l m : List SpanL}, Nrm (s :: l) → Nrm (t :: m) → (∀ k, inL (s :: l) k = inL (t :: m) k) → s.lo = t.lo → ¬ elt s.hi t.hi := by
      intro s t l m h g hk hlo he
      have hs := xA5 (h.ne s (by simp)) he.1
      have h1 : hasL t s.hi = true := has_iff.2 ⟨ble_iff.2 (.inl (hlo ▸ hs)), he.2⟩
      have h2 := hk s.hi
      rw [xAT (s := t), h1, xAT] at h2
      have h3 : hasL s s.hi = false := by
        cases h4 : hasL s s.hi with
        | false => rfl
        | true =>
          rcases (has_iff.1 h4).2 with h5 | h5
          · exact absurd h5 he.1
          · rw [xAs] at h5; cases h5
      rw [h3] at h2
      have h4 : inL l s.hi = true := by simpa using h2
      have := (h.above h4).2
      rw [xAs] at this; cases this
    have hhi : s.hi = t.hi := by
      rcases xO6 s.hi t.hi with e | e | e
      · exact absurd e (ends h g hk hlo)
      · exact e
      · exact absurd e (ends g h (fun k => (hk k).symm) hlo.symm)
    have hst : s = t := by cases s; cases t; simp_all
    subst hst
    rw [Nrm.ext h.tail g.tail (fun k => ?_)]
    have := hk k
    rw [xAT, xAT] at this
    cases hs : hasL s k with
    | false => rw [hs] at this; simpa using this
    | true =>
      have no : ∀ {l : List SpanL}, Nrm (s :: l) → inL l k = false := by
        intro l h
        cases hl : inL l k with
        | false => rfl
        | true =>
          obtain ⟨h1, h2⟩ := h.above hl
          rcases (has_iff.1 hs).2 with h3 | h3
          · exact absurd h3 h1
          · rw [xBh h2] at h3; cases h3
      rw [no h, no g]
theorem xDy (o : List SpanL) (x s : SpanL) : xB7 (o ++ [x]) s = if x.hi ≠ [] ∧ Op.bytesLess x.hi s.lo = true then o ++ [x] ++ [s] else if xDC x.hi s.hi = true then o ++ [⟨x.lo, s.hi⟩] else o ++ [x] := by
  unfold xB7
  simp
theorem xFd : ∀ (l o : List SpanL), Nrm o → Lo l → (∀ s ∈ l, xAJ s = false) → (∀ x ∈ o, ∀ s ∈ l, ble x.lo s.lo = true) → Nrm (l.foldl xB7 o) ∧ ∀ k, inL (l.foldl xB7 o) k = (inL o k || inL l k)
  | [], o, h, _, _, _ => ⟨h, fun k => by simp [inL]⟩
  | s :: l, o, h, hl, hne, hb => by
    obtain ⟨hl1, hl2⟩ := List.pairwise_cons.1 hl
    have hse := hne s (by simp)
    have go : ∀ o', Nrm o' → (∀ x ∈ o', ∀ t ∈ l, ble x.lo t.lo = true) → (∀ k, inL o' k = (inL o k || hasL s k)) → xB7 o s = o' → Nrm ((s :: l).foldl xB7 o) ∧ ∀ k, inL ((s :: l).foldl xB7 o) k = (inL o k || inL (s :: l) k) := by
      intro o' h1 h2 h3 h4
      obtain ⟨g1, g2⟩ := xFd l o' h1 hl2 (fun t ht => hne t (by simp [ht])) h2
      rw [List.foldl_cons, h4]
      refine ⟨g1, fun k => ?_⟩
      rw [g2, h3, xAT, Bool.or_assoc]
    rcases List.eq_nil_or_concat o with rfl | ⟨p, x, rfl⟩
    · exact go [s] ⟨by simpa using hse, by simp⟩ (by simpa using hl1) (fun k => by simp [inL]) rfl
    · rw [List.concat_eq_append] at *
      have hxs := hb x (by simp) s (by simp)
      have hxe := h.ne x (by simp)
      have hpx : ∀ y ∈ p, sep y x := fun y hy => (List.pairwise_append.1 h.pw).2.2 y hy x (by simp)
      have hpp := (List.pairwise_append.1 h.pw).1
      have inA : ∀ (q : List SpanL) (y : SpanL) (k : Str), inL (q ++ [y]) k = (inL q k || hasL y k) := by intro q y k; simp [inL]
      by_cases h1 : x.hi ≠ [] ∧ Op.bytesLess x.hi s.lo = true
      · refine go (p ++ [x] ++ [s]) ⟨fun t ht => ?_, ?_⟩ (fun y hy t ht => ?_) (fun k => by rw [inA]) (by rw [xDy, if_pos h1])
        · rcases List.mem_append.1 ht with ht | ht
          · exact h.ne t ht
          · rw [List.mem_singleton.1 ht]; exact hse
        · refine List.pairwise_append.2 ⟨h.pw, by simp, fun y hy t ht => ?_⟩
          rw [List.mem_singleton.1 ht]
          rcases List.mem_append.1 hy with hy | hy
          · obtain ⟨g1, g2⟩ := hpx y hy
            exact ⟨g1, xAc g2 hxs⟩
          · rw [List.mem_singleton.1 hy]; exact h1
        · rcases List.mem_append.1 hy with hy | hy
          · exact hb y hy t (by simp [ht])
          · rw [List.mem_singleton.1 hy]; exact hl1 t ht
      · -- s begins in x or at its end
        have hin : x.hi = [] ∨ ble s.lo x.hi = true := by
          by_cases hx : x.hi = []
          · exact .inl hx
          · right
            have : ¬ Op.bytesLess x.hi s.lo = true := fun h' => h1 ⟨hx, h'⟩
            simp [ble, this]
        by_cases h2 : xDC x.hi s.hi = true
        · have he := less_iff.1 h2
          have hx0 := he.1
          have hsx : ble s.lo x.hi = true := by rcases hin with h' | h'; exact absurd h' hx0; exact h'
          have hxlt := xA5 hxe hx0
          have hnew : xAJ ⟨x.lo, s.hi⟩ = false := by
            cases h' : xAJ ⟨x.lo, s.hi⟩ with
            | false => rfl
            | true =>
              obtain ⟨g1, g2⟩ := empty_iff.1 h'
              rcases he.2 with h'' | h''
              · exact absurd h'' g1
              · have := xAc (xAm hxlt h'') g2
                rw [xAs] at this; cases this
          refine go (p ++ [⟨x.lo, s.hi⟩]) ⟨fun t ht => ?_, ?_⟩ (fun y hy t ht => ?_) (fun k => ?_) (by rw [xDy, if_neg h1, if_pos h2])
          · rcases List.mem_append.1 ht with ht | ht
            · exact h.ne t (by simp [ht])
            · rw [List.mem_singleton.1 ht]; exact hnew
          · refine List.pairwise_append.2 ⟨hpp, by simp, fun y hy t ht => ?_⟩
            rw [List.mem_singleton.1 ht]
            exact hpx y hy
          · rcases List.mem_append.1 hy with hy | hy
            · exact hb y (by simp [hy]) t (by simp [ht])
            · rw [List.mem_singleton.1 hy]; exact hb x (by simp) t (by simp [ht])
          · rw [inA, inA, Bool.or_assoc]
            congr 1
            rw [Bool.eq_iff_iff, Bool.or_eq_true, has_iff, has_iff, has_iff]
            simp only
            constructor
            · rintro ⟨g1, g2⟩
              cases hk : Op.bytesLess k x.hi with
              | true => exact .inl ⟨g1, .inr rfl⟩
              | false => exact .inr ⟨xBA hsx (by simp [ble, hk]), g2⟩
            · rintro (⟨g1, g2⟩ | ⟨g1, g2⟩)
              · refine ⟨g1, ?_⟩
                rcases g2 with g2 | g2
                · exact absurd g2 hx0
                · rcases he.2 with h' | h'
                  · exact .inl h'
                  · exact .inr (xAm g2 h')
              · exact ⟨xBA hxs g1, g2⟩
        · have hne2 : ¬ elt x.hi s.hi := fun h' => h2 (less_iff.2 h')
          refine go (p ++ [x]) h (fun y hy t ht => hb y hy t (by simp [ht])) (fun k => ?_) (by rw [xDy, if_neg h1, if_neg h2])
          have : hasL s k = true → hasL x k = true := by
            rw [has_iff, has_iff]
            rintro ⟨g1, g2⟩
            refine ⟨xBA hxs g1, ?_⟩
            by_cases hx : x.hi = []
            · exact .inl hx
            · right
              rcases g2 with g2 | g2
              · exact absurd ⟨hx, .inl g2⟩ hne2
              · rcases xBn x.hi s.hi with h' | h' | h'
                · exact absurd ⟨hx, .inr h'⟩ hne2
                · rw [h']; exact g2
                · exact xAm g2 h'
          rw [inA]
          cases hs : hasL s k with
          | false => simp
          | true => rw [this hs]; simp
theorem xAk (l : List SpanL) : Nrm (xAO l) ∧ ∀ k, inL (xAO l) k = inL l k := by
  obtain ⟨h1, h2, h3⟩ := xFY l
  obtain ⟨g1, g2⟩ := xFd (xIr l) [] ⟨by simp, by simp⟩ h1 h2 (by simp)
  refine ⟨g1, fun k => (g2 k).trans ?_⟩
  rw [show inL [] k = false from rfl, Bool.false_or, Bool.eq_iff_iff, inL_iff, inL_iff]
  constructor
  · rintro ⟨s, hs, hk⟩; exact ⟨s, ((h3 s).1 hs).1, hk⟩
  · rintro ⟨s, hs, hk⟩
    refine ⟨s, (h3 s).2 ⟨hs, ?_⟩, hk⟩
    cases he : xAJ s with
    | false => rfl
    | true => rw [xAa he] at hk; cases hk
theorem xOU {l m : List SpanL} (hm : Lo m) (hp : m.Perm (l.filter (fun s => !xAJ s))) : xLC m = xAO l := by
  have he : ∀ s ∈ m, xAJ s = false := fun s hs => by have := hp.mem_iff.1 hs; simp at this; exact this.2
  obtain ⟨g1, g2⟩ := xFd m [] ⟨by simp, by simp⟩ hm he (by simp)
  obtain ⟨r1, r2⟩ := xAk l
  refine Nrm.ext g1 r1 (fun k => ?_)
  show inL (m.foldl xB7 []) k = _
  rw [g2, r2, show inL [] k = false from rfl, Bool.false_or, Bool.eq_iff_iff, inL_iff, inL_iff]
  constructor
  · rintro ⟨s, hs, hk⟩
    have := hp.mem_iff.1 hs
    exact ⟨s, (List.mem_filter.1 this).1, hk⟩
  · rintro ⟨s, hs, hk⟩
    refine ⟨s, hp.mem_iff.2 (List.mem_filter.2 ⟨hs, ?_⟩), hk⟩
    cases he : xAJ s with
    | false => rfl
    | true => rw [xAa he] at hk; cases hk
end Go.Pu
set_option linter.unusedVariables false
set_option linter.unusedSimpArgs false
namespace Go.Pu
instance : Inhabited SpanL := ⟨⟨[], []⟩⟩
section
variable {α : Type} [Inhabited α]
theorem gb {xs : List α} {i : Nat} {x : α} (h : xs[i]? = some x) : xs.toArray[i]! = x := by
  simp [h]
theorem xBp {xs : List α} {i j : Nat} {x y : α} (hx : xs[i]? = some x) (hy : xs[j]? = some y) : Sort.swp xs.toArray i j = ((xs.set i y).set j x).toArray := by
  unfold Sort.swp
  rw [gb hx, gb hy]
  simp
theorem xCa (lt : α → α → Bool) (hi first root : Nat) (d : Array α) : (Sort.siftDown lt hi first root d).size = d.size := by
  fun_induction Sort.siftDown lt hi first root d <;> simp_all [Sort.size_swp]
theorem xEg (lt : α → α → Bool) (hi first : Nat) : ∀ (k : Nat) (d : Array α), (Sort.heapBuild lt hi first k d).size = d.size
  | 0, d => rfl
  | k + 1, d => by rw [Sort.heapBuild, xEg lt hi first k, xCa]
end
def ltS (a b : SpanL) : Bool := decide (xB5 a.lo b.lo < 0)
theorem xL9 (a b : SpanL) : ltS a b = Op.bytesLess a.lo b.lo := by
  rw [Bool.eq_iff_iff, ltS, decide_eq_true_eq, cmpStr_lt]
theorem xOl : Sort.SWO ltS where
  irrefl x := by rw [xL9, xAs]
  trans x y z h1 h2 := by rw [xL9] at *; exact xAm h1 h2
  ntrans x y z h1 h2 := by
    rw [xL9] at *
    have g1 : ble y.lo x.lo = true := by simp [ble, h1]
    have g2 : ble z.lo y.lo = true := by simp [ble, h2]
    have := xBA g2 g1
    simpa [ble] using this
end Go.Pu
set_option linter.unusedVariables false
set_option linter.unusedSimpArgs false
namespace Go.Pu
section
variable {α : Type} [Inhabited α]
theorem xDA (lt : α → α → Bool) : ∀ (j : Nat) (d : Array α), (Sort.shiftDown lt j d).size = d.size
  | 0, d => rfl
  | j + 1, d => by
    rw [Sort.shiftDown]
    split
    · rfl
    · rw [xDA lt j, Sort.size_swp]
theorem xJp (lt : α → α → Bool) (b j : Nat) (d : Array α) : (Sort.shiftUp lt b j d).size = d.size := by
  fun_induction Sort.shiftUp lt b j d <;> simp_all [Sort.size_swp]
theorem xCo (lt : α → α → Bool) (a b : Nat) : ∀ (s i : Nat) (d : Array α), (Sort.partialIns lt a b s i d).1.size = d.size
  | 0, i, d => rfl
  | s + 1, i, d => by
    rw [Sort.partialIns]
    simp only
    split
    · rfl
    · split
      · rfl
      · rw [xCo lt a b s]
        split
        · rw [xJp]
          split
          · rw [xDA, Sort.size_swp]
          · rw [Sort.size_swp]
        · split
          · rw [xDA, Sort.size_swp]
          · rw [Sort.size_swp]
theorem xJz (lt : α → α → Bool) {d : Array α} {a b pivot : Nat} (h1 : a ≤ pivot) (h2 : pivot < b) (hb : b ≤ d.size) : a < (Sort.partitionEqual lt d a b pivot).1 ∧ (Sort.partitionEqual lt d a b pivot).1 ≤ b ∧ (Sort.partitionEqual lt d a b pivot).2.size = d.size := by
  obtain ⟨g1, g2, g3, _⟩ := Sort.partEqLoop_spec (lt := lt) a b (b - 1 + 1 - (a + 1)) (a + 1) (b - 1) (Sort.swp d a pivot) (Nat.le_refl _) (by omega) (by omega) (by omega) (by rw [Sort.size_swp]; exact hb) (fun t h h' => by omega) (fun t h h' => by omega)
  exact ⟨g1, g2, by have := g3.1; rw [Sort.size_swp] at this; exact this⟩
theorem xFL (lt : α → α → Bool) (a : Nat) : ∀ (j : Nat) (d : Array α), (Sort.insInner lt a j d).size = d.size
  | 0, d => rfl
  | j + 1, d => by
    rw [Sort.insInner]
    split
    · rw [xFL lt a j, Sort.size_swp]
    · rfl
theorem xJF (lt : α → α → Bool) (a b i : Nat) (d : Array α) : (Sort.insOuter lt a b i d).size = d.size := by
  fun_induction Sort.insOuter lt a b i d <;> simp_all [xFL]
theorem xGC (lt : α → α → Bool) (first : Nat) : ∀ (k : Nat) (d : Array α), (Sort.heapPop lt first k d).size = d.size
  | 0, d => rfl
  | k + 1, d => by rw [Sort.heapPop, xGC lt first k, xCa, Sort.size_swp]
theorem xJL (lt : α → α → Bool) (d : Array α) (a b : Nat) : (Sort.heapSort lt d a b).size = d.size := by
  unfold Sort.heapSort
  rw [xGC, xEg]
theorem xGN (i j : Nat) (d : Array α) : (Sort.reverseLoop i j d).size = d.size := by
  fun_induction Sort.reverseLoop i j d <;> simp_all [Sort.size_swp]
theorem xJs (d : Array α) (a b : Nat) : (Sort.reverseRange d a b).size = d.size := xGN _ _ _
theorem xNN (d : Array α) (a b : Nat) : (Sort.breakPatterns d a b).size = d.size := by
  unfold Sort.breakPatterns Sort.breakStep
  simp only
  split
  · simp [Sort.size_swp]
  · rfl
theorem xIz (lt : α → α → Bool) (a i j : Nat) (d : Array α) : (Sort.partLoop lt a i j d).2.size = d.size := by
  fun_induction Sort.partLoop lt a i j d <;> simp_all [Sort.size_swp]
theorem xGv (lt : α → α → Bool) (a i j : Nat) (d : Array α) : (Sort.partEqLoop lt a i j d).2.size = d.size := by
  fun_induction Sort.partEqLoop lt a i j d <;> simp_all [Sort.size_swp]
theorem xDB (lt : α → α → Bool) (d : Array α) (a b p : Nat) : (Sort.partition lt d a b p).2.2.size = d.size := by
  unfold Sort.partition
  simp only
  split
  · simp [Sort.size_swp]
  · simp [Sort.size_swp, xIz]
theorem xCn (lt : α → α → Bool) (d : Array α) (a b p : Nat) : (Sort.partitionEqual lt d a b p).2.size = d.size := by
  unfold Sort.partitionEqual
  rw [xGv, Sort.size_swp]
end
end Go.Pu
set_option linter.unusedVariables false
set_option linter.unusedSimpArgs false
namespace Go.Pu
def ne (s : SpanL) : Bool := !xAJ s
def delL (xs : List SpanL) : List SpanL := xs.filter ne ++ List.replicate (xs.length - (xs.filter ne).length) ⟨[], []⟩
def xBc (xs : List SpanL) : Array SpanL := Sort.pdq ltS (delL xs).toArray 0 (xs.filter ne).length (Sort.bitsLen (xs.filter ne).length) true true
theorem xMS (xs : List SpanL) : (delL xs).length = xs.length := by
  have := List.length_filter_le ne xs
  simp [delL]; omega
theorem xJl (xs : List SpanL) : (xBc xs).size = xs.length ∧ xLC ((xBc xs).toList.take (xs.filter ne).length) = xAO xs := by
  have hk : (xs.filter ne).length ≤ (delL xs).toArray.size := by simp [delL]
  obtain ⟨h1, h2⟩ := Sort.pdq_sorts ltS xOl (delL xs).toArray 0 (xs.filter ne).length (Sort.bitsLen (xs.filter ne).length) true true (Nat.zero_le _) hk (.inl rfl)
  obtain ⟨g1, _, g3⟩ := h1
  have hs : (xBc xs).size = xs.length := by unfold xBc; rw [g1]; simp [xMS]
  refine ⟨hs, xOU ?_ ?_⟩
  · refine List.pairwise_iff_getElem.2 fun i j hi hj hij => ?_
    simp only [List.length_take, Array.length_toList] at hi hj
    rw [List.getElem_take, List.getElem_take, Array.getElem_toList, Array.getElem_toList]
    have := h2 i j (Nat.zero_le _) hij (by omega)
    rw [xL9] at this
    have e1 : (xBc xs)[i]! = (xBc xs)[i] := getElem!_pos (xBc xs) i (by omega)
    have e2 : (xBc xs)[j]! = (xBc xs)[j] := getElem!_pos (xBc xs) j (by omega)
    have h3 : Op.bytesLess (xBc xs)[j]!.lo (xBc xs)[i]!.lo = false := this
    rw [e1, e2] at h3
    simp [ble, h3]
  · have : ((delL xs).toArray.extract 0 (xs.filter ne).length).toList = xs.filter ne := by simp [delL]
    rw [this] at g3
    have e : ((xBc xs).extract 0 (xs.filter ne).length).toList = (xBc xs).toList.take (xs.filter ne).length := by simp
    rw [← e]
    exact g3
end Go.Pu
set_option linter.unusedVariables false
namespace Go.Pu
theorem xEi : ∀ (l o : List SpanL), (l.foldl insS o).length ≤ o.length + l.length
  | [], o => by simp
  | s :: l, o => by
    rw [List.foldl_cons, List.length_cons]
    have h1 := xEi l (insS o s)
    have h2 := xJE o s
    omega
theorem xCl (l : List SpanL) : (xAO l).length ≤ l.length := by
  have h1 := xOT (xIr l)
  have h2 := xEi l []
  unfold xAO
  unfold xIr at *
  simp only [List.length_nil] at h2
  omega
theorem xPp (o : List SpanL) (s t : SpanL) (h : t ∈ xB7 o s) : (∃ x ∈ o, x.lo = t.lo) ∨ t.lo = s.lo := by
  rcases List.eq_nil_or_concat o with rfl | ⟨o, x, rfl⟩
  · right
    have : t = s := by simpa [xB7] using h
    rw [this]
  · rw [List.concat_eq_append, xDy] at h
    split at h
    · rcases List.mem_append.1 h with h | h
      · exact .inl ⟨t, by simpa using h, rfl⟩
      · exact .inr (by rw [List.mem_singleton.1 h])
    · split at h
      · rcases List.mem_append.1 h with h | h
        · exact .inl ⟨t, by simp [h], rfl⟩
        · exact .inl ⟨x, by simp, by rw [List.mem_singleton.1 h]⟩
      · exact .inl ⟨t, by simpa using h, rfl⟩
theorem xLu : ∀ (l o : List SpanL) (t : SpanL), t ∈ l.foldl xB7 o → (∃ x ∈ o, x.lo = t.lo) ∨ ∃ x ∈ l, x.lo = t.lo
  | [], o, t, h => .inl ⟨t, h, rfl⟩
  | s :: l, o, t, h => by
    rw [List.foldl_cons] at h
    rcases xLu l _ t h with ⟨x, hx, hxt⟩ | ⟨x, hx, hxt⟩
    · rcases xPp o s x hx with ⟨y, hy, hyx⟩ | h2
      · exact .inl ⟨y, hy, hyx.trans hxt⟩
      · exact .inr ⟨s, by simp, h2.symm.trans hxt⟩
    · exact .inr ⟨x, by simp [hx], hxt⟩
theorem xE8 {l : List SpanL} {t : SpanL} (h : t ∈ xAO l) : ∃ x ∈ l, x.lo = t.lo ∧ xAJ x = false := by
  rcases xLu _ _ t h with ⟨x, hx, _⟩ | ⟨x, hx, hxt⟩
  · exact absurd hx (by simp)
  · have := ((xFY l).2.2 x).1 hx
    exact ⟨x, this.1, hxt, this.2⟩
theorem xPq (o : List SpanL) (s t : SpanL) (h : t ∈ xB7 o s) : (∃ x ∈ o, x.hi = t.hi) ∨ t.hi = s.hi := by
  rcases List.eq_nil_or_concat o with rfl | ⟨o, x, rfl⟩
  · right
    have : t = s := by simpa [xB7] using h
    rw [this]
  · rw [List.concat_eq_append, xDy] at h
    split at h
    · rcases List.mem_append.1 h with h | h
      · exact .inl ⟨t, by simpa using h, rfl⟩
      · exact .inr (by rw [List.mem_singleton.1 h])
    · split at h
      · rcases List.mem_append.1 h with h | h
        · exact .inl ⟨t, by simp [h], rfl⟩
        · exact .inr (by rw [List.mem_singleton.1 h])
      · exact .inl ⟨t, by simpa using h, rfl⟩
theorem xLv : ∀ (l o : List SpanL) (t : SpanL), t ∈ l.foldl xB7 o → (∃ x ∈ o, x.hi = t.hi) ∨ ∃ x ∈ l, x.hi = t.hi
  | [], o, t, h => .inl ⟨t, h, rfl⟩
  | s :: l, o, t, h => by
    rw [List.foldl_cons] at h
    rcases xLv l _ t h with ⟨x, hx, hxt⟩ | ⟨x, hx, hxt⟩
    · rcases xPq o s x hx with ⟨y, hy, hyx⟩ | h2
      · exact .inl ⟨y, hy, hyx.trans hxt⟩
      · exact .inr ⟨s, by simp, h2.symm.trans hxt⟩
    · exact .inr ⟨x, by simp [hx], hxt⟩
theorem xIv {l : List SpanL} {t : SpanL} (h : t ∈ xAO l) : ∃ x ∈ l, x.hi = t.hi := by
  rcases xLv _ _ t h with ⟨x, hx, _⟩ | ⟨x, hx, hxt⟩
  · exact absurd hx (by simp)
  · exact ⟨x, (((xFY l).2.2 x).1 hx).1, hxt⟩
def xCt : Str → List SpanL → List SpanL → List SpanL
  | lo, [], out => out ++ [⟨lo, []⟩]
  | lo, s :: l, out => if s.hi = [] then (if s.lo = [] then out else out ++ [⟨lo, s.lo⟩]) else xCt s.hi l (if s.lo = [] then out else out ++ [⟨lo, s.lo⟩])
theorem xHV : ∀ (l : List SpanL) (lo : Str) (out : List SpanL), (xCt lo l out).length ≤ out.length + l.length + 1
  | [], lo, out => by simp [xCt]
  | s :: l, lo, out => by
    have h2 : (if s.lo = [] then out else out ++ [⟨lo, s.lo⟩]).length ≤ out.length + 1 := by split <;> simp
    rw [xCt, List.length_cons]
    generalize (if s.lo = [] then out else out ++ [(⟨lo, s.lo⟩ : SpanL)]) = o2 at *
    split
    · omega
    · have := xHV l s.hi o2
      omega
theorem xGY : ∀ (l : List SpanL) (lo : Str) (out : List SpanL) (t : SpanL), t ∈ xCt lo l out → t ∈ out ∨ t.lo = lo ∨ ∃ x ∈ l, x.hi = t.lo
  | [], lo, out, t, h => by
    rw [xCt] at h
    rcases List.mem_append.1 h with h | h
    · exact .inl h
    · exact .inr (.inl (by rw [List.mem_singleton.1 h]))
  | s :: l, lo, out, t, h => by
    have h2 : t ∈ (if s.lo = [] then out else out ++ [⟨lo, s.lo⟩]) → t ∈ out ∨ t.lo = lo := by
      split
      · exact .inl
      · intro h
        rcases List.mem_append.1 h with h | h
        · exact .inl h
        · exact .inr (by rw [List.mem_singleton.1 h])
    rw [xCt] at h
    generalize (if s.lo = [] then out else out ++ [(⟨lo, s.lo⟩ : SpanL)]) = o2 at *
    split at h
    · rcases h2 h with h | h
      · exact .inl h
      · exact .inr (.inl h)
    · rcases xGY l s.hi o2 t h with h | h | ⟨x, hx, hxt⟩
      · rcases h2 h with h | h
        · exact .inl h
        · exact .inr (.inl h)
      · exact .inr (.inr ⟨s, by simp, h.symm⟩)
      · exact .inr (.inr ⟨x, by simp [hx], hxt⟩)
theorem xCA {a b : List SpanL} {k : Str} : inL (a ++ b) k = (inL a k || inL b k) := by simp [inL]
theorem xHU {lo hi k : Str} (h : hi ≠ []) : hasL ⟨lo, hi⟩ k = (ble lo k && Op.bytesLess k hi) := by
  have : (hi == []) = false := by simpa using h
  simp only [hasL, ble, this, Bool.false_or]
theorem xGX {lo k : Str} : hasL ⟨lo, []⟩ k = ble lo k := by simp [hasL, ble]
theorem xIX : ∀ (l : List SpanL) (lo : Str) (out : List SpanL) (k : Str), Nrm l → (∀ x, inL l x = true → ble lo x = true) →
    inL (xCt lo l out) k = (inL out k || (ble lo k && !inL l k))
  | [], lo, out, k, _, _ => by
    rw [xCt, xCA]
    simp [inL, xGX]
  | s :: l, lo, out, k, hn, ha => by
    have hls : ble lo s.lo = true := ha s.lo (by rw [xAT, xDn (hn.ne s (by simp))]; rfl)
    have h2 : inL (if s.lo = [] then out else out ++ [⟨lo, s.lo⟩]) k = (inL out k || (ble lo k && Op.bytesLess k s.lo)) := by
      split
      · next h => rw [h]; simp [xCE]
      · next h => rw [xCA]; simp [inL, xHU h]
    rw [xCt, xAT]
    generalize (if s.lo = [] then out else out ++ [(⟨lo, s.lo⟩ : SpanL)]) = o2 at *
    have hnl : inL l k = true → Op.bytesLess k s.lo = true → False := by
      intro h h3
      obtain ⟨h4, h5⟩ := hn.above h
      have h6 := xAc (xA5 (hn.ne s (by simp)) h4) (ble_iff.2 (.inl h5))
      have h7 := xAc h3 (ble_iff.2 (.inl h6))
      rw [xAs] at h7
      cases h7
    have hsl : ble lo k = false → ble s.lo k = false := by
      intro h
      cases h3 : ble s.lo k with
      | false => rfl
      | true => rw [xBA hls h3] at h; cases h
    split
    · next h =>
      have hl : inL l k = false := by
        cases h3 : inL l k with
        | false => rfl
        | true => exact absurd h (hn.above h3).1
      rw [h2, hl]
      simp [hasL, h]
    · next h =>
      rw [xIX l s.hi o2 k hn.tail (fun x hx => ble_iff.2 (.inl (hn.above hx).2)), h2]
      have hlt := xA5 (hn.ne s (by simp)) h
      have e1 : hasL s k = (ble s.lo k && Op.bytesLess k s.hi) := xHU (lo := s.lo) h
      rw [e1]
      cases h3 : inL out k with
      | true => simp
      | false =>
        have e2 : ble s.lo k = !Op.bytesLess k s.lo := rfl
        have e3 : ble s.hi k = !Op.bytesLess k s.hi := rfl
        cases h4 : Op.bytesLess k s.lo with
        | true =>
          have h5 : Op.bytesLess k s.hi = true := xAc h4 (ble_iff.2 (.inl hlt))
          have h6 : inL l k = false := by
            cases h7 : inL l k with
            | false => rfl
            | true => exact (hnl h7 h4).elim
          simp [e2, e3, h4, h5, h6]
        | false =>
          cases h5 : Op.bytesLess k s.hi with
          | true => simp [e2, e3, h4, h5]
          | false =>
            have h6 : ble lo k = true := xBA hls (by rw [e2, h4]; rfl)
            simp [e2, e3, h4, h5, h6]
def xBx (l m : List SpanL) : List SpanL := (xCt [] (xAO m) []).flatMap (fun g => l.map (xAu g))
def xBT (l m : List SpanL) : List SpanL := xAO (xBx l m)
theorem xJK {α : Type} (f : α → List SpanL) (k : Str) : ∀ (l : List α), inL (l.flatMap f) k = l.any (fun a => inL (f a) k)
  | [] => rfl
  | a :: l => by rw [List.flatMap_cons, xCA, xJK f k l, List.any_cons]
theorem xGB (g : SpanL) (k : Str) : ∀ (l : List SpanL), inL (l.map (xAu g)) k = (hasL g k && inL l k)
  | [] => by simp [inL]
  | s :: l => by rw [List.map_cons, xAT, xAT, xGB g k l, xCd]; cases hasL g k <;> simp
theorem xBr (l m : List SpanL) (k : Str) : inL (xBT l m) k = (inL l k && !inL m k) := by
  have h1 := xIX (xAO m) [] [] k (xAk m).1 (fun x _ => xEI x)
  rw [xBT, (xAk _).2, xBx, xJK]
  simp only [xGB]
  have h2 : ∀ (gs : List SpanL), gs.any (fun g => hasL g k && inL l k) = (inL gs k && inL l k) := by
    intro gs
    induction gs with
    | nil => rfl
    | cons g gs ih => rw [List.any_cons, ih, xAT]; cases hasL g k <;> cases inL gs k <;> cases inL l k <;> rfl
  rw [h2, h1, (xAk m).2, xEI]
  simp [inL, Bool.and_comm]
theorem xD7 (l m : List SpanL) : Nrm (xBT l m) := (xAk _).1
def cutL (s c : SpanL) : List SpanL := (if c.lo = [] then [] else [xAu s ⟨[], c.lo⟩]) ++ (if c.hi = [] then [] else [xAu s ⟨c.hi, []⟩])
def xDj (left : List SpanL) (c : SpanL) : List SpanL := if xAJ c = true then left else xAO (left.flatMap (fun s => cutL s c))
def xGs (l m : List SpanL) : List SpanL := m.foldl xDj (xAO l)
theorem xPE (s c : SpanL) (k : Str) : inL (cutL s c) k = (hasL s k && !hasL c k) := by
  have e : hasL c k = (ble c.lo k && (c.hi == [] || Op.bytesLess k c.hi)) := rfl
  have e1 : ble c.lo k = !Op.bytesLess k c.lo := rfl
  have e2 : ble c.hi k = !Op.bytesLess k c.hi := rfl
  have e3 : inL (if c.lo = [] then [] else [xAu s ⟨[], c.lo⟩]) k = (hasL s k && Op.bytesLess k c.lo) := by
    split
    · next h => rw [h, xCE]; simp [inL]
    · next h => rw [xAT, xCd, xHU h, xEI]; simp [inL]
  have e4 : inL (if c.hi = [] then [] else [xAu s ⟨c.hi, []⟩]) k = (hasL s k && (!(c.hi == []) && !Op.bytesLess k c.hi)) := by
    split
    · next h => rw [h]; simp [inL]
    · next h => 
      have h9 : (c.hi == []) = false := by simpa using h
      rw [xAT, xCd, xGX, e2, h9]; simp [inL]
  rw [cutL, xCA, e3, e4, e, e1]
  cases hasL s k <;> cases Op.bytesLess k c.lo <;> cases (c.hi == []) <;> cases Op.bytesLess k c.hi <;> rfl
theorem xPC (l : List SpanL) (c : SpanL) (k : Str) : inL (xDj l c) k = (inL l k && !hasL c k) := by
  unfold xDj
  split
  · next h => rw [xAa h]; simp
  · rw [(xAk _).2, xJK]
    simp only [xPE]
    induction l with
    | nil => rfl
    | cons g gs ih => rw [List.any_cons, ih, xAT]; cases hasL g k <;> cases inL gs k <;> cases hasL c k <;> rfl
theorem xMU {l : List SpanL} (h : Nrm l) (c : SpanL) : Nrm (xDj l c) := by
  unfold xDj
  split
  · exact h
  · exact (xAk _).1
theorem xKW : ∀ (m l : List SpanL), Nrm l → Nrm (m.foldl xDj l) ∧ ∀ k, inL (m.foldl xDj l) k = (inL l k && !inL m k)
  | [], l, h => ⟨h, fun k => by simp [inL]⟩
  | c :: m, l, h => by
    obtain ⟨h1, h2⟩ := xKW m (xDj l c) (xMU h c)
    refine ⟨h1, fun k => ?_⟩
    rw [List.foldl_cons, h2, xPC, xAT]
    cases inL l k <;> cases hasL c k <;> cases inL m k <;> rfl
theorem xOZ (l m : List SpanL) : xBT l m = xGs l m := by
  obtain ⟨h1, h2⟩ := xKW m (xAO l) (xAk l).1
  refine Nrm.ext (xD7 l m) h1 (fun k => ?_)
  rw [xBr]
  exact ((h2 k).trans (by rw [(xAk l).2])).symm
theorem xGZ {α : Type} (f : α → List SpanL) (n : Nat) : ∀ (l : List α), (∀ a ∈ l, (f a).length ≤ n) → (l.flatMap f).length ≤ n * l.length
  | [], _ => by simp
  | a :: l, h => by
    rw [List.flatMap_cons, List.length_append, List.length_cons, Nat.mul_succ]
    have h1 := xGZ f n l (fun b hb => h b (by simp [hb]))
    have h2 := h a (by simp)
    omega
theorem xMV (s c : SpanL) : (cutL s c).length ≤ 2 := by
  unfold cutL
  split <;> split <;> simp
theorem cuts_len (l : List SpanL) (c : SpanL) : (xDj l c).length ≤ 2 * l.length := by
  unfold xDj
  split
  · omega
  · exact Nat.le_trans (xCl _) (xGZ _ 2 l (fun s _ => xMV s c))
theorem xJ6 (l m : List SpanL) : (xBx l m).length ≤ l.length * (m.length + 1) := by
  unfold xBx
  refine Nat.le_trans (xGZ _ l.length _ (fun g _ => by simp)) (Nat.mul_le_mul_left _ ?_)
  have h1 := xHV (xAO m) [] []
  have h2 := xCl m
  simp only [List.length_nil] at h1
  omega
theorem xGx : ∀ (a b : List Str), a.Nodup → (∀ x ∈ a, x ∈ b) → a.length ≤ b.length
  | [], b, _, _ => by simp
  | x :: a, b, hn, hs => by
    obtain ⟨h1, h2⟩ := List.nodup_cons.1 hn
    have h3 := xGx a (b.erase x) h2 (fun y hy => by
      refine (List.mem_erase_of_ne ?_).2 (hs y (by simp [hy]))
      intro h; subst h; exact h1 hy)
    rw [List.length_erase_of_mem (hs x (by simp))] at h3
    have : 0 < b.length := List.length_pos_of_mem (hs x (by simp))
    rw [List.length_cons]
    omega
theorem xK9 : ∀ {l : List SpanL}, Nrm l → (l.map SpanL.lo).Nodup
  | [], _ => by simp
  | s :: l, h => by
    rw [List.map_cons, List.nodup_cons]
    refine ⟨?_, xK9 h.tail⟩
    intro hm
    obtain ⟨t, ht, hts⟩ := List.mem_map.1 hm
    obtain ⟨h1, h2⟩ := (List.pairwise_cons.1 h.pw).1 t ht
    have h3 := xAc (xA5 (h.ne s (by simp)) h1) (ble_iff.2 (.inl h2))
    rw [hts, xAs] at h3
    cases h3
theorem xIO (a b : Str) : maxL a b = a ∨ maxL a b = b := by unfold maxL; split <;> simp
theorem xG2 (l m : List SpanL) : (xBT l m).length ≤ l.length + m.length := by
  have h := xGx _ (l.map SpanL.lo ++ m.map SpanL.hi) (xK9 (xD7 l m)) ?_
  · simpa using h
  · intro x hx
    obtain ⟨t, ht, rfl⟩ := List.mem_map.1 hx
    obtain ⟨y, hy, hyt, hye⟩ := xE8 ht
    rw [← hyt]
    obtain ⟨g, hg, hy⟩ := List.mem_flatMap.1 hy
    obtain ⟨s, hs, rfl⟩ := List.mem_map.1 hy
    have hm : (xAu g s).lo = maxL g.lo s.lo := by
      unfold xAu at hye ⊢
      split
      · next h => rw [if_pos h] at hye; exact absurd hye (by decide)
      · rfl
    rw [hm]
    have hsl : s.lo ∈ l.map SpanL.lo ++ m.map SpanL.hi := List.mem_append.2 (.inl (List.mem_map.2 ⟨s, hs, rfl⟩))
    rcases xGY _ _ _ g hg with h | h | ⟨z, hz, hzg⟩
    · cases h
    · rw [h]
      have : maxL [] s.lo = s.lo := by
        unfold maxL
        split
        · rfl
        · next h3 =>
          have h4 : ble s.lo [] = true := by simpa [ble] using h3
          rcases ble_iff.1 h4 with h5 | h5
          · rw [xCE] at h5; cases h5
          · exact h5.symm
      rw [this]
      exact hsl
    · rcases xIO g.lo s.lo with h | h
      · rw [h, ← hzg]
        obtain ⟨w, hw, hwz⟩ := xIv hz
        exact List.mem_append.2 (.inr (List.mem_map.2 ⟨w, hw, hwz⟩))
      · rw [h]
        exact hsl
end Go.Pu
set_option linter.unusedVariables false
set_option linter.unusedSimpArgs false
namespace Go.Pu
structure MsgL where
  kind : Int
  key : Str
  val : Str
  sp : SpanL
  fr : Str
  to : Str
  n : Int
  deriving DecidableEq
def xAR (m : MsgL) : List SpanL :=
  if m.kind = 1 ∨ m.kind = 2 then [oneL m.key] else if m.kind = 4 then [xAL m.fr, xAL m.to] else if m.kind = 5 then [xAL m.to] else [m.sp]
def xCN (m : MsgL) : List SpanL := if m.kind = 4 ∨ m.kind = 5 then [xAL m.fr] else if m.kind = 6 then [m.sp] else []
def xA2 (m : MsgL) : List SpanL := if m.kind = 6 then [] else xAR m
structure MsgOk (m : MsgL) : Prop where
  k : 1 ≤ m.kind ∧ m.kind ≤ 6
  ap : m.kind = 4 ∨ m.kind = 5 → xAD m.fr m.to = false ∧ xAD m.to m.fr = false
  ne : m.kind = 4 ∨ m.kind = 5 → m.fr ≠ [] ∧ m.to ≠ []
def bkL (m : MsgL) (k : Str) : Option Str :=
  if m.kind = 1 ∨ m.kind = 2 then (if m.key = k then none else some k) else
  if m.kind = 3 then (if hasL m.sp k = true then none else some k) else
  if m.kind = 6 then some k else
  if m.kind = 4 ∧ xAD k m.fr = true then none else
  if xAD k m.to = true then some (m.fr ++ k.drop m.to.length) else some k
def bksL : List MsgL → Str → Option Str
  | [], k => some k
  | m :: r, k => (bkL m k).bind (bksL r)
theorem bks_append (a b : List MsgL) (k : Str) : bksL (a ++ b) k = (bksL a k).bind (bksL b) := by
  induction a generalizing k with
  | nil => rfl
  | cons m a ih =>
    rw [List.cons_append, bksL, bksL]
    cases bkL m k with
    | none => rfl
    | some x => exact ih x
def xD6 (f t : Str) (s : SpanL) : SpanL := ⟨t ++ s.lo.drop f.length, if xAD s.hi f = true ∧ s.hi ≠ [] then t ++ s.hi.drop f.length else upL t⟩
def xKP (m : MsgL) : List SpanL := xAL m.to :: (if m.kind = 4 then [xAL m.fr] else [])
def inTo (m : MsgL) (l : List SpanL) : List SpanL := (l.map fun x => xAu x (xAL m.to)).filter fun s => !xAJ s
def xFV (l : List SpanL) (m : MsgL) : List SpanL :=
  if m.kind = 1 ∨ m.kind = 2 then xBT l [oneL m.key] else
  if m.kind = 3 then xBT l [m.sp] else
  if m.kind = 6 then l else
  xAO (xBT l (xKP m) ++ (inTo m l).map (xD6 m.to m.fr))
def xGm (s : SpanL) (r : List MsgL) : List SpanL := r.foldl xFV (xAO [s])
theorem xHy : ∀ {p a x : Str}, Op.bytesLess (p ++ a) x = true → xAD x p = false → ∀ r, Op.bytesLess (p ++ r) x = true
  | [], a, x, h, hb, r => by simp [xAD] at hb
  | c :: p, a, [], h, hb, r => by simp [Op.bytesLess] at h
  | c :: p, a, d :: x, h, hb, r => by
    rw [List.cons_append, blt_cons] at h ⊢
    rcases h with h | ⟨rfl, h⟩
    · exact .inl h
    · refine .inr ⟨rfl, xHy h ?_ r⟩
      cases hx : xAD x p with
      | false => rfl
      | true =>
        obtain ⟨q, rfl⟩ := begins_iff.1 hx
        have : xAD (c :: (p ++ q)) (c :: p) = true := begins_iff.2 ⟨q, rfl⟩
        rw [this] at hb
        cases hb
theorem xBN (p r : Str) : xAD (p ++ r) p = true := begins_iff.2 ⟨r, rfl⟩
theorem begins_le {k p : Str} (h : xAD k p = true) : ble p k = true := by
  obtain ⟨r, rfl⟩ := begins_iff.1 h
  exact xC7 p r
theorem xIL {f t : Str} (ht : t ≠ []) {s : SpanL} (hn : xAJ s = false) (hs : ∀ k, hasL s k = true → xAD k f = true) (k : Str) :
    hasL (xD6 f t s) k = true ↔ ∃ r, k = t ++ r ∧ hasL s (f ++ r) = true := by
  obtain ⟨a, ha⟩ := begins_iff.1 (hs _ (xDn hn))
  have hd : s.lo.drop f.length = a := by rw [ha]; simp
  by_cases hh : xAD s.hi f = true ∧ s.hi ≠ []
  · obtain ⟨b, hb⟩ := begins_iff.1 hh.1
    have hd2 : s.hi.drop f.length = b := by rw [hb]; simp
    have e : xD6 f t s = ⟨t ++ a, t ++ b⟩ := by unfold xD6; rw [if_pos hh, hd, hd2]
    have hne : t ++ b ≠ [] := by simp [ht]
    rw [e, has_iff]
    simp only [hne, false_or]
    constructor
    · rintro ⟨h1, h2⟩
      have hk : xAD k t = true := by
        cases hk : xAD k t with
        | true => rfl
        | false =>
          exfalso
          rcases ble_iff.1 h1 with h3 | h3
          · have := xHy h3 hk b
            rw [xBh this] at h2
            cases h2
          · rw [← h3, xBN] at hk
            cases hk
      obtain ⟨r, rfl⟩ := begins_iff.1 hk
      refine ⟨r, rfl, has_iff.2 ⟨?_, .inr ?_⟩⟩
      · rw [ha, xDE]; rwa [xDE] at h1
      · rw [hb, xEH]; rwa [xEH] at h2
    · rintro ⟨r, rfl, h⟩
      obtain ⟨h1, h2⟩ := has_iff.1 h
      rw [ha, xDE] at h1
      have h2 := h2.resolve_left hh.2
      rw [hb, xEH] at h2
      exact ⟨by rwa [xDE], by rwa [xEH]⟩
  · have e : xD6 f t s = ⟨t ++ a, upL t⟩ := by unfold xD6; rw [if_neg hh, hd]
    have hup : ∀ r, s.hi = [] ∨ Op.bytesLess (f ++ r) s.hi = true := by
      intro r
      by_cases h0 : s.hi = []
      · exact .inl h0
      · have hb : xAD s.hi f = false := by
          cases hb : xAD s.hi f with
          | false => rfl
          | true => exact (hh ⟨hb, h0⟩).elim
        have := xA5 hn h0
        rw [ha] at this
        exact .inr (xHy this hb r)
    have hp := xAb t k
    have e2 : xAL t = ⟨t, upL t⟩ := rfl
    rw [e, has_iff]
    constructor
    · rintro ⟨h1, h2⟩
      have h3 : hasL (xAL t) k = true := by rw [e2, has_iff]; exact ⟨xBA (xC7 t a) h1, h2⟩
      rw [hp] at h3
      obtain ⟨r, rfl⟩ := begins_iff.1 h3
      refine ⟨r, rfl, has_iff.2 ⟨?_, hup r⟩⟩
      rw [ha, xDE]; rwa [xDE] at h1
    · rintro ⟨r, rfl, h⟩
      obtain ⟨h1, h2⟩ := has_iff.1 h
      rw [ha, xDE] at h1
      have h3 : hasL (xAL t) (t ++ r) = true := by rw [xAb]; exact xBN t r
      rw [e2, has_iff] at h3
      exact ⟨by rwa [xDE], h3.2⟩
theorem xHQ (m : MsgL) (l : List SpanL) (k : Str) (h : ∃ s ∈ inTo m l, hasL s k = true) : inL l k = true ∧ xAD k m.to = true := by
  obtain ⟨s, hs, hk⟩ := h
  unfold inTo at hs
  rw [List.mem_filter, List.mem_map] at hs
  obtain ⟨⟨x, hx, rfl⟩, _⟩ := hs
  rw [xCd, Bool.and_eq_true, xAb] at hk
  exact ⟨inL_iff.2 ⟨x, hx, hk.1⟩, hk.2⟩
theorem xQv (m : MsgL) (l : List SpanL) (k : Str) : (∃ s ∈ inTo m l, hasL s k = true) ↔ inL l k = true ∧ xAD k m.to = true := by
  refine ⟨xHQ m l k, ?_⟩
  rintro ⟨h1, h2⟩
  obtain ⟨x, hx, hk⟩ := inL_iff.1 h1
  have hm : hasL (xAu x (xAL m.to)) k = true := by rw [xCd, Bool.and_eq_true, xAb]; exact ⟨hk, h2⟩
  refine ⟨_, List.mem_filter.2 ⟨List.mem_map.2 ⟨x, hx, rfl⟩, ?_⟩, hm⟩
  cases he : xAJ (xAu x (xAL m.to)) with
  | false => rfl
  | true => rw [xAa he] at hm; cases hm
theorem xHP {m : MsgL} {l : List SpanL} {s : SpanL} (h : s ∈ inTo m l) : xAJ s = false ∧ ∀ k, hasL s k = true → xAD k m.to = true := by
  refine ⟨?_, fun k hk => (xHQ m l k ⟨s, h, hk⟩).2⟩
  unfold inTo at h
  rw [List.mem_filter] at h
  simpa using h.2
theorem xOy {m : MsgL} (hf : m.fr ≠ []) (l : List SpanL) (k : Str) : inL ((inTo m l).map (xD6 m.to m.fr)) k = true ↔ ∃ r, k = m.fr ++ r ∧ inL l (m.to ++ r) = true := by
  rw [inL_iff]
  constructor
  · rintro ⟨x, hx, hk⟩
    obtain ⟨s, hs, rfl⟩ := List.mem_map.1 hx
    obtain ⟨h1, h2⟩ := xHP hs
    obtain ⟨r, rfl, hr⟩ := (xIL hf h1 h2 k).1 hk
    exact ⟨r, rfl, (xHQ m l _ ⟨s, hs, hr⟩).1⟩
  · rintro ⟨r, rfl, hr⟩
    obtain ⟨s, hs, hk⟩ := (xQv m l (m.to ++ r)).2 ⟨hr, xBN _ _⟩
    obtain ⟨h1, h2⟩ := xHP hs
    exact ⟨_, List.mem_map.2 ⟨s, hs, rfl⟩, (xIL hf h1 h2 _).2 ⟨r, rfl, hk⟩⟩
theorem xIq {l : List SpanL} (h : Nrm l) (m : MsgL) : Nrm (xFV l m) := by
  unfold xFV
  split
  · exact xD7 _ _
  · split
    · exact xD7 _ _
    · split
      · exact h
      · exact (xAk _).1
theorem xJg {m : MsgL} (hm : MsgOk m) (l : List SpanL) (k : Str) : inL (xFV l m) k = true ↔ ∃ x, inL l x = true ∧ bkL m x = some k := by
  unfold xFV bkL
  by_cases h1 : m.kind = 1 ∨ m.kind = 2
  · simp only [if_pos h1]
    rw [xBr, xAT, xFa]
    simp only [inL, List.any_nil, Bool.or_false, Bool.and_eq_true, Bool.not_eq_true', beq_eq_false_iff_ne, ne_eq]
    constructor
    · rintro ⟨g1, g2⟩
      exact ⟨k, g1, by rw [if_neg fun e => g2 e.symm]⟩
    · rintro ⟨x, g1, g2⟩
      split at g2
      · cases g2
      · rename_i hx
        cases g2
        exact ⟨g1, fun e => hx e.symm⟩
  simp only [if_neg h1]
  by_cases h3 : m.kind = 3
  · simp only [if_pos h3]
    rw [xBr, xAT]
    simp only [inL, List.any_nil, Bool.or_false, Bool.and_eq_true, Bool.not_eq_true']
    constructor
    · rintro ⟨g1, g2⟩
      exact ⟨k, g1, by rw [if_neg (by rw [g2]; simp)]⟩
    · rintro ⟨x, g1, g2⟩
      split at g2
      · cases g2
      · rename_i hx
        cases g2
        exact ⟨g1, by simpa using hx⟩
  simp only [if_neg h3]
  by_cases h6 : m.kind = 6
  · simp only [if_pos h6]
    exact ⟨fun h => ⟨k, h, rfl⟩, fun ⟨x, h, e⟩ => by cases e; exact h⟩
  simp only [if_neg h6]
  have hk := hm.k
  have h45 : m.kind = 4 ∨ m.kind = 5 := by omega
  obtain ⟨ap1, ap2⟩ := hm.ap h45
  obtain ⟨ne1, ne2⟩ := hm.ne h45
  have both : ∀ x, xAD x m.fr = true → xAD x m.to = true → False := by
    intro x b1 b2
    obtain ⟨r, rfl⟩ := begins_iff.1 b1
    obtain ⟨q, hq⟩ := begins_iff.1 b2
    rcases Nat.le_total m.fr.length m.to.length with hlen | hlen
    · have : xAD m.to m.fr = true := begins_iff.2 ⟨m.to.drop m.fr.length, by
        have := congrArg (List.take m.fr.length) hq
        rw [List.take_left, List.take_append_of_le_length hlen] at this
        conv => lhs; rw [← List.take_append_drop m.fr.length m.to]
        rw [← this]⟩
      rw [this] at ap2; cases ap2
    · have : xAD m.fr m.to = true := begins_iff.2 ⟨m.fr.drop m.to.length, by
        have := congrArg (List.take m.to.length) hq
        rw [List.take_left, List.take_append_of_le_length hlen] at this
        conv => lhs; rw [← List.take_append_drop m.to.length m.fr]
        rw [this]⟩
      rw [this] at ap1; cases ap1
  rw [(xAk _).2, xCA, Bool.or_eq_true, xBr, xOy ne1]
  have hg : inL (xKP m) k = (xAD k m.to || (decide (m.kind = 4) && xAD k m.fr)) := by
    unfold xKP
    rw [xAT, xAb]
    by_cases h4 : m.kind = 4
    · rw [if_pos h4, xAT, xAb]; simp [inL, h4]
    · rw [if_neg h4]; simp [inL, h4]
  rw [hg]
  simp only [Bool.and_eq_true, Bool.not_eq_true', Bool.or_eq_false_iff]
  constructor
  · rintro (⟨g1, g2, g3⟩ | ⟨r, rfl, g⟩)
    · refine ⟨k, g1, ?_⟩
      rw [if_neg (fun hc => by rw [hc.2, decide_eq_true hc.1] at g3; cases g3), if_neg (by rw [g2]; simp)]
    · refine ⟨m.to ++ r, g, ?_⟩
      rw [if_neg fun hc => both _ hc.2 (xBN _ _), if_pos (xBN _ _)]
      simp
  · rintro ⟨x, g1, g2⟩
    split at g2
    · cases g2
    · rename_i hc
      split at g2
      · rename_i hb
        obtain ⟨r, rfl⟩ := begins_iff.1 hb
        simp only [List.drop_left, Option.some.injEq] at g2
        exact .inr ⟨r, g2.symm, g1⟩
      · rename_i hb
        cases g2
        refine .inl ⟨g1, by simpa using hb, ?_⟩
        by_cases h4 : m.kind = 4
        · rw [decide_eq_true h4, Bool.true_and]
          cases hx : xAD k m.fr with
          | false => rfl
          | true => exact (hc ⟨h4, hx⟩).elim
        · rw [decide_eq_false h4]; rfl
theorem spans_nrm (s : SpanL) (r : List MsgL) : Nrm (xGm s r) := by
  unfold xGm
  have key : ∀ (r : List MsgL) (l : List SpanL), Nrm l → Nrm (r.foldl xFV l) := by
    intro r
    induction r with
    | nil => intro l h; exact h
    | cons m r ih => intro l h; exact ih _ (xIq h m)
  exact key r _ (xAk _).1
theorem xH9 : ∀ (r : List MsgL) (l : List SpanL) (k : Str), (∀ m ∈ r, MsgOk m) → (inL (r.foldl xFV l) k = true ↔ ∃ x, inL l x = true ∧ bksL r x = some k)
  | [], l, k, _ => ⟨fun h => ⟨k, h, rfl⟩, fun ⟨x, h, e⟩ => by cases e; exact h⟩
  | m :: r, l, k, h => by
    rw [List.foldl_cons, xH9 r _ k fun x hx => h x (by simp [hx])]
    constructor
    · rintro ⟨x, g1, g2⟩
      obtain ⟨y, g3, g4⟩ := (xJg (h m (by simp)) l x).1 g1
      exact ⟨y, g3, by rw [bksL, g4]; exact g2⟩
    · rintro ⟨y, g1, g2⟩
      rw [bksL] at g2
      obtain ⟨x, g3, g4⟩ := Option.bind_eq_some_iff.1 g2
      exact ⟨x, (xJg (h m (by simp)) l x).2 ⟨y, g1, g3⟩, g4⟩
theorem xMq (s : SpanL) {r : List MsgL} (h : ∀ m ∈ r, MsgOk m) (k : Str) : inL (xGm s r) k = true ↔ ∃ x, hasL s x = true ∧ bksL r x = some k := by
  unfold xGm
  rw [xH9 r _ k h]
  have e : ∀ x, inL (xAO [s]) x = hasL s x := fun x => by rw [(xAk _).2]; simp [inL]
  simp only [e]
end Go.Pu
set_option linter.unusedVariables false
set_option linter.unusedSimpArgs false
namespace Go.Pu
theorem xLS {x a b : Str} (b1 : xAD x a = true) (b2 : xAD x b = true) : xAD a b = true ∨ xAD b a = true := by
  obtain ⟨r, rfl⟩ := begins_iff.1 b1
  obtain ⟨q, hq⟩ := begins_iff.1 b2
  rcases Nat.le_total a.length b.length with hlen | hlen
  · refine .inr (begins_iff.2 ⟨b.drop a.length, ?_⟩)
    have := congrArg (List.take a.length) hq
    rw [List.take_left, List.take_append_of_le_length hlen] at this
    conv => lhs; rw [← List.take_append_drop a.length b]
    rw [← this]
  · refine .inl (begins_iff.2 ⟨a.drop b.length, ?_⟩)
    have := congrArg (List.take b.length) hq
    rw [List.take_left, List.take_append_of_le_length hlen] at this
    conv => lhs; rw [← List.take_append_drop b.length a]
    rw [this]
theorem bk_inj {m : MsgL} (hm : MsgOk m) (hc : m.kind ≠ 5) {a b k : Str} (ha : bkL m a = some k) (hb : bkL m b = some k) : a = b := by
  unfold bkL at ha hb
  by_cases h1 : m.kind = 1 ∨ m.kind = 2
  · rw [if_pos h1] at ha hb
    split at ha
    · cases ha
    · split at hb
      · cases hb
      · cases ha; cases hb; rfl
  rw [if_neg h1] at ha hb
  by_cases h3 : m.kind = 3
  · rw [if_pos h3] at ha hb
    split at ha
    · cases ha
    · split at hb
      · cases hb
      · cases ha; cases hb; rfl
  rw [if_neg h3] at ha hb
  by_cases h6 : m.kind = 6
  · rw [if_pos h6] at ha hb
    cases ha; cases hb; rfl
  rw [if_neg h6] at ha hb
  have hk := hm.k
  have h4 : m.kind = 4 := by omega
  simp only [h4, true_and] at ha hb
  split at ha
  · cases ha
  · rename_i na
    split at hb
    · cases hb
    · rename_i nb
      split at ha
      · rename_i ta
        obtain ⟨r, rfl⟩ := begins_iff.1 ta
        simp only [List.drop_left, Option.some.injEq] at ha
        split at hb
        · rename_i tb
          obtain ⟨q, rfl⟩ := begins_iff.1 tb
          simp only [List.drop_left, Option.some.injEq] at hb
          rw [← hb, List.append_cancel_left_eq] at ha
          rw [ha]
        · cases hb
          rw [← ha] at nb
          exact (nb (xBN _ _)).elim
      · cases ha
        split at hb
        · rename_i tb
          obtain ⟨q, rfl⟩ := begins_iff.1 tb
          simp only [List.drop_left, Option.some.injEq] at hb
          rw [← hb] at na
          exact (na (xBN _ _)).elim
        · cases hb; rfl
theorem xTQ : ∀ {r : List MsgL}, (∀ m ∈ r, MsgOk m) → (∀ m ∈ r, m.kind ≠ 5) → ∀ {a b k : Str}, bksL r a = some k → bksL r b = some k → a = b
  | [], _, _, a, b, k, ha, hb => by cases ha; cases hb; rfl
  | m :: r, h, hc, a, b, k, ha, hb => by
    rw [bksL] at ha hb
    obtain ⟨x, g1, g2⟩ := Option.bind_eq_some_iff.1 ha
    obtain ⟨y, g3, g4⟩ := Option.bind_eq_some_iff.1 hb
    have := xTQ (fun m hm => h m (by simp [hm])) (fun m hm => hc m (by simp [hm])) g2 g4
    subst this
    exact bk_inj (h m (by simp)) (hc m (by simp)) g1 g3
theorem xOm {l : List SpanL} (h : Nrm l) {b : List Str} (hb : ∀ s ∈ l, s.lo ∈ b) : l.length ≤ b.length := by
  have := xGx (l.map SpanL.lo) b (xK9 h) (by
    intro x hx
    obtain ⟨s, hs, rfl⟩ := List.mem_map.1 hx
    exact hb s hs)
  simpa using this
theorem xLE {l g : List SpanL} {t : SpanL} (h : t ∈ xBx l g) : xAJ t = false → (∃ x ∈ l, x.lo = t.lo) ∨ ∃ x ∈ g, x.hi = t.lo := by
  intro hne
  unfold xBx at h
  rw [List.mem_flatMap] at h
  obtain ⟨c, hc, ht⟩ := h
  obtain ⟨x, hx, rfl⟩ := List.mem_map.1 ht
  have hm : xAu c x = ⟨maxL c.lo x.lo, xBz c.hi x.hi⟩ ∨ xAu c x = xH3 := by unfold xAu; split <;> simp
  rcases hm with hm | hm
  · rw [hm]
    simp only
    rcases xIO c.lo x.lo with e | e
    · rw [e]
      rcases xGY _ _ _ _ hc with h1 | h1 | ⟨y, hy, h1⟩
      · cases h1
      · rw [h1] at e ⊢
        left
        refine ⟨x, hx, ?_⟩
        have h2 : ble x.lo [] = true := by
          have := (xG7 (a := c.lo) (b := x.lo) (k := maxL c.lo x.lo)).1 (xCH _)
          rw [h1, e] at this
          exact this.2
        exact xEJ h2 (xEI _)
      · right
        obtain ⟨z, hz, e2⟩ := xIv hy
        exact ⟨z, hz, by rw [e2, h1]⟩
    · rw [e]
      exact .inl ⟨x, hx, rfl⟩
  · rw [hm] at hne
    exact absurd hne (by decide)
theorem xQX {l g : List SpanL} {t : SpanL} (h : t ∈ xBT l g) : (∃ x ∈ l, x.lo = t.lo) ∨ ∃ x ∈ g, x.hi = t.lo := by
  unfold xBT at h
  obtain ⟨y, hy, e, hne⟩ := xE8 h
  rw [← e]
  exact xLE hy hne
theorem xQV (f t : Str) (s : SpanL) : (xD6 f t s).lo = t ++ s.lo.drop f.length := rfl
theorem xSx (a b : SpanL) : (xAu a b).lo = maxL a.lo b.lo ∨ xAu a b = xH3 := by
  unfold xAu
  split
  · exact .inr rfl
  · exact .inl rfl
theorem xPo {m : MsgL} (hm : MsgOk m) {l : List SpanL} (h : Nrm l) : (xFV l m).length ≤ l.length + 3 := by
  have hn := xIq h m
  unfold xFV at hn ⊢
  split
  · have := xG2 l [oneL m.key]
    simp at this
    omega
  · split
    · have := xG2 l [m.sp]
      simp at this
      omega
    · split
      · omega
      · rename_i h1 h3 h6
        rw [if_neg h1, if_neg h3, if_neg h6] at hn
        have hk := hm.k
        have h45 : m.kind = 4 ∨ m.kind = 5 := by omega
        refine Nat.le_trans (xOm hn (b := (l.map fun x => if xAD x.lo m.to = true then m.fr ++ x.lo.drop m.to.length else x.lo) ++ [upL m.to, upL m.fr, m.fr]) ?_) (by simp)
        intro s hs
        obtain ⟨y, hy, e, hne⟩ := xE8 hs
        rw [← e]
        rw [List.mem_append] at hy
        rcases hy with hy | hy
        · rcases xQX hy with ⟨x, hx, e1⟩ | ⟨x, hx, e1⟩
          · have hx2 : xAD y.lo m.to = false := by
              have h7 : inL (xBT l (xKP m)) y.lo = true := inL_iff.2 ⟨y, hy, xDn hne⟩
              rw [xBr, Bool.and_eq_true, xKP, xAT, xAb] at h7
              have h8 := h7.2
              simp only [Bool.not_eq_true', Bool.or_eq_false_iff] at h8
              exact h8.1
            rw [List.mem_append]
            left
            rw [List.mem_map]
            refine ⟨x, hx, ?_⟩
            rw [e1, if_neg (by rw [hx2]; simp)]
          · rw [List.mem_append]
            right
            rw [← e1]
            unfold xKP at hx
            split at hx
            · simp at hx
              rcases hx with rfl | rfl
              · simp [xAL]
              · simp [xAL]
            · simp at hx
              subst hx
              simp [xAL]
        · obtain ⟨s2, hs2, rfl⟩ := List.mem_map.1 hy
          obtain ⟨hne2, hbg⟩ := xHP hs2
          have hb2 := hbg _ (xDn hne2)
          unfold inTo at hs2
          rw [List.mem_filter, List.mem_map] at hs2
          obtain ⟨⟨x, hx, rfl⟩, _⟩ := hs2
          rw [xQV, List.mem_append]
          rcases xSx x (xAL m.to) with e2 | e2
          · rw [e2] at hb2 ⊢
            rcases xIO x.lo (xAL m.to).lo with e3 | e3
            · rw [e3] at hb2 ⊢
              left
              rw [List.mem_map]
              exact ⟨x, hx, by rw [if_pos hb2]⟩
            · rw [e3]
              right
              simp [xAL]
          · rw [e2] at hne2
            exact absurd hne2 (by decide)
theorem spans_len (s : SpanL) {r : List MsgL} (h : ∀ m ∈ r, MsgOk m) : (xGm s r).length ≤ 1 + 3 * r.length := by
  unfold xGm
  have key : ∀ (r : List MsgL) (l : List SpanL), Nrm l → (∀ m ∈ r, MsgOk m) → (r.foldl xFV l).length ≤ l.length + 3 * r.length := by
    intro r
    induction r with
    | nil => intro l h _; simp
    | cons m r ih =>
      intro l hl h
      have h1 := ih _ (xIq hl m) fun x hx => h x (by simp [hx])
      have h2 := xPo (h m (by simp)) hl
      simp only [List.foldl_cons, List.length_cons]
      omega
  have h1 := key r _ (xAk [s]).1 h
  have h2 := xCl [s]
  simp only [List.length_cons, List.length_nil] at h2
  omega
end Go.Pu
set_option linter.unusedVariables false
set_option linter.unusedSimpArgs false
namespace Go.Pu
theorem xPB {l : List SpanL} (h : Nrm l) (c : SpanL) : (xDj l c).length ≤ l.length + 1 := by
  have hn := xMU h c
  have : (xDj l c).length ≤ (l.map SpanL.lo ++ [c.hi]).length := xOm hn fun s hs => by
    unfold xDj at hs
    split at hs
    · exact List.mem_append.2 (.inl (List.mem_map.2 ⟨s, hs, rfl⟩))
    · obtain ⟨y, hy, e, hne⟩ := xE8 hs
      rw [← e]
      obtain ⟨x, hx, hy⟩ := List.mem_flatMap.1 hy
      unfold cutL at hy
      have two : ∀ z : SpanL, y = xAu x z → (z.lo = [] ∨ z.lo = c.hi) → y.lo ∈ l.map SpanL.lo ++ [c.hi] := by
        rintro z rfl hz
        have hm : xAu x z = ⟨maxL x.lo z.lo, xBz x.hi z.hi⟩ ∨ xAu x z = xH3 := by unfold xAu; split <;> simp
        rcases hm with hm | hm
        · rw [hm]
          rcases xIO x.lo z.lo with e2 | e2
          · simp only [e2]
            exact List.mem_append.2 (.inl (List.mem_map.2 ⟨x, hx, rfl⟩))
          · simp only [e2]
            rcases hz with hz | hz
            · rw [hz] at e2 ⊢
              have h2 : ble x.lo [] = true := by
                have := (xG7 (a := x.lo) (b := []) (k := maxL x.lo [])).1 (xCH _)
                rw [e2] at this
                exact this.1
              have h3 := xEJ h2 (xEI _)
              exact List.mem_append.2 (.inl (List.mem_map.2 ⟨x, hx, h3⟩))
            · rw [hz]
              simp
        · rw [hm] at hne
          exact absurd hne (by decide)
      rw [List.mem_append] at hy
      rcases hy with hy | hy
      · split at hy
        · cases hy
        · exact two _ (List.mem_singleton.1 hy) (.inl rfl)
      · split at hy
        · cases hy
        · exact two _ (List.mem_singleton.1 hy) (.inr rfl)
  simpa using this
end Go.Pu
set_option linter.unusedVariables false
set_option linter.unusedSimpArgs false
namespace Go.Pu
theorem xML : ∀ (l : List SpanL) (lo : Str) (out : List SpanL) (t : SpanL), t ∈ xCt lo l out → t ∈ out ∨ t.hi = [] ∨ ∃ x ∈ l, x.lo = t.hi
  | [], lo, out, t, h => by
    rw [xCt] at h
    rcases List.mem_append.1 h with h | h
    · exact .inl h
    · exact .inr (.inl (by rw [List.mem_singleton.1 h]))
  | s :: l, lo, out, t, h => by
    have h2 : t ∈ (if s.lo = [] then out else out ++ [⟨lo, s.lo⟩]) → t ∈ out ∨ s.lo = t.hi := by
      split
      · exact .inl
      · intro h
        rcases List.mem_append.1 h with h | h
        · exact .inl h
        · exact .inr (by rw [List.mem_singleton.1 h])
    rw [xCt] at h
    generalize (if s.lo = [] then out else out ++ [(⟨lo, s.lo⟩ : SpanL)]) = o2 at *
    split at h
    · rcases h2 h with h | h
      · exact .inl h
      · exact .inr (.inr ⟨s, by simp, h⟩)
    · rcases xML l s.hi o2 t h with h | h | ⟨x, hx, hxt⟩
      · rcases h2 h with h | h
        · exact .inl h
        · exact .inr (.inr ⟨s, by simp, h⟩)
      · exact .inr (.inl h)
      · exact .inr (.inr ⟨x, by simp [hx], hxt⟩)
def SpLen (n : Nat) (l : List SpanL) : Prop := ∀ s ∈ l, s.lo.length ≤ n ∧ s.hi.length ≤ n
theorem SpLen.mono {n m : Nat} (h : n ≤ m) {l : List SpanL} (hl : SpLen n l) : SpLen m l := fun s hs => ⟨Nat.le_trans (hl s hs).1 h, Nat.le_trans (hl s hs).2 h⟩
theorem SpLen.app {n : Nat} {a b : List SpanL} (ha : SpLen n a) (hb : SpLen n b) : SpLen n (a ++ b) := fun s hs => (List.mem_append.1 hs).elim (ha s) (hb s)
theorem xEq {n : Nat} {l : List SpanL} (h : SpLen n l) : SpLen n (xAO l) := by
  intro s hs
  obtain ⟨x, hx, e, _⟩ := xE8 hs
  obtain ⟨y, hy, e2⟩ := xIv hs
  rw [← e, ← e2]
  exact ⟨(h x hx).1, (h y hy).2⟩
theorem xQo (a b : Str) : xBz a b = a ∨ xBz a b = b := by unfold xBz; split <;> simp
theorem xIN {n : Nat} (hn : 1 ≤ n) {a b : SpanL} (ha : a.lo.length ≤ n ∧ a.hi.length ≤ n) (hb : b.lo.length ≤ n ∧ b.hi.length ≤ n) : (xAu a b).lo.length ≤ n ∧ (xAu a b).hi.length ≤ n := by
  unfold xAu
  split
  · exact ⟨hn, hn⟩
  · simp only
    constructor
    · rcases xIO a.lo b.lo with e | e <;> rw [e]
      · exact ha.1
      · exact hb.1
    · rcases xQo a.hi b.hi with e | e <;> rw [e]
      · exact ha.2
      · exact hb.2
theorem xNE {n : Nat} {g : List SpanL} (hg : SpLen n g) : SpLen n (xCt [] (xAO g) []) := by
  have h := xEq hg
  intro s hs
  constructor
  · rcases xGY _ _ _ _ hs with h1 | h1 | ⟨x, hx, h1⟩
    · cases h1
    · rw [h1]; simp
    · rw [← h1]; exact (h x hx).2
  · rcases xML _ _ _ _ hs with h1 | h1 | ⟨x, hx, h1⟩
    · cases h1
    · rw [h1]; simp
    · rw [← h1]; exact (h x hx).1
theorem xEv {n : Nat} (hn : 1 ≤ n) {l g : List SpanL} (hl : SpLen n l) (hg : SpLen n g) : SpLen n (xBT l g) := by
  unfold xBT
  refine xEq fun s hs => ?_
  unfold xBx at hs
  rw [List.mem_flatMap] at hs
  obtain ⟨c, hc, ht⟩ := hs
  obtain ⟨x, hx, rfl⟩ := List.mem_map.1 ht
  exact xIN hn (xNE hg c hc) (hl x hx)
structure MsgLen (b : Nat) (m : MsgL) : Prop where
  key : m.key.length ≤ b
  lo : m.sp.lo.length ≤ b
  hi : m.sp.hi.length ≤ b
  fr : m.fr.length ≤ b
  to : m.to.length ≤ b
theorem xC3 {n : Nat} {p : Str} (h : p.length ≤ n) : (xAL p).lo.length ≤ n ∧ (xAL p).hi.length ≤ n := ⟨h, Nat.le_trans (xKs p) h⟩
theorem xND {b : Nat} {m : MsgL} (hm : MsgLen b m) : SpLen b (xKP m) := by
  intro s hs
  unfold xKP at hs
  split at hs
  · simp at hs
    rcases hs with rfl | rfl
    · exact xC3 hm.to
    · exact xC3 hm.fr
  · simp at hs
    subst hs
    exact xC3 hm.to
theorem xNB {n : Nat} (hn : 1 ≤ n) {l : List SpanL} (hl : SpLen n l) {m : MsgL} (hm : m.to.length ≤ n) : SpLen n (inTo m l) := by
  intro s hs
  unfold inTo at hs
  rw [List.mem_filter, List.mem_map] at hs
  obtain ⟨⟨x, hx, rfl⟩, _⟩ := hs
  exact xIN hn (hl x hx) (xC3 hm)
theorem xJ5 {n b : Nat} {s : SpanL} (hs : s.lo.length ≤ n ∧ s.hi.length ≤ n) {f t : Str} (ht : t.length ≤ b) : (xD6 f t s).lo.length ≤ n + b ∧ (xD6 f t s).hi.length ≤ n + b := by
  unfold xD6
  simp only
  constructor
  · simp only [List.length_append, List.length_drop]; omega
  · split
    · simp only [List.length_append, List.length_drop]; omega
    · have := xKs t; omega
theorem xMl {n b : Nat} (hb : b + 1 ≤ n) {l : List SpanL} (hl : SpLen n l) {m : MsgL} (hm : MsgLen b m) : SpLen (n + b) (xFV l m) := by
  unfold xFV
  split
  · refine (xEv (by omega) hl ?_).mono (by omega)
    intro s hs
    simp at hs
    subst hs
    have := hm.key
    unfold oneL
    simp
    omega
  · split
    · refine (xEv (by omega) hl ?_).mono (by omega)
      intro s hs
      simp at hs
      subst hs
      have h1 := hm.lo
      have h2 := hm.hi
      omega
    · split
      · exact hl.mono (by omega)
      · refine xEq (SpLen.app ((xEv (by omega) hl ((xND hm).mono (by omega))).mono (by omega)) ?_)
        intro s hs
        obtain ⟨x, hx, rfl⟩ := List.mem_map.1 hs
        exact xJ5 (xNB (by omega) hl (by have := hm.to; omega) x hx) hm.fr
theorem xKv {b : Nat} : ∀ (r : List MsgL) (n : Nat) (l : List SpanL), b + 1 ≤ n → SpLen n l → (∀ m ∈ r, MsgLen b m) → SpLen (n + b * r.length) (r.foldl xFV l)
  | [], n, l, _, h, _ => by simpa using h
  | m :: r, n, l, hb, h, hm => by
    have := xKv r (n + b) _ (by omega) (xMl hb h (hm m (by simp))) fun x hx => hm x (by simp [hx])
    rw [List.foldl_cons]
    refine this.mono ?_
    rw [List.length_cons, Nat.mul_add]
    omega
end Go.Pu
set_option linter.unusedVariables false
set_option linter.unusedSimpArgs false
namespace Go.Pu
structure RawM where
  a : Nat
  b : Nat
  c : Nat
  d : Nat
  e : Nat
  f : Nat
  deriving DecidableEq
def RawM.ok (r : RawM) : Prop := r.a < 256 ∧ r.b < 256 ∧ r.c < 256 ∧ r.d < 256 ∧ r.e < 256 ∧ r.f < 256
def paths5 : List Str := [[97, 47], [98, 47], [97, 47, 98, 47], [99, 47], [100, 47]]
def xAy (n : Nat) : Str := (paths5[n % 5]?).getD []
def ends5 : List Str := [[1], [2, 0, 0], [2, 0, 1], [2, 0, 2], [3, 120]]
def endM (n : Nat) : Str := (ends5[n % 5]?).getD []
def keyM (n : Nat) : Str := xAy (n % 4) ++ endM (n / 4)
def vals5 : List Str := [[], [120], [121, 121], [49, 50, 51, 52, 53, 54, 55, 56, 57, 48], [0, 255]]
def valM (n : Nat) : Str := (vals5[n % 5]?).getD []
def minS (a b : Str) : Str := if Op.bytesLess b a = true then b else a
def spM (x : RawM) : SpanL :=
  if x.e % 4 = 0 then xAL (xAy x.b) else
  if x.e % 16 = 1 then ⟨keyM x.b, []⟩ else
  if x.e % 16 = 5 then ⟨[], []⟩ else
  if keyM x.b = keyM x.d then oneL (keyM x.b) else ⟨minS (keyM x.b) (keyM x.d), maxL (keyM x.b) (keyM x.d)⟩
def toM (x : RawM) : Str :=
  if xAD (xAy x.b) (xAy x.d) = true ∨ xAD (xAy x.d) (xAy x.b) = true then (if xAy x.b = [100, 47] then [99, 47] else [100, 47]) else xAy x.d
def xAq (x : RawM) : MsgL :=
  if x.a % 6 = 0 then ⟨1, keyM x.b, valM x.c, ⟨[], []⟩, [], [], (x.f % 8 : Nat)⟩ else
  if x.a % 6 = 1 then ⟨2, keyM x.b, [], ⟨[], []⟩, [], [], 0⟩ else
  if x.a % 6 = 2 then ⟨3, [], [], spM x, [], [], 0⟩ else
  if x.a % 6 = 3 then ⟨4, [], [], ⟨[], []⟩, xAy x.b, toM x, 0⟩ else
  if x.a % 6 = 4 then ⟨5, [], [], ⟨[], []⟩, xAy x.b, toM x, 0⟩ else ⟨6, [], [], spM x, [], [], (x.f % 8 : Nat)⟩
def xBX (l : List RawM) (n : Nat) : List MsgL := (l.take n).map xAq
theorem xCc (n : Nat) : xAy n ∈ paths5 := by
  unfold xAy paths5
  have : n % 5 < 5 := Nat.mod_lt _ (by omega)
  generalize n % 5 = m at this
  match m, this with
  | 0, _ => simp
  | 1, _ => simp
  | 2, _ => simp
  | 3, _ => simp
  | 4, _ => simp
theorem xO5 (n : Nat) : endM n ∈ ends5 := by
  unfold endM ends5
  have : n % 5 < 5 := Nat.mod_lt _ (by omega)
  generalize n % 5 = m at this
  match m, this with
  | 0, _ => simp
  | 1, _ => simp
  | 2, _ => simp
  | 3, _ => simp
  | 4, _ => simp
theorem xC4 {p : Str} (h : p ∈ paths5) : p.length ≤ 4 ∧ p ≠ [] := by
  have : ∀ p ∈ paths5, p.length ≤ 4 ∧ p ≠ [] := by decide
  exact this p h
theorem xLG (n : Nat) : (keyM n).length ≤ 7 := by
  have h1 := (xC4 (xCc (n % 4))).1
  have h2 : ∀ p ∈ ends5, p.length ≤ 3 := by decide
  have h3 := h2 _ (xO5 (n / 4))
  unfold keyM
  simp only [List.length_append]
  omega
theorem xRH (x : RawM) : toM x ∈ paths5 := by
  unfold toM
  split
  · split
    · decide
    · decide
  · exact xCc _
theorem xPn (x : RawM) : xAD (xAy x.b) (toM x) = false ∧ xAD (toM x) (xAy x.b) = false := by
  have key : ∀ p ∈ paths5, ∀ q ∈ paths5, xAD p (if xAD p q = true ∨ xAD q p = true then (if p = [100, 47] then [99, 47] else [100, 47]) else q) = false ∧ xAD (if xAD p q = true ∨ xAD q p = true then (if p = [100, 47] then [99, 47] else [100, 47]) else q) p = false := by decide
  exact key _ (xCc _) _ (xCc _)
theorem xPr (x : RawM) : xAJ (spM x) = false := by
  unfold spM
  split
  · exact xCU _
  · split
    · simp [xAJ]
    · split
      · simp [xAJ]
      · split
        · exact xFA _
        · rename_i h
          generalize keyM x.b = a at h
          generalize keyM x.d = b at h
          unfold minS maxL xAJ
          simp only
          rcases xBn a b with h1 | h1 | h1
          · have h2 := xBh h1
            simp [h1, h2, (xC6 h1).symm]
          · exact absurd h1 h
          · have h2 := xBh h1
            simp [h1, h2, (xC6 h1).symm]
theorem xJA (x : RawM) : MsgOk (xAq x) := by
  have ha := xPn x
  have h1 := (xC4 (xCc x.b)).2
  have h2 := (xC4 (xRH x)).2
  unfold xAq
  repeat' split
  all_goals refine ⟨by simp, ?_, ?_⟩
  all_goals first | (intro h; exact ha) | (intro h; exact ⟨h1, h2⟩) | (intro h; simp at h)
theorem xJ9 (x : RawM) (h : (xAq x).kind = 3 ∨ (xAq x).kind = 6) : xAJ (xAq x).sp = false := by
  have hs := xPr x
  unfold xAq at h ⊢
  repeat' split
  all_goals first | exact hs | simp_all
theorem xM6 {a b : Str} {n : Nat} (ha : a.length ≤ n) (hb : b.length ≤ n) : (minS a b).length ≤ n ∧ (maxL a b).length ≤ n := by
  unfold minS maxL
  constructor <;> split <;> assumption
theorem xQk (x : RawM) : MsgLen 8 (xAq x) := by
  have h1 := (xC4 (xCc x.b)).1
  have h2 := (xC4 (xRH x)).1
  have h3 := xLG x.b
  have h4 := xLG x.d
  have h5 := xKs (xAy x.b)
  have h6 := xM6 (n := 8) (a := keyM x.b) (b := keyM x.d) (by omega) (by omega)
  have hs : (spM x).lo.length ≤ 8 ∧ (spM x).hi.length ≤ 8 := by
    unfold spM
    repeat' split
    · exact ⟨by show (xAy x.b).length ≤ 8; omega, by show (upL (xAy x.b)).length ≤ 8; omega⟩
    · exact ⟨by simp only; omega, by simp⟩
    · simp
    · exact ⟨by show (keyM x.b).length ≤ 8; omega, by show (keyM x.b ++ [0]).length ≤ 8; simp; omega⟩
    · exact h6
  unfold xAq
  repeat' split
  all_goals (refine ⟨?_, ?_, ?_, ?_, ?_⟩ <;> simp only [List.length_nil] <;> omega)
theorem xFi {l : List RawM} {n : Nat} : ∀ m ∈ xBX l n, MsgOk m := by
  intro m hm
  obtain ⟨x, _, rfl⟩ := List.mem_map.1 hm
  exact xJA x
theorem xES {l : List RawM} {n : Nat} : ∀ m ∈ xBX l n, MsgLen 8 m := by
  intro m hm
  obtain ⟨x, _, rfl⟩ := List.mem_map.1 hm
  exact xQk x
end Go.Pu
set_option linter.unusedVariables false
set_option linter.unusedSimpArgs false
namespace Go.Pu
def covL (m : MsgL) (d : List SpanL) : Bool := (xBT (xAR m) d).length == 0
def nxtL (m : MsgL) (d : List SpanL) : List SpanL := xBT (d ++ xA2 m) (xCN m)
def xBa : List MsgL → List SpanL → List MsgL
  | [], _ => []
  | m :: r, d => if covL m d = true then xBa r d else m :: xBa r (nxtL m d)
def xFR : List MsgL → List SpanL → List SpanL
  | [], d => d
  | m :: r, d => if covL m d = true then xFR r d else xFR r (nxtL m d)
def xBV (l : List MsgL) (dead : List SpanL) : List MsgL × List SpanL := ((xBa l.reverse (xAO dead)).reverse, xFR l.reverse (xAO dead))
def xAX (l : List MsgL) : List MsgL := (xBV l []).1
theorem xGr : xAO [] = [] := rfl
theorem xDF (m : MsgL) : (xAR m).length ≤ 2 := by
  unfold xAR
  repeat' split
  all_goals simp
theorem xHJ (m : MsgL) : (xA2 m).length ≤ 2 := by unfold xA2; split; simp; exact xDF m
theorem xGu (m : MsgL) : (xCN m).length ≤ 1 := by
  unfold xCN
  repeat' split
  all_goals simp
theorem xK8 (m : MsgL) (d : List SpanL) : (nxtL m d).length ≤ d.length + 3 := by
  have h1 := xG2 (d ++ xA2 m) (xCN m)
  have h2 := xHJ m
  have h3 := xGu m
  unfold nxtL
  rw [List.length_append] at h1
  omega
theorem cov_iff {m : MsgL} {d : List SpanL} : covL m d = true ↔ ∀ k, inL (xAR m) k = true → inL d k = true := by
  unfold covL
  have e : ((xBT (xAR m) d).length == 0) = true ↔ xBT (xAR m) d = [] := by simp
  rw [e]
  constructor
  · intro h k hk
    have := xBr (xAR m) d k
    rw [h, hk] at this
    cases hd : inL d k with
    | true => rfl
    | false => rw [hd] at this; simp [inL] at this
  · intro h
    refine Nrm.ext (xD7 _ _) ⟨by simp, by simp⟩ fun k => ?_
    rw [xBr]
    cases hw : inL (xAR m) k with
    | false => simp [inL]
    | true => rw [h k hw]; simp [inL]
theorem xFB (m : MsgL) (d : List SpanL) (k : Str) : inL (nxtL m d) k = ((inL d k || inL (xA2 m) k) && !inL (xCN m) k) := by
  unfold nxtL
  rw [xBr, xCA]
structure MsgW (m : MsgL) : Prop extends MsgOk m where
  w : ∃ k, inL (xAR m) k = true
theorem xRb (x : RawM) : MsgW (xAq x) := by
  refine ⟨xJA x, ?_⟩
  have hk := (xJA x).k
  unfold xAR
  split
  · exact ⟨(xAq x).key, by rw [xAT, xFa]; simp⟩
  · split
    · exact ⟨(xAq x).fr, by rw [xAT, xAb]; simp [begins_iff]⟩
    · split
      · exact ⟨(xAq x).to, by rw [xAT, xAb]; simp [begins_iff]⟩
      · have h := xJ9 x (by omega)
        exact ⟨(xAq x).sp.lo, by rw [xAT, xDn h]; rfl⟩
theorem xLA {m : MsgL} (h : MsgW m) : covL m [] = false := by
  cases hc : covL m [] with
  | false => rfl
  | true =>
    obtain ⟨k, hk⟩ := h.w
    have := cov_iff.1 hc k hk
    simp [inL] at this
theorem xFJ : ∀ (r : List MsgL) (d : List SpanL), (xBa r d).Sublist r
  | [], d => by simp [xBa]
  | m :: r, d => by
    rw [xBa]
    split
    · exact (xFJ r d).cons m
    · exact (xFJ r _).cons_cons m
theorem xHL : ∀ (r : List MsgL) (d : List SpanL), xBa (xBa r d) d = xBa r d
  | [], d => rfl
  | m :: r, d => by
    rw [xBa]
    cases h : covL m d with
    | true => simp only [if_true]; exact xHL r d
    | false =>
      simp only [Bool.false_eq_true, if_false]
      rw [xBa, h]
      simp only [Bool.false_eq_true, if_false]
      rw [xHL r]
theorem xQB (l : List MsgL) : xAX (xAX l) = xAX l := by
  unfold xAX xBV
  simp only [List.reverse_reverse, xGr]
  rw [xHL]
theorem xDN (l : List MsgL) : (xAX l).Sublist l := by
  have := (xFJ l.reverse (xAO [])).reverse
  rw [List.reverse_reverse] at this
  exact this
theorem xCm {l : List MsgL} {m : MsgL} (h : MsgW m) : xAX (l ++ [m]) = (xBa l.reverse (nxtL m [])).reverse ++ [m] := by
  unfold xAX xBV
  simp only [List.reverse_append, List.reverse_cons, List.reverse_nil, List.nil_append, List.singleton_append, xGr]
  rw [xBa, xLA h]
  simp
theorem xMH : ∀ (r : List MsgL) (d : List SpanL), (∀ k, inL d k = true) → xBa r d = []
  | [], d, _ => rfl
  | m :: r, d, h => by
    rw [xBa, if_pos (cov_iff.2 fun k _ => h k)]
    exact xMH r d h
def xCv : MsgL := ⟨3, [], [], ⟨[], []⟩, [], [], 0⟩
theorem xO8 : MsgW xCv := ⟨⟨by simp [xCv], by simp [xCv], by simp [xCv]⟩, [], by simp [xAR, xCv, inL, hasL, xAs]⟩
theorem xPf (l : List MsgL) : xAX (l ++ [xCv]) = [xCv] := by
  rw [xCm xO8, xMH]
  · rfl
  · intro k
    rw [xFB]
    have h1 : inL (xA2 xCv) k = true := by simp [xA2, xAR, xCv, inL, hasL, xCE]
    have h2 : inL (xCN xCv) k = false := by simp [xCN, xCv, inL]
    rw [h1, h2]
    simp
theorem xRR {l : List MsgL} {m : MsgL} (h : MsgW m) (hk : m.kind = 1 ∨ m.kind = 2 ∨ m.kind = 3) : xAX (l ++ [m, m]) = xAX (l ++ [m]) := by
  have e : l ++ [m, m] = (l ++ [m]) ++ [m] := by simp
  rw [e, xCm h, xCm h]
  congr 1
  rw [List.reverse_append]
  simp only [List.reverse_cons, List.reverse_nil, List.nil_append, List.singleton_append]
  rw [xBa, if_pos]
  refine cov_iff.2 fun k hw => ?_
  rw [xFB]
  have h1 : xA2 m = xAR m := by unfold xA2; rw [if_neg (by omega)]
  have h2 : xCN m = [] := by unfold xCN; rw [if_neg (by omega), if_neg (by omega)]
  rw [h1, h2, hw]
  simp [inL]
def xA9 (s d : SpanL) : Bool := !Op.bytesLess s.lo d.lo && (d.hi == [] || (!(s.hi == []) && (Op.bytesLess s.hi d.hi || s.hi == d.hi)))
def xDk (m d : MsgL) : Bool := (xAR m).all fun s => xA9 s d.sp
theorem xGF {s d : SpanL} (hs : xAJ s = false) : xA9 s d = true ↔ ∀ k, hasL s k = true → hasL d k = true := by
  unfold xA9
  simp only [Bool.and_eq_true, Bool.not_eq_true', Bool.or_eq_true, beq_iff_eq, beq_eq_false_iff_ne, ne_eq]
  constructor
  · rintro ⟨h1, h2⟩ k hk
    obtain ⟨g1, g2⟩ := has_iff.1 hk
    have h3 : ble d.lo s.lo = true := by simp [ble, h1]
    refine has_iff.2 ⟨xBA h3 g1, ?_⟩
    rcases h2 with h2 | ⟨h2, h4⟩
    · exact .inl h2
    · have g2 := g2.resolve_left h2
      rcases h4 with h4 | h4
      · exact .inr (xAm g2 h4)
      · rw [← h4]; exact .inr g2
  · intro h
    have h1 := (has_iff.1 (h _ (xDn hs))).1
    refine ⟨by simpa [ble] using h1, ?_⟩
    by_cases hd : d.hi = []
    · exact .inl hd
    · refine .inr ?_
      have no : ∀ k, ble d.hi k = true → hasL d k = false := by
        intro k hk
        cases hh : hasL d k with
        | false => rfl
        | true =>
          have := (has_iff.1 hh).2.resolve_left hd
          simp [ble, this] at hk
      have hm : ble d.hi (maxL s.lo d.hi) = true := by
        have := (xG7 (a := s.lo) (b := d.hi) (k := maxL s.lo d.hi)).1 (xCH _)
        exact this.2
      have hm1 : ble s.lo (maxL s.lo d.hi) = true := by
        have := (xG7 (a := s.lo) (b := d.hi) (k := maxL s.lo d.hi)).1 (xCH _)
        exact this.1
      by_cases hsh : s.hi = []
      · have := h (maxL s.lo d.hi) (has_iff.2 ⟨hm1, .inl hsh⟩)
        rw [no _ hm] at this
        cases this
      · refine ⟨hsh, ?_⟩
        rcases xBn s.hi d.hi with h4 | h4 | h4
        · exact .inl h4
        · exact .inr h4
        · have h5 : Op.bytesLess (maxL s.lo d.hi) s.hi = true := by
            rcases xIO s.lo d.hi with e | e <;> rw [e]
            · exact xA5 hs hsh
            · exact h4
          have := h (maxL s.lo d.hi) (has_iff.2 ⟨hm1, .inr h5⟩)
          rw [no _ hm] at this
          cases this
theorem xGc (x : RawM) : ∀ s ∈ xAR (xAq x), xAJ s = false := by
  intro s hs
  have hk := (xJA x).k
  unfold xAR at hs
  split at hs
  · rw [List.mem_singleton.1 hs]; exact xFA _
  · split at hs
    · simp only [List.mem_cons, List.not_mem_nil, or_false] at hs
      rcases hs with rfl | rfl <;> exact xCU _
    · split at hs
      · rw [List.mem_singleton.1 hs]; exact xCU _
      · rw [List.mem_singleton.1 hs]; exact xJ9 x (by omega)
theorem xTJ (x y : RawM) (hy : (xAq y).kind = 3) : ((xAX [xAq x, xAq y]).length == 1) = xDk (xAq x) (xAq y) := by
  have e : ([xAq x, xAq y] : List MsgL) = [xAq x] ++ [xAq y] := rfl
  rw [e, xCm (xRb y)]
  have hw : xAR (xAq y) = [(xAq y).sp] := by unfold xAR; rw [if_neg (by omega), if_neg (by omega), if_neg (by omega)]
  have hkl : xA2 (xAq y) = [(xAq y).sp] := by unfold xA2; rw [if_neg (by omega), hw]
  have hrd : xCN (xAq y) = [] := by unfold xCN; rw [if_neg (by omega), if_neg (by omega)]
  have hd : ∀ k, inL (nxtL (xAq y) []) k = hasL (xAq y).sp k := by
    intro k
    rw [xFB, hkl, hrd]
    simp [inL]
  have hc : covL (xAq x) (nxtL (xAq y) []) = xDk (xAq x) (xAq y) := by
    rw [Bool.eq_iff_iff, cov_iff]
    unfold xDk
    rw [List.all_eq_true]
    constructor
    · intro h s hs
      refine (xGF (xGc x s hs)).2 fun k hk => ?_
      rw [← hd]
      exact h k (inL_iff.2 ⟨s, hs, hk⟩)
    · intro h k hk
      obtain ⟨s, hs, hk⟩ := inL_iff.1 hk
      rw [hd]
      exact (xGF (xGc x s hs)).1 (h s hs) k hk
  simp only [List.reverse_cons, List.reverse_nil, List.nil_append]
  rw [xBa, hc]
  cases xDk (xAq x) (xAq y) <;> simp [xBa]
end Go.Pu
set_option linter.unusedVariables false
namespace Go.Pu
def xAM (t : List PairL) (k : Str) : Option PairL := t.find? (fun p => p.key == k)
theorem xAH (p : PairL) (t : List PairL) (k : Str) : xAM (p :: t) k = if p.key = k then some p else xAM t k := by
  unfold xAM
  rw [List.find?_cons]
  by_cases h : p.key = k
  · have : (p.key == k) = true := by simpa using h
    rw [if_pos h, this]
  · have : (p.key == k) = false := by simpa using h
    rw [if_neg h, this]
theorem xBY {t : List PairL} {k : Str} {p : PairL} (h : xAM t k = some p) : p.key = k := by
  have := List.find?_some h
  simpa using this
theorem xKS {t : List PairL} {k : Str} {p : PairL} (h : xAM t k = some p) : p ∈ t := List.mem_of_find?_eq_some h
theorem findP_none {t : List PairL} {k : Str} : xAM t k = none ↔ ∀ p ∈ t, p.key ≠ k := by simp [xAM]
theorem Srt.tail {p : PairL} {t : List PairL} (h : Srt (p :: t)) : Srt t := (List.pairwise_cons.1 h).2
theorem Srt.head {p : PairL} {t : List PairL} (h : Srt (p :: t)) {x : PairL} (hx : x ∈ t) : Op.bytesLess p.key x.key = true := (List.pairwise_cons.1 h).1 x hx
theorem Srt.find {t : List PairL} (h : Srt t) {p : PairL} (hp : p ∈ t) : xAM t p.key = some p := by
  induction t with
  | nil => cases hp
  | cons x t ih =>
    rw [xAH]
    rcases List.mem_cons.1 hp with rfl | hp
    · rw [if_pos rfl]
    · rw [if_neg (xC6 (h.head hp)), ih h.tail hp]
theorem Srt.below {p : PairL} {t : List PairL} (h : Srt (p :: t)) {k : Str} (hk : ble k p.key = true) : xAM t k = none := by
  refine findP_none.2 (fun x hx e => ?_)
  have h1 := xFu hk (h.head hx)
  rw [e, xAs] at h1
  cases h1
theorem Srt.ext : ∀ {a b : List PairL}, Srt a → Srt b → (∀ k, xAM a k = xAM b k) → a = b
  | [], [], _, _, _ => rfl
  | [], y :: b, _, _, h => by
    have := h y.key
    rw [xAH, if_pos rfl] at this
    cases this
  | x :: a, [], _, _, h => by
    have := h x.key
    rw [xAH, if_pos rfl] at this
    cases this
  | x :: a, y :: b, ha, hb, h => by
    have hxy : x = y := by
      rcases xBn x.key y.key with h1 | h1 | h1
      · have h2 := h x.key
        rw [xAH, if_pos rfl, xAH, if_neg (fun e => xC6 h1 e.symm), hb.below (ble_iff.2 (.inl h1))] at h2
        cases h2
      · have h2 := h x.key
        rw [xAH, if_pos rfl, xAH, if_pos h1.symm] at h2
        exact Option.some.inj h2
      · have h2 := h y.key
        rw [xAH, if_neg (fun e => xC6 h1 e.symm), ha.below (ble_iff.2 (.inl h1)), xAH, if_pos rfl] at h2
        cases h2
    subst hxy
    rw [Srt.ext ha.tail hb.tail (fun k => ?_)]
    have h2 := h k
    by_cases hk : x.key = k
    · rw [ha.below (by rw [hk]; exact xCH k), hb.below (by rw [hk]; exact xCH k)]
    · rw [xAH, if_neg hk, xAH, if_neg hk] at h2
      exact h2
theorem srt_nil : Srt [] := List.Pairwise.nil
def xAp : List PairL → List PairL → List PairL
  | [], b => b
  | x :: a, [] => x :: a
  | x :: a, y :: b => if Op.bytesLess x.key y.key = true then x :: xAp a (y :: b) else if x.key = y.key then y :: xAp a b else y :: xAp (x :: a) b
termination_by a b => a.length + b.length
theorem xDG (a : List PairL) : xAp a [] = a := by cases a <;> simp [xAp]
theorem xDO (b : List PairL) : xAp [] b = b := by simp [xAp]
theorem xCe (x y : PairL) (a b : List PairL) : xAp (x :: a) (y :: b) = if Op.bytesLess x.key y.key = true then x :: xAp a (y :: b) else if x.key = y.key then y :: xAp a b else y :: xAp (x :: a) b := by
  rw [xAp]
theorem xCL {z : PairL} : ∀ (a b : List PairL), z ∈ xAp a b → z ∈ a ∨ z ∈ b
  | [], b, h => by rw [xDO] at h; exact .inr h
  | x :: a, [], h => by rw [xDG] at h; exact .inl h
  | x :: a, y :: b, h => by
    rw [xCe] at h
    split at h
    · rcases List.mem_cons.1 h with rfl | h
      · exact .inl (by simp)
      · rcases xCL a (y :: b) h with h | h
        · exact .inl (by simp [h])
        · exact .inr h
    · split at h
      · rcases List.mem_cons.1 h with rfl | h
        · exact .inr (by simp)
        · rcases xCL a b h with h | h
          · exact .inl (by simp [h])
          · exact .inr (by simp [h])
      · rcases List.mem_cons.1 h with rfl | h
        · exact .inr (by simp)
        · rcases xCL (x :: a) b h with h | h
          · exact .inl h
          · exact .inr (by simp [h])
termination_by a b => a.length + b.length
theorem xAj : ∀ {a b : List PairL}, Srt a → Srt b → Srt (xAp a b)
  | [], b, _, h => by rw [xDO]; exact h
  | x :: a, [], h, _ => by rw [xDG]; exact h
  | x :: a, y :: b, ha, hb => by
    rw [xCe]
    split
    · next h =>
      refine List.pairwise_cons.2 ⟨fun z hz => ?_, xAj ha.tail hb⟩
      rcases xCL _ _ hz with hz | hz
      · exact ha.head hz
      · rcases List.mem_cons.1 hz with rfl | hz
        · exact h
        · exact xAm h (hb.head hz)
    · next h =>
      split
      · next h2 =>
        refine List.pairwise_cons.2 ⟨fun z hz => ?_, xAj ha.tail hb.tail⟩
        rcases xCL _ _ hz with hz | hz
        · rw [← h2]; exact ha.head hz
        · exact hb.head hz
      · next h2 =>
        have hyx : Op.bytesLess y.key x.key = true := by
          rcases xBn x.key y.key with h3 | h3 | h3
          · exact absurd h3 h
          · exact absurd h3 h2
          · exact h3
        refine List.pairwise_cons.2 ⟨fun z hz => ?_, xAj ha hb.tail⟩
        rcases xCL _ _ hz with hz | hz
        · rcases List.mem_cons.1 hz with rfl | hz
          · exact hyx
          · exact xAm hyx (ha.head hz)
        · exact hb.head hz
termination_by a b => a.length + b.length
theorem xAh (k : Str) : ∀ {a b : List PairL}, Srt a → Srt b → xAM (xAp a b) k = (xAM b k).or (xAM a k)
  | [], b, _, _ => by rw [xDO]; simp [xAM]
  | x :: a, [], _, _ => by rw [xDG]; simp [xAM]
  | x :: a, y :: b, ha, hb => by
    rw [xCe]
    split
    · next h =>
      rw [xAH, xAh k ha.tail hb, xAH x a]
      split
      · next h2 =>
        have : xAM (y :: b) k = none := by
          rw [xAH, if_neg (fun e => xC6 h (h2.trans e.symm)), hb.below (by rw [← h2]; exact ble_iff.2 (.inl h))]
        rw [this]; rfl
      · rfl
    · next h =>
      split
      · next h2 =>
        rw [xAH, xAh k ha.tail hb.tail, xAH y b, xAH x a, h2]
        split
        · rfl
        · rfl
      · next h2 =>
        rw [xAH, xAh k ha hb.tail, xAH y b]
        split
        · rfl
        · rfl
termination_by a b => a.length + b.length
theorem xDH : ∀ (a b : List PairL), (xAp a b).length ≤ a.length + b.length
  | [], b => by rw [xDO]; simp
  | x :: a, [] => by rw [xDG]; simp
  | x :: a, y :: b => by
    rw [xCe]
    simp only [List.length_cons]
    split
    · have := xDH a (y :: b)
      simp only [List.length_cons] at this ⊢
      omega
    · split
      · have := xDH a b
        simp only [List.length_cons] at this ⊢
        omega
      · have := xDH (x :: a) b
        simp only [List.length_cons] at this ⊢
        omega
termination_by a b => a.length + b.length
theorem xDv : ∀ (a b : List PairL), (∀ x ∈ a, ∀ y ∈ b, x.key ≠ y.key) → (xAp a b).length = a.length + b.length
  | [], b, _ => by rw [xDO]; simp
  | x :: a, [], _ => by rw [xDG]; simp
  | x :: a, y :: b, h => by
    rw [xCe]
    simp only [List.length_cons]
    split
    · have := xDv a (y :: b) (fun p hp q hq => h p (by simp [hp]) q hq)
      simp only [List.length_cons] at this ⊢
      omega
    · split
      · next h2 => exact absurd h2 (h x (by simp) y (by simp))
      · have := xDv (x :: a) b (fun p hp q hq => h p hp q (by simp [hq]))
        simp only [List.length_cons] at this ⊢
        omega
termination_by a b => a.length + b.length
theorem xR4 {a b c : List PairL} (ha : Srt a) (hb : Srt b) (hc : Srt c) : xAp (xAp a b) c = xAp a (xAp b c) := by
  refine Srt.ext (xAj (xAj ha hb) hc) (xAj ha (xAj hb hc)) (fun k => ?_)
  rw [xAh k (xAj ha hb) hc, xAh k ha hb, xAh k ha (xAj hb hc), xAh k hb hc]
  cases xAM c k <;> rfl
theorem union_self {a : List PairL} (ha : Srt a) : xAp a a = a := by
  refine Srt.ext (xAj ha ha) ha (fun k => ?_)
  rw [xAh k ha ha]
  cases xAM a k <;> rfl
def xJt (a b : List PairL) : List PairL := b.filter (fun p => !(xAM a p.key).isSome)
theorem xEP {a b : List PairL} (h : Srt b) : Srt (xJt a b) := h.filter _
theorem xBJ {t : List PairL} (h : Srt t) (f : PairL → Bool) (k : Str) : xAM (t.filter f) k = (xAM t k).filter f := by
  induction t with
  | nil => rfl
  | cons x t ih =>
    rw [List.filter_cons, xAH]
    by_cases hk : x.key = k
    · rw [if_pos hk]
      split
      · next h2 => rw [xAH, if_pos hk, Option.filter, if_pos h2]
      · next h2 =>
        rw [ih h.tail, h.below (by rw [hk]; exact xCH k), Option.filter, Option.filter, if_neg h2]
    · rw [if_neg hk]
      split
      · rw [xAH, if_neg hk, ih h.tail]
      · rw [ih h.tail]
theorem xKR {a b : List PairL} (hb : Srt b) (k : Str) : xAM (xJt a b) k = if (xAM a k).isSome = true then none else xAM b k := by
  rw [xJt, xBJ hb]
  cases h : xAM b k with
  | none => simp
  | some p =>
    have := xBY h
    simp only [Option.filter_some, this]
    cases xAM a k <;> simp
theorem xSU {a b : List PairL} : ∀ x ∈ a, ∀ y ∈ xJt a b, x.key ≠ y.key := by
  intro x hx y hy e
  obtain ⟨_, h2⟩ := List.mem_filter.1 hy
  have h3 : xAM a y.key = none := by simpa using h2
  exact findP_none.1 h3 x hx e
theorem rest_comm {a b : List PairL} (ha : Srt a) (hb : Srt b) : xAp a (xJt a b) = xAp (xJt a b) a := by
  refine Srt.ext (xAj ha (xEP hb)) (xAj (xEP hb) ha) (fun k => ?_)
  rw [xAh k ha (xEP hb), xAh k (xEP hb) ha, xKR hb]
  cases xAM a k <;> simp
theorem rest_union {a b : List PairL} (ha : Srt a) (hb : Srt b) : (xAp a b).length = a.length + (xJt a b).length := by
  have h1 : (xAp a b).map PairL.key = (xAp a (xJt a b)).map PairL.key := by
    have key : ∀ {s t : List PairL}, Srt s → Srt t → (∀ k, (xAM s k).isSome = (xAM t k).isSome) → s.map PairL.key = t.map PairL.key := by
      intro s t hs ht h
      have f1 : ∀ {u : List PairL}, Srt u → Srt (u.map (fun p => ⟨p.key, [], 0⟩)) := by
        intro u hu
        unfold Srt
        rw [List.pairwise_map]
        exact hu
      have f2 : ∀ (u : List PairL) (k : Str), xAM (u.map (fun p => (⟨p.key, [], 0⟩ : PairL))) k = if (xAM u k).isSome = true then some ⟨k, [], 0⟩ else none := by
        intro u k
        induction u with
        | nil => simp [xAM]
        | cons x u ih =>
          rw [List.map_cons, xAH, xAH]
          by_cases hk : x.key = k
          · rw [if_pos hk, if_pos hk]; simp [hk]
          · rw [if_neg hk, if_neg hk, ih]
      have f3 := Srt.ext (f1 hs) (f1 ht) (fun k => by rw [f2, f2, h k])
      have f4 := congrArg (List.map PairL.key) f3
      simpa [List.map_map, Function.comp_def] using f4
    refine key (xAj ha hb) (xAj ha (xEP hb)) (fun k => ?_)
    rw [xAh k ha hb, xAh k ha (xEP hb), xKR hb]
    cases xAM a k <;> cases xAM b k <;> rfl
  have h2 := congrArg List.length h1
  rw [List.length_map, List.length_map, xDv _ _ xSU] at h2
  exact h2
end Go.Pu
set_option linter.unusedVariables false
namespace Go.Pu
def lbN (t : List PairL) (k : Str) : Nat := (t.takeWhile (fun p => Op.bytesLess p.key k)).length
theorem xHI (p : PairL) (t : List PairL) (k : Str) : lbN (p :: t) k = if Op.bytesLess p.key k = true then lbN t k + 1 else 0 := by
  unfold lbN
  rw [List.takeWhile_cons]
  split <;> simp [*]
theorem xNA (k : Str) : ∀ t : List PairL, lbN t k ≤ t.length
  | [] => Nat.le_refl _
  | p :: t => by
    have := xNA k t
    rw [xHI, List.length_cons]
    split <;> omega
theorem xHH {t : List PairL} (h : Srt t) (k : Str) : ∀ {m : Nat} {p : PairL}, t[m]? = some p → (Op.bytesLess p.key k = true ↔ m < lbN t k) := by
  induction t with
  | nil => intro m p hp; simp at hp
  | cons x t ih =>
    intro m p hp
    rw [xHI]
    cases m with
    | zero =>
      obtain rfl : x = p := by simpa using hp
      split <;> simp [*]
    | succ m =>
      have hp' : t[m]? = some p := by simpa using hp
      split
      · rw [ih h.tail hp']; omega
      · next hx =>
        have hmem : p ∈ t := List.mem_of_getElem? hp'
        constructor
        · intro h2
          exact absurd (xAm (h.head hmem) h2) hx
        · intro h2; omega
theorem xMF {t : List PairL} (h : Srt t) (k : Str) : (match t[lbN t k]? with | some p => decide (p.key = k) | none => false) = (xAM t k).isSome := by
  induction t with
  | nil => simp [xAM]
  | cons x t ih =>
    rw [xHI, xAH]
    by_cases hx : Op.bytesLess x.key k = true
    · rw [if_pos hx, if_neg (xC6 hx), List.getElem?_cons_succ]
      exact ih h.tail
    · rw [if_neg hx]
      simp only [List.getElem?_cons_zero]
      by_cases hk : x.key = k
      · rw [if_pos hk]; simp [hk]
      · rw [if_neg hk, h.below (by simpa [ble] using hx)]
        simp [hk]
theorem xS5 {t : List PairL} (h : Srt t) {a b : Str} (hab : ble a b = true) : lbN t a ≤ lbN t b := by
  rcases Nat.lt_or_ge (lbN t b) (lbN t a) with h1 | h1
  · have h2 : lbN t b < t.length := Nat.lt_of_lt_of_le h1 (xNA a t)
    obtain ⟨p, hp⟩ : ∃ p, t[lbN t b]? = some p := ⟨_, List.getElem?_eq_getElem h2⟩
    have h3 := (xHH h a hp).2 h1
    have h4 := (xHH h b hp).1 (xAc h3 hab)
    omega
  · exact h1
def xAV (t : List PairL) (s : SpanL) : Nat × Nat := if xAJ s = true then (0, 0) else (lbN t s.lo, if s.hi = [] then t.length else lbN t s.hi)
def xBQ (t : List PairL) (s : SpanL) : List PairL := t.filter (fun p => hasL s p.key)
def xBP (t : List PairL) (s : SpanL) : List PairL := t.filter (fun p => !hasL s p.key)
theorem xHr {t : List PairL} (h : Srt t) (s : SpanL) : (xAV t s).1 ≤ (xAV t s).2 ∧ (xAV t s).2 ≤ t.length := by
  unfold xAV
  split
  · simp
  · next he =>
    have he : xAJ s = false := by simpa using he
    dsimp only
    split
    · exact ⟨xNA _ _, Nat.le_refl _⟩
    · next hh => exact ⟨xS5 h (ble_iff.2 (.inl (xA5 he hh))), xNA _ _⟩
theorem xGJ {t : List PairL} (h : Srt t) (s : SpanL) : (∀ p ∈ t.take (xAV t s).1, hasL s p.key = false) ∧ (∀ p ∈ (t.drop (xAV t s).1).take ((xAV t s).2 - (xAV t s).1), hasL s p.key = true) ∧ ∀ p ∈ t.drop (xAV t s).2, hasL s p.key = false := by
  unfold xAV
  split
  · next he => refine ⟨by simp, by simp, fun p _ => xAa he p.key⟩
  · next he =>
    have he : xAJ s = false := by simpa using he
    dsimp only
    refine ⟨?_, ?_, ?_⟩
    · intro p hp
      obtain ⟨m, hm⟩ := List.mem_iff_getElem?.1 hp
      rw [List.getElem?_take] at hm
      split at hm
      · next hml =>
        have h1 := (xHH h s.lo hm).2 hml
        simp [hasL, h1]
      · cases hm
    · intro p hp
      obtain ⟨m, hm⟩ := List.mem_iff_getElem?.1 hp
      have key : ∀ n : Nat, ((t.drop (lbN t s.lo)).take n)[m]? = some p → m < n ∧ t[lbN t s.lo + m]? = some p := by
        intro n hm
        rw [List.getElem?_take] at hm
        split at hm
        · next hml => rw [List.getElem?_drop] at hm; exact ⟨hml, hm⟩
        · cases hm
      obtain ⟨hml, hm⟩ := key _ hm
      have h1 : ¬ Op.bytesLess p.key s.lo = true := fun h2 => by have := (xHH h s.lo hm).1 h2; omega
      have h1' : Op.bytesLess p.key s.lo = false := by simpa using h1
      refine has_iff.2 ⟨by simp [ble, h1'], ?_⟩
      by_cases hh : s.hi = []
      · exact .inl hh
      · rw [if_neg hh] at hml
        exact .inr ((xHH h s.hi hm).2 (by omega))
    · intro p hp
      obtain ⟨m, hm⟩ := List.mem_iff_getElem?.1 hp
      rw [List.getElem?_drop] at hm
      by_cases hh : s.hi = []
      · rw [if_pos hh] at hm
        have := (List.getElem?_eq_some_iff.1 hm).1
        omega
      · rw [if_neg hh] at hm
        have h1 : ¬ Op.bytesLess p.key s.hi = true := fun h2 => by have := (xHH h s.hi hm).1 h2; omega
        have h1' : Op.bytesLess p.key s.hi = false := by simpa using h1
        have h2 : (s.hi == []) = false := by simpa using hh
        simp only [hasL, h1', h2, Bool.or_self, Bool.and_false]
theorem xGI {t : List PairL} (s : SpanL) (h : Srt t) : t = t.take (xAV t s).1 ++ ((t.drop (xAV t s).1).take ((xAV t s).2 - (xAV t s).1) ++ t.drop (xAV t s).2) := by
  obtain ⟨h1, h2⟩ := xHr h s
  have e : t.drop (xAV t s).2 = (t.drop (xAV t s).1).drop ((xAV t s).2 - (xAV t s).1) := by
    rw [List.drop_drop]; congr 1; omega
  rw [e, List.take_append_drop, List.take_append_drop]
theorem xQG {t : List PairL} (h : Srt t) (s : SpanL) : (t.drop (xAV t s).1).take ((xAV t s).2 - (xAV t s).1) = xBQ t s := by
  obtain ⟨h1, h2, h3⟩ := xGJ h s
  have e := xGI s h
  generalize (xAV t s).1 = a at *
  generalize (xAV t s).2 = b at *
  unfold xBQ
  conv => rhs; rw [e]
  rw [List.filter_append, List.filter_append, List.filter_eq_nil_iff.2 (fun p hp => by simp [h1 p hp]), List.filter_eq_self.2 h2, List.filter_eq_nil_iff.2 (fun p hp => by simp [h3 p hp])]
  simp
theorem xTH {t : List PairL} (h : Srt t) (s : SpanL) : t.take (xAV t s).1 ++ t.drop (xAV t s).2 = xBP t s := by
  obtain ⟨h1, h2, h3⟩ := xGJ h s
  have e := xGI s h
  generalize (xAV t s).1 = a at *
  generalize (xAV t s).2 = b at *
  unfold xBP
  conv => rhs; rw [e]
  rw [List.filter_append, List.filter_append, List.filter_eq_self.2 (fun p hp => by simp [h1 p hp]), List.filter_eq_nil_iff.2 (fun p hp => by simp [h2 p hp]), List.filter_eq_self.2 (fun p hp => by simp [h3 p hp])]
  simp
theorem xJu {t : List PairL} (h : Srt t) (s : SpanL) : Srt (xBQ t s) := h.filter _
theorem xCG {t : List PairL} (h : Srt t) (s : SpanL) : Srt (xBP t s) := h.filter _
theorem xPg (t : List PairL) (s : SpanL) : (xBQ t s).length + (xBP t s).length = t.length := by
  unfold xBQ xBP
  induction t with
  | nil => rfl
  | cons x t ih =>
    rw [List.filter_cons, List.filter_cons]
    cases hasL s x.key <;> simp <;> omega
theorem xNU {t : List PairL} (h : Srt t) (s : SpanL) : xAp (xBQ t s) (xBP t s) = t := by
  refine Srt.ext (xAj (xJu h s) (xCG h s)) h (fun k => ?_)
  rw [xAh k (xJu h s) (xCG h s), xBQ, xBP, xBJ h, xBJ h]
  cases hf : xAM t k with
  | none => rfl
  | some p =>
    simp only [Option.filter_some]
    cases hasL s p.key <;> rfl
theorem xQF (t : List PairL) (s : SpanL) : xBQ (xBP t s) s = [] := by
  unfold xBQ xBP
  rw [List.filter_filter, List.filter_eq_nil_iff]
  intro p _
  cases hasL s p.key <;> simp
theorem xSX (t : List PairL) (s u : SpanL) : xBQ (xBQ t s) u = xBQ (xBQ t u) s := by
  unfold xBQ
  rw [List.filter_filter, List.filter_filter]
  congr 1
  funext p
  rw [Bool.and_comm]
theorem drop_drop (t : List PairL) (s u : SpanL) : xBP (xBP t s) u = xBP (xBP t u) s := by
  unfold xBP
  rw [List.filter_filter, List.filter_filter]
  congr 1
  funext p
  rw [Bool.and_comm]
def mvP (f t : Str) (p : PairL) : PairL := ⟨t ++ p.key.drop f.length, p.val, p.stamp⟩
def srcL (t : List PairL) (f : Str) : List PairL := t.filter (fun p => xAD p.key f)
def xBS (t : List PairL) (f to : Str) : List PairL := (srcL t f).map (mvP f to)
theorem xJv (t : List PairL) (f : Str) : xBQ t (xAL f) = srcL t f := by
  unfold xBQ srcL
  congr 1
  funext p
  rw [xAb]
theorem xEM {t : List PairL} {f : Str} {p : PairL} (h : p ∈ srcL t f) : xAD p.key f = true := (List.mem_filter.1 h).2
theorem xSB {t : List PairL} (h : Srt t) (f : Str) : Srt (srcL t f) := h.filter _
theorem xG1 {t : List PairL} (h : Srt t) (f to : Str) : Srt (xBS t f to) := by
  unfold xBS Srt
  rw [List.pairwise_map]
  refine List.Pairwise.imp_of_mem ?_ (xSB h f)
  intro a b ha hb hab
  obtain ⟨r1, h1⟩ := begins_iff.1 (xEM ha)
  obtain ⟨r2, h2⟩ := begins_iff.1 (xEM hb)
  simp only [mvP]
  rw [h1, h2] at hab ⊢
  rw [xEH] at hab ⊢
  rw [List.drop_left, List.drop_left]
  exact hab
theorem moved_back {t : List PairL} (f to : Str) : xBS (xBS t f to) to f = srcL t f := by
  have h1 : srcL (xBS t f to) to = xBS t f to := by
    unfold srcL
    refine List.filter_eq_self.2 (fun p hp => ?_)
    obtain ⟨q, _, rfl⟩ := List.mem_map.1 hp
    exact begins_iff.2 ⟨_, rfl⟩
  rw [xBS, h1, xBS, List.map_map]
  refine (List.map_congr_left (fun p hp => ?_)).trans (List.map_id _)
  obtain ⟨r, hr⟩ := begins_iff.1 (xEM hp)
  obtain ⟨k, v, st⟩ := p
  simp only [mvP, Function.comp_def, id]
  dsimp only at hr
  rw [hr]
  simp
end Go.Pu
set_option linter.unusedVariables false
namespace Go.Pu
theorem xB3 {p : PairL} {t : List PairL} (h : Srt t) (k : Str) : xAM (putL t p) k = if p.key = k then some p else xAM t k := by
  rw [xFZ]
  induction t with
  | nil => rw [insL, xAH]
  | cons x t ih =>
    rw [insL]
    split
    · next hx =>
      rw [xAH, ih h.tail, xAH]
      by_cases hk : x.key = k
      · rw [if_pos hk, if_pos hk, if_neg (fun e => xC6 hx (hk.trans e.symm))]
      · rw [if_neg hk, if_neg hk]
    · next hx =>
      rw [xAH]
      by_cases hk : p.key = k
      · rw [if_pos hk, if_pos hk]
      · rw [if_neg hk, if_neg hk, xBJ h]
        cases hf : xAM (x :: t) k with
        | none => rfl
        | some y =>
          have := xBY hf
          rw [Option.filter_some, if_pos]
          simpa [this] using fun e => hk e.symm
theorem xOo {t : List PairL} (h : Srt t) {k : Str} (hf : (xAM t k).isSome = true) : ∃ p, t[lbN t k]? = some p ∧ xAM t k = some p ∧ p.key = k := by
  have h1 := xMF h k
  rw [hf] at h1
  cases hg : t[lbN t k]? with
  | none => rw [hg] at h1; cases h1
  | some p =>
    rw [hg] at h1
    have hk : p.key = k := by simpa using h1
    exact ⟨p, rfl, by rw [← hk]; exact h.find (List.mem_of_getElem? hg), hk⟩
theorem xJw {p : PairL} {t : List PairL} (h : Srt t) (hf : (xAM t p.key).isSome = true) : t.set (lbN t p.key) p = putL t p := by
  rw [xFZ]
  induction t with
  | nil => cases hf
  | cons x t ih =>
    rw [xHI, insL]
    by_cases hx : Op.bytesLess x.key p.key = true
    · rw [if_pos hx, if_pos hx, List.set_cons_succ, ih h.tail]
      rw [xAH, if_neg (xC6 hx)] at hf
      exact hf
    · rw [if_neg hx, if_neg hx, List.set_cons_zero]
      have hk : x.key = p.key := by
        rw [xAH] at hf
        by_cases hk : x.key = p.key
        · exact hk
        · rw [if_neg hk, h.below (by simpa [ble] using hx)] at hf
          cases hf
      have hne : ∀ y ∈ t, (!(y.key == p.key)) = true := fun y hy => by
        have := xC6 (h.head hy)
        rw [hk] at this
        simpa using fun e => this e.symm
      rw [List.filter_cons, if_neg (by simp [hk]), List.filter_eq_self.2 hne]
theorem xOH {p : PairL} {t : List PairL} (h : Srt t) (hf : (xAM t p.key).isSome = false) : t.take (lbN t p.key) ++ p :: t.drop (lbN t p.key) = putL t p := by
  rw [xFZ]
  induction t with
  | nil => simp [insL]
  | cons x t ih =>
    rw [xHI, insL]
    by_cases hx : Op.bytesLess x.key p.key = true
    · rw [if_pos hx, if_pos hx, List.take_succ_cons, List.drop_succ_cons, List.cons_append, ih h.tail]
      rw [xAH, if_neg (xC6 hx)] at hf
      exact hf
    · rw [if_neg hx, if_neg hx, List.take_zero, List.drop_zero, List.nil_append]
      have h1 : xAM (x :: t) p.key = none := by simpa using hf
      have h2 := findP_none.1 h1
      rw [List.filter_eq_self.2 (fun y hy => by simpa using h2 y hy)]
def delT (t : List PairL) (k : Str) : List PairL := t.filter (fun p => !(p.key == k))
theorem xQ2 (t : List PairL) (k : Str) : xBP t (oneL k) = delT t k := by
  unfold xBP delT
  refine List.filter_congr (fun p _ => ?_)
  rw [xFa]
theorem xLK {t : List PairL} (h : Srt t) (k : Str) : Srt (delT t k) := h.filter _
theorem xTI (t : List PairL) (k : Str) : (delT t k).length ≤ t.length := List.length_filter_le ..
theorem xJN {t : List PairL} (h : Srt t) (k x : Str) : xAM (delT t k) x = if k = x then none else xAM t x := by
  rw [delT, xBJ h]
  cases hf : xAM t x with
  | none => simp
  | some p =>
    have := xBY hf
    subst this
    by_cases hk : k = p.key
    · simp [hk]
    · rw [if_neg hk, Option.filter_some, if_pos]
      simpa using fun e => hk e.symm
theorem put_put {p q : PairL} {t : List PairL} (h : Srt t) (hk : p.key = q.key) : putL (putL t p) q = putL t q := by
  refine Srt.ext (xA4 (xA4 h)) (xA4 h) (fun k => ?_)
  rw [xB3 (xA4 h), xB3 h, xB3 h, hk]
  by_cases h1 : q.key = k <;> simp [h1]
theorem put_comm {p q : PairL} {t : List PairL} (h : Srt t) (hk : p.key ≠ q.key) : putL (putL t p) q = putL (putL t q) p := by
  refine Srt.ext (xA4 (xA4 h)) (xA4 (xA4 h)) (fun k => ?_)
  rw [xB3 (xA4 h), xB3 h, xB3 (xA4 h), xB3 h]
  by_cases h1 : q.key = k
  · have h2 : p.key ≠ k := fun e => hk (e.trans h1.symm)
    simp [h1, h2]
  · simp [h1]
theorem del_put {p : PairL} {t : List PairL} (h : Srt t) : delT (putL t p) p.key = delT t p.key := by
  refine Srt.ext (xLK (xA4 h) _) (xLK h _) (fun k => ?_)
  rw [xJN (xA4 h), xJN h, xB3 h]
  by_cases h1 : p.key = k <;> simp [h1]
theorem xQH (b : List PairL) : ∀ {a : List PairL}, Srt a → Srt (b.foldl putL a) := by
  induction b with
  | nil => intro a h; exact h
  | cons x b ih => intro a h; exact ih (xA4 h)
theorem xO2 {b : List PairL} (hb : Srt b) : ∀ {a : List PairL}, Srt a → ∀ k, xAM (b.foldl putL a) k = (xAM b k).or (xAM a k) := by
  induction b with
  | nil => intro a _ k; simp [xAM]
  | cons x b ih =>
    intro a ha k
    rw [List.foldl_cons, ih hb.tail (xA4 ha), xB3 ha, xAH]
    by_cases hk : x.key = k
    · rw [if_pos hk, if_pos hk, hb.below (by rw [hk]; exact xCH k)]; rfl
    · rw [if_neg hk, if_neg hk]
theorem xID {a b : List PairL} (ha : Srt a) (hb : Srt b) : b.foldl putL a = xAp a b :=
  Srt.ext (xQH b ha) (xAj ha hb) (fun k => by rw [xO2 hb ha, xAh k ha hb])
end Go.Pu
set_option linter.unusedVariables false
set_option linter.unusedSimpArgs false
namespace Go.Pu
structure FolL where
  key : Str
  known : Bool
  has : Bool
  val : Str
  std : Bool
  st : Int
  deriving DecidableEq
def xDI (f : FolL) (n : Int) : FolL := if f.std = true then f else { f with std := true, st := n }
def xFT (f : FolL) (m : MsgL) : FolL :=
  if m.kind = 1 then (if m.key = f.key then { xDI f m.n with known := true, has := true, val := m.val } else f) else
  if m.kind = 2 then (if m.key = f.key then { f with known := true } else f) else
  if m.kind = 3 then (if hasL m.sp f.key = true then { f with known := true } else f) else
  if m.kind = 6 then (if hasL m.sp f.key = true then xDI f m.n else f) else
  if m.kind = 4 ∧ xAD f.key m.fr = true then { f with known := true } else
  if xAD f.key m.to = true then { f with key := m.fr ++ f.key.drop m.to.length } else f
def xAe : FolL → List MsgL → FolL
  | f, [] => f
  | f, m :: r => if f.known = true then f else xAe (xFT f m) r
theorem xA8 {f : FolL} (h : f.known = true) (r : List MsgL) : xAe f r = f := by
  cases r with
  | nil => rfl
  | cons m r => rw [xAe, if_pos h]
theorem xBm {f : FolL} (h : f.known = false) (m : MsgL) (r : List MsgL) : xAe f (m :: r) = xAe (xFT f m) r := by rw [xAe, if_neg (by rw [h]; simp)]
theorem xFO : ∀ (a b : List MsgL) (f : FolL), xAe f (a ++ b) = xAe (xAe f a) b
  | [], b, f => rfl
  | m :: a, b, f => by
    cases h : f.known with
    | true => rw [xA8 h, xA8 h, xA8 h]
    | false => rw [List.cons_append, xBm h, xBm h, xFO a b]
structure FoundL where
  known : Bool
  has : Bool
  pair : PairL
  key : Str
  std : Bool
  st : Int
  deriving DecidableEq
def xOX : PairL := ⟨[], [], 0⟩
def xEh (k : Str) (f : FolL) : FoundL :=
  if f.known = true ∧ f.has = false then ⟨true, false, xOX, [], false, 0⟩ else
  if f.known = true then ⟨true, true, ⟨k, f.val, f.st⟩, [], false, 0⟩ else ⟨false, false, ⟨k, [], 0⟩, f.key, f.std, f.st⟩
def fol0 (k : Str) : FolL := ⟨k, false, false, [], false, 0⟩
def keyL (k : Str) (l : List MsgL) : FoundL := xEh k (xAe (fol0 k) l.reverse)
def valueL (f : FoundL) (p : PairL) (has : Bool) : PairL × Bool :=
  if f.known = true then (f.pair, f.has) else if has = false then (xOX, false) else (⟨f.pair.key, p.val, if f.std = true then f.st else p.stamp⟩, true)
theorem xMo (f : FolL) (n : Int) : (xDI f n).key = f.key ∧ (xDI f n).known = f.known ∧ (xDI f n).has = f.has ∧ (xDI f n).val = f.val := by unfold xDI; split <;> simp
theorem xKh {f : FolL} {m : MsgL} {k : Str} (h : bkL m f.key = some k) : (xFT f m).key = k ∧ (xFT f m).known = f.known ∧ (xFT f m).has = f.has ∧ (xFT f m).val = f.val := by
  unfold bkL at h
  unfold xFT
  by_cases h1 : m.kind = 1
  · simp only [h1, true_or, if_true] at h ⊢
    split at h
    · cases h
    · rename_i hk
      cases h
      rw [if_neg hk]
      simp
  · by_cases h2 : m.kind = 2
    · simp only [h2, or_true, if_true] at h
      simp only [h2, if_true, if_neg (show ¬ (2 : Int) = 1 by decide)]
      split at h
      · cases h
      · rename_i hk
        cases h
        rw [if_neg hk]
        simp
    · rw [if_neg (by simp [h1, h2])] at h
      rw [if_neg h1, if_neg h2]
      by_cases h3 : m.kind = 3
      · rw [if_pos h3] at h ⊢
        split at h
        · cases h
        · rename_i hk
          cases h
          rw [if_neg hk]
          simp
      · rw [if_neg h3] at h ⊢
        by_cases h6 : m.kind = 6
        · rw [if_pos h6] at h ⊢
          cases h
          split
          · exact xMo f m.n
          · simp
        · rw [if_neg h6] at h ⊢
          split at h
          · cases h
          · rename_i h4
            rw [if_neg h4]
            split at h
            · rename_i h5
              rw [if_pos h5]
              cases h
              simp
            · rename_i h5
              rw [if_neg h5]
              cases h
              simp
theorem xHt {f : FolL} {m : MsgL} (h : bkL m f.key = none) : (xFT f m).known = true := by
  unfold bkL at h
  unfold xFT
  by_cases h1 : m.kind = 1
  · simp only [h1, true_or, if_true] at h ⊢
    split at h
    · rename_i hk
      rw [if_pos hk]
    · cases h
  · by_cases h2 : m.kind = 2
    · simp only [h2, or_true, if_true] at h
      simp only [h2, if_true, if_neg (show ¬ (2 : Int) = 1 by decide)]
      split at h
      · rename_i hk
        rw [if_pos hk]
      · cases h
    · rw [if_neg (by simp [h1, h2])] at h
      rw [if_neg h1, if_neg h2]
      by_cases h3 : m.kind = 3
      · rw [if_pos h3] at h ⊢
        split at h
        · rename_i hk
          rw [if_pos hk]
        · cases h
      · rw [if_neg h3] at h ⊢
        by_cases h6 : m.kind = 6
        · rw [if_pos h6] at h; cases h
        · rw [if_neg h6] at h ⊢
          split at h
          · rename_i h4
            rw [if_pos h4]
          · split at h <;> cases h
theorem xE1 : ∀ (r : List MsgL) (f : FolL), f.known = false → (xAe f r).known = (bksL r f.key).isNone ∧ ∀ k, bksL r f.key = some k → (xAe f r).key = k
  | [], f, h => ⟨by simp [xAe, bksL, h], fun k hk => by simp [bksL] at hk; exact hk⟩
  | m :: r, f, h => by
    rw [xBm h, bksL]
    cases hb : bkL m f.key with
    | none =>
      have := xHt hb
      rw [xA8 this]
      exact ⟨by simp [this], fun k hk => by simp at hk⟩
    | some k =>
      obtain ⟨e1, e2, _⟩ := xKh hb
      have := xE1 r (xFT f m) (by rw [e2, h])
      rw [e1] at this
      exact this
theorem xOq {k : Str} {l : List MsgL} : (keyL k l).known = (bksL l.reverse k).isNone := by
  have h := (xE1 l.reverse (fol0 k) rfl).1
  have e : (keyL k l).known = (xAe (fol0 k) l.reverse).known := by
    unfold keyL xEh
    cases h1 : (xAe (fol0 k) l.reverse).known <;> cases h2 : (xAe (fol0 k) l.reverse).has <;> simp
  rw [e, h]
  rfl
theorem xS6 {k x : Str} {l : List MsgL} (h : bksL l.reverse k = some x) : (keyL k l).key = x ∧ (keyL k l).known = false := by
  obtain ⟨h1, h2⟩ := xE1 l.reverse (fol0 k) rfl
  have h3 := h2 x h
  rw [show (fol0 k).key = k from rfl, h] at h1
  have h4 : (xAe (fol0 k) l.reverse).known = false := h1
  have e : keyL k l = ⟨false, false, ⟨k, [], 0⟩, (xAe (fol0 k) l.reverse).key, (xAe (fol0 k) l.reverse).std, (xAe (fol0 k) l.reverse).st⟩ := by
    unfold keyL xEh
    rw [if_neg (by rw [h4]; simp), if_neg (by rw [h4]; simp)]
  rw [e]
  exact ⟨h3, rfl⟩
def xEY (s : Bool) (n : Int) (f : FolL) : FolL := if s = true then { f with std := true, st := n } else f
theorem xMn (s : Bool) (n : Int) (f : FolL) (k : Int) : xDI (xEY s n f) k = xEY s n (xDI f k) := by
  obtain ⟨a1, a2, a3, a4, a5, a6⟩ := f
  unfold xEY xDI
  cases s <;> cases a5 <;> simp
theorem xPZ (s : Bool) (n : Int) (f : FolL) (m : MsgL) : xFT (xEY s n f) m = xEY s n (xFT f m) := by
  have e : (xEY s n f).key = f.key := by unfold xEY; split <;> rfl
  unfold xFT
  rw [e, xMn]
  cases s
  · simp [xEY]
  · simp only [xEY, if_true]
    repeat' split
    all_goals rfl
theorem xHX (s : Bool) (n : Int) : ∀ (r : List MsgL) (f : FolL), xAe (xEY s n f) r = xEY s n (xAe f r)
  | [], f => rfl
  | m :: r, f => by
    have e : (xEY s n f).known = f.known := by unfold xEY; split <;> rfl
    cases h : f.known with
    | true => rw [xA8 h, xA8 (by rw [e, h])]
    | false => rw [xBm h, xBm (by rw [e, h]), xPZ, xHX s n r]
theorem xGE : ∀ (r : List MsgL) (f : FolL), f.known = false → f.has = false → f.val = [] → (xAe f r).known = false → (xAe f r).has = false ∧ (xAe f r).val = []
  | [], f, _, h2, h3, _ => ⟨h2, h3⟩
  | m :: r, f, h1, h2, h3, h4 => by
    rw [xBm h1] at h4 ⊢
    cases hb : bkL m f.key with
    | none =>
      rw [xA8 (xHt hb), xHt hb] at h4
      cases h4
    | some k =>
      obtain ⟨e1, e2, e3, e4⟩ := xKh hb
      exact xGE r _ (e2.trans h1) (e3.trans h2) (e4.trans h3) h4
theorem xHY : ∀ (r : List MsgL) (f : FolL), (f.std = false → f.st = 0) → ((xAe f r).std = false → (xAe f r).st = 0)
  | [], f, h => h
  | m :: r, f, h => by
    cases hk : f.known with
    | true => rw [xA8 hk]; exact h
    | false =>
      rw [xBm hk]
      refine xHY r _ ?_
      have hs : (xDI f m.n).std = false → (xDI f m.n).st = 0 := by
        unfold xDI
        split
        · exact h
        · intro h; cases h
      unfold xFT
      repeat' split
      all_goals first | exact h | exact hs
def xRe (k : Str) (late : FoundL) (early : FoundL) : FoundL :=
  let w := early
  let w := if early.known = false ∨ early.has = true then { w with pair := { w.pair with key := k } } else w
  let w := if early.known = false ∧ late.std = true then { w with std := true, st := late.st } else w
  if early.has = true ∧ late.std = true then { w with pair := { w.pair with stamp := late.st } } else w
theorem key_parts (k : Str) (a b : List MsgL) : keyL k (a ++ b) = if (keyL k b).known = true then keyL k b else xRe k (keyL k b) (keyL (keyL k b).key a) := by
  have e : keyL k (a ++ b) = xEh k (xAe (xAe (fol0 k) b.reverse) a.reverse) := by
    unfold keyL
    rw [List.reverse_append, xFO]
  rw [e]
  generalize hF : xAe (fol0 k) b.reverse = F
  have hb : keyL k b = xEh k F := by unfold keyL; rw [hF]
  rw [hb]
  have fr := xGE b.reverse (fol0 k) rfl rfl rfl
  rw [hF] at fr
  have s0 := xHY b.reverse (fol0 k) (fun _ => rfl)
  rw [hF] at s0
  cases hk : F.known with
  | true =>
    have : (xEh k F).known = true := by unfold xEh; cases hh : F.has <;> simp [hk, hh]
    rw [if_pos this, xA8 hk]
  | false =>
    have e2 : xEh k F = ⟨false, false, ⟨k, [], 0⟩, F.key, F.std, F.st⟩ := by unfold xEh; simp [hk]
    rw [e2]
    simp only [Bool.false_eq_true, if_false]
    have e3 : F = xEY F.std F.st (fol0 F.key) := by
      obtain ⟨h1, h2⟩ := fr hk
      obtain ⟨a1, a2, a3, a4, a5, a6⟩ := F
      simp only at h1 h2 hk s0
      subst h1 h2 hk
      cases a5
      · rw [s0 rfl]; rfl
      · rfl
    have e4 : xAe F a.reverse = xEY F.std F.st (xAe (fol0 F.key) a.reverse) := by
      conv => lhs; rw [e3]
      exact xHX _ _ _ _
    rw [e4]
    unfold keyL
    generalize xAe (fol0 F.key) a.reverse = G
    obtain ⟨a1, a2, a3, a4, a5, a6⟩ := G
    unfold xRe xEY xEh
    cases a2 <;> cases a3 <;> cases F.std <;> simp [xOX]
end Go.Pu
set_option linter.unusedVariables false
set_option linter.unusedSimpArgs false
namespace Go.Pu
def xCi (m : MsgL) (p : PairL) : PairL := if hasL m.sp p.key = true then { p with stamp := m.n } else p
def xCY (t : List PairL) (m : MsgL) : List PairL := xAp (xBP t (xAL m.to)) (xBS t m.fr m.to)
def xC8 (t : List PairL) (m : MsgL) : List PairL :=
  if m.kind = 1 then putL t ⟨m.key, m.val, m.n⟩ else
  if m.kind = 2 then delT t m.key else
  if m.kind = 3 then xBP t m.sp else
  if m.kind = 6 then t.map (xCi m) else
  if m.kind = 4 then xBP (xCY t m) (xAL m.fr) else xCY t m
def allT (t : List PairL) (l : List MsgL) : List PairL := l.foldl xC8 t
theorem xFX (m : MsgL) (p : PairL) : (xCi m p).key = p.key := by unfold xCi; split <;> rfl
theorem xMO {g : PairL → PairL} (hg : ∀ p, (g p).key = p.key) : ∀ (t : List PairL) (k : Str), xAM (t.map g) k = (xAM t k).map g
  | [], k => rfl
  | p :: t, k => by
    rw [List.map_cons, xAH, xAH, hg]
    split
    · rfl
    · exact xMO hg t k
theorem xSy {g : PairL → PairL} (hg : ∀ p, (g p).key = p.key) {t : List PairL} (h : Srt t) : Srt (t.map g) := by
  unfold Srt at *
  rw [List.pairwise_map]
  exact h.imp fun {a b} hab => by rw [hg, hg]; exact hab
theorem xFS {t : List PairL} (h : Srt t) (m : MsgL) : Srt (xCY t m) := xAj (xCG h _) (xG1 h _ _)
theorem xHu {t : List PairL} (h : Srt t) (m : MsgL) : Srt (xC8 t m) := by
  unfold xC8
  repeat' split
  · exact xA4 h
  · exact xLK h _
  · exact xCG h _
  · exact xSy (xFX m) h
  · exact xCG (xFS h m) _
  · exact xFS h m
theorem xBo : ∀ (l : List MsgL) {t : List PairL}, Srt t → Srt (allT t l)
  | [], t, h => h
  | m :: l, t, h => xBo l (xHu h m)
theorem xIZ (f to : Str) : ∀ (t : List PairL) (r : Str), xAM (xBS t f to) (to ++ r) = (xAM t (f ++ r)).map (mvP f to)
  | [], r => rfl
  | p :: t, r => by
    have ih := xIZ f to t r
    unfold xBS srcL at ih ⊢
    rw [List.filter_cons]
    cases hb : xAD p.key f with
    | true =>
      obtain ⟨q, hq⟩ := begins_iff.1 hb
      simp only [if_true]
      rw [List.map_cons, xAH, xAH]
      have e : (mvP f to p).key = to ++ q := by unfold mvP; simp only; rw [hq]; simp
      rw [e, hq]
      by_cases h : q = r
      · subst h; simp
      · rw [if_neg (by simpa using h), if_neg (by simpa using h)]
        exact ih
    | false =>
      simp only [Bool.false_eq_true, if_false]
      rw [ih, xAH, if_neg]
      intro e
      rw [e, xBN] at hb
      cases hb
theorem xEj {f to k : Str} (h : xAD k to = false) (t : List PairL) : xAM (xBS t f to) k = none := by
  rw [findP_none]
  intro p hp e
  unfold xBS at hp
  obtain ⟨q, hq, rfl⟩ := List.mem_map.1 hp
  rw [← e] at h
  have : xAD (mvP f to q).key to = true := xBN _ _
  rw [this] at h
  cases h
theorem xDU {t : List PairL} (h : Srt t) (s : SpanL) (k : Str) : xAM (xBP t s) k = if hasL s k = true then none else xAM t k := by
  unfold xBP
  rw [xBJ h]
  cases hf : xAM t k with
  | none => simp
  | some p =>
    have := xBY hf
    rw [Option.filter_some, this]
    cases hasL s k <;> simp
theorem xTF {t : List PairL} (h : Srt t) (s : SpanL) (k : Str) : xAM (xBQ t s) k = if hasL s k = true then xAM t k else none := by
  unfold xBQ
  rw [xBJ h]
  cases hf : xAM t k with
  | none => simp
  | some p =>
    have := xBY hf
    rw [Option.filter_some, this]
theorem xNF {t : List PairL} (h : Srt t) {m : MsgL} (k : Str) : xAM (xCY t m) k = if xAD k m.to = true then (xAM t (m.fr ++ k.drop m.to.length)).map (mvP m.fr m.to) else xAM t k := by
  unfold xCY
  rw [xAh k (xCG h _) (xG1 h _ _), xDU h, xAb]
  cases hb : xAD k m.to with
  | true =>
    obtain ⟨r, rfl⟩ := begins_iff.1 hb
    rw [xIZ]
    simp
  | false =>
    rw [xEj hb]
    simp
def effP (m : MsgL) (k : Str) (f : Str → Option PairL) : Option PairL :=
  match bkL m k with
  | none => if m.kind = 1 then some ⟨k, m.val, m.n⟩ else none
  | some x => (f x).map fun p => ⟨k, p.val, if m.kind = 6 ∧ hasL m.sp k = true then m.n else p.stamp⟩
theorem find_eta {t : List PairL} {k : Str} : (xAM t k).map (fun p => (⟨k, p.val, p.stamp⟩ : PairL)) = xAM t k := by
  cases h : xAM t k with
  | none => rfl
  | some p => have := xBY h; subst this; rfl
theorem xDV {t : List PairL} (h : Srt t) {m : MsgL} (hm : MsgOk m) (k : Str) : xAM (xC8 t m) k = effP m k (xAM t) := by
  unfold xC8 effP bkL
  by_cases h1 : m.kind = 1
  · simp only [h1, true_or, if_true]
    rw [xB3 h]
    by_cases hk : m.key = k
    · rw [if_pos hk, if_pos hk]; subst hk; rfl
    · rw [if_neg hk, if_neg hk]
      simp only [show ¬ ((1 : Int) = 6) by decide, false_and, if_false]
      exact find_eta.symm
  · by_cases h2 : m.kind = 2
    · simp only [h2, or_true, if_true, show ¬ ((2 : Int) = 1) by decide, if_false]
      rw [xJN h]
      by_cases hk : m.key = k
      · rw [if_pos hk, if_pos hk]
      · rw [if_neg hk, if_neg hk]
        simp only [show ¬ ((2 : Int) = 6) by decide, false_and, if_false]
        exact find_eta.symm
    · simp only [h1, h2, or_self, if_false]
      by_cases h3 : m.kind = 3
      · simp only [h3, if_true]
        rw [xDU h]
        cases hk : hasL m.sp k with
        | true => simp
        | false =>
          simp only [Bool.false_eq_true, if_false, show ¬ ((3 : Int) = 6) by decide, false_and]
          exact find_eta.symm
      · simp only [h3, if_false]
        by_cases h6 : m.kind = 6
        · simp only [h6, if_true, true_and]
          rw [xMO (xFX m)]
          cases hf : xAM t k with
          | none => rfl
          | some p =>
            have := xBY hf
            subst this
            simp only [Option.map_some, xCi]
            split <;> rfl
        · simp only [h6, if_false, false_and]
          have hk := hm.k
          have h45 : m.kind = 4 ∨ m.kind = 5 := by omega
          obtain ⟨ap1, ap2⟩ := hm.ap h45
          have mv : ∀ r, (xAM t (m.fr ++ r)).map (mvP m.fr m.to) = (xAM t (m.fr ++ r)).map fun p => ⟨m.to ++ r, p.val, p.stamp⟩ := by
            intro r
            cases hf : xAM t (m.fr ++ r) with
            | none => rfl
            | some p =>
              have := xBY hf
              simp [mvP, this]
          have cl : xAM (xCY t m) k = (if xAD k m.to = true then some (m.fr ++ k.drop m.to.length) else some k).elim none fun x => (xAM t x).map fun p => (⟨k, p.val, p.stamp⟩ : PairL) := by
            rw [xNF h]
            split
            · rename_i hb
              obtain ⟨r, rfl⟩ := begins_iff.1 hb
              simp only [List.drop_left, Option.elim_some]
              exact mv r
            · exact find_eta.symm
          by_cases h4 : m.kind = 4
          · simp only [h4, if_true, true_and]
            rw [xDU (xFS h m), xAb]
            cases hb : xAD k m.fr with
            | true => simp
            | false =>
              simp only [Bool.false_eq_true, if_false]
              rw [cl]
              cases xAD k m.to <;> rfl
          · simp only [h4, if_false, false_and]
            rw [cl]
            cases xAD k m.to <;> rfl
end Go.Pu
set_option linter.unusedVariables false
set_option linter.unusedSimpArgs false
namespace Go.Pu
theorem xMf {k x : Str} : ∀ (r : List MsgL) {t : List PairL} {k x : Str}, Srt t → (∀ m ∈ r, MsgOk m) → bksL r k = some x → (xAM (allT t r.reverse) k).isSome = (xAM t x).isSome
  | [], t, k, x, h, _, e => by cases e; rfl
  | m :: r, t, k, x, h, hm, e => by
    rw [bksL] at e
    obtain ⟨y, e1, e2⟩ := Option.bind_eq_some_iff.1 e
    have h1 : allT t (m :: r).reverse = xC8 (allT t r.reverse) m := by
      unfold allT
      rw [List.reverse_cons, List.foldl_append]
      rfl
    rw [h1, xDV (xBo _ h) (hm m (by simp)), effP, e1]
    simp only [Option.isSome_map]
    exact xMf (k := k) (x := x) r h (fun m' h' => hm m' (by simp [h'])) e2
theorem isSome_mem {t : List PairL} {k : Str} : (xAM t k).isSome = true ↔ ∃ p ∈ t, p.key = k := by
  constructor
  · intro h
    obtain ⟨p, hp⟩ := Option.isSome_iff_exists.1 h
    exact ⟨p, xKS hp, xBY hp⟩
  · rintro ⟨p, hp, hk⟩
    cases h : xAM t k with
    | some q => rfl
    | none => exact absurd hk (findP_none.1 h p hp)
def xRi (s : SpanL) (l : List MsgL) (k : Str) : Bool := (xBQ (allT [⟨k, [104, 101, 114, 101], 1⟩] l) s).any fun p => !(keyL p.key l).known && (keyL p.key l).key == k
theorem xTE (s : SpanL) {l : List MsgL} (hl : ∀ m ∈ l, MsgOk m) (k : Str) : xRi s l k = inL (xGm s l.reverse) k := by
  have hr : ∀ m ∈ l.reverse, MsgOk m := fun m hm => hl m (List.mem_reverse.1 hm)
  have key : ∀ x, (!(keyL x l).known && (keyL x l).key == k) = true ↔ bksL l.reverse x = some k := by
    intro x
    rw [Bool.and_eq_true, Bool.not_eq_true', xOq]
    cases hb : bksL l.reverse x with
    | none => simp
    | some y =>
      rw [(xS6 hb).1]
      simp
  rw [Bool.eq_iff_iff, xMq s hr k, xRi, List.any_eq_true]
  constructor
  · rintro ⟨p, hp, h⟩
    unfold xBQ at hp
    rw [List.mem_filter] at hp
    exact ⟨p.key, hp.2, (key _).1 h⟩
  · rintro ⟨x, hx, hb⟩
    have h1 := xMf (k := x) (x := k) l.reverse (t := [⟨k, [104, 101, 114, 101], 1⟩]) (List.pairwise_singleton _ _) hr hb
    rw [List.reverse_reverse] at h1
    have h2 : (xAM [(⟨k, [104, 101, 114, 101], 1⟩ : PairL)] k).isSome = true := by rw [xAH, if_pos rfl]; rfl
    rw [h2] at h1
    obtain ⟨p, hp, hk⟩ := isSome_mem.1 h1
    refine ⟨p, ?_, ?_⟩
    · unfold xBQ
      rw [List.mem_filter, hk]
      exact ⟨hp, hx⟩
    · rw [hk]
      exact (key x).2 hb
def xOC (t : List PairL) (m : MsgL) : List PairL :=
  (xBS t m.fr m.to).foldl putL (if m.kind = 4 then xBP (xBP t (xAL m.to)) (xAL m.fr) else xBP t (xAL m.to))
def xK2 (t : List PairL) (m : MsgL) : List PairL :=
  if m.kind = 1 then putL t ⟨m.key, m.val, m.n⟩ else
  if m.kind = 2 then delT t m.key else
  if m.kind = 3 then xBP t m.sp else
  if m.kind = 6 then t.map (xCi m) else xOC t m
theorem xOD {t : List PairL} (h : Srt t) {m : MsgL} (hm : MsgOk m) : xK2 t m = xC8 t m := by
  unfold xK2 xC8
  by_cases h1 : m.kind = 1
  · rw [if_pos h1, if_pos h1]
  rw [if_neg h1, if_neg h1]
  by_cases h2 : m.kind = 2
  · rw [if_pos h2, if_pos h2]
  rw [if_neg h2, if_neg h2]
  by_cases h3 : m.kind = 3
  · rw [if_pos h3, if_pos h3]
  rw [if_neg h3, if_neg h3]
  by_cases h6 : m.kind = 6
  · rw [if_pos h6, if_pos h6]
  rw [if_neg h6, if_neg h6]
  have hk := hm.k
  obtain ⟨ap1, ap2⟩ := hm.ap (by omega)
  have hmv := xG1 h m.fr m.to
  unfold xOC xCY
  by_cases h4 : m.kind = 4
  · rw [if_pos h4, if_pos h4]
    have hd1 := xCG h (xAL m.to)
    have hd2 := xCG hd1 (xAL m.fr)
    rw [xID hd2 hmv]
    refine Srt.ext (xAj hd2 hmv) (xCG (xAj hd1 hmv) _) fun k => ?_
    rw [xAh k hd2 hmv, xDU (xAj hd1 hmv), xAh k hd1 hmv, xDU hd1, xAb]
    cases hb : xAD k m.fr with
    | false => simp
    | true =>
      simp only [if_true, Option.or_none]
      refine xEj ?_ t
      cases hc : xAD k m.to with
      | false => rfl
      | true => 
        rcases xLS hb hc with h5 | h5
        · rw [ap1] at h5; cases h5
        · rw [ap2] at h5; cases h5
  · rw [if_neg h4, if_neg h4, xID (xCG h _) hmv]
def rallT (t : List PairL) (l : List MsgL) : List PairL := l.foldl xK2 t
theorem xSY : ∀ (l : List MsgL) {t : List PairL}, Srt t → (∀ m ∈ l, MsgOk m) → rallT t l = allT t l
  | [], t, _, _ => rfl
  | m :: l, t, h, hm => by
    unfold rallT allT
    rw [List.foldl_cons, List.foldl_cons, xOD h (hm m (by simp))]
    exact xSY l (xHu h m) fun x hx => hm x (by simp [hx])
end Go.Pu
set_option linter.unusedVariables false
set_option linter.unusedSimpArgs false
namespace Go.Pu
theorem xGb (t : List PairL) (m : MsgL) (r : List MsgL) : allT t (m :: r).reverse = xC8 (allT t r.reverse) m := by
  unfold allT
  rw [List.reverse_cons, List.foldl_append]
  rfl
theorem xLV (t : List PairL) (a b : List MsgL) : allT t (a ++ b) = allT (allT t a) b := List.foldl_append
theorem xKV {m : MsgL} {k : Str} {f g : Str → Option PairL} (h : ∀ x, bkL m k = some x → f x = g x) : effP m k f = effP m k g := by
  unfold effP
  cases hb : bkL m k with
  | none => rfl
  | some x => simp only; rw [h x hb]
theorem xMd {m : MsgL} (hm : MsgOk m) {k x : Str} (h : bkL m k = some x) : inL (xCN m) x = true ∨ (x = k ∧ inL (xA2 m) k = false) := by
  unfold bkL at h
  unfold xCN xA2 xAR
  by_cases h1 : m.kind = 1 ∨ m.kind = 2
  · rw [if_pos h1] at h
    right
    have h6 : ¬ m.kind = 6 := by omega
    split at h
    · cases h
    · cases h
      rename_i hk
      refine ⟨rfl, ?_⟩
      rw [if_neg h6, if_pos h1]
      simp only [inL, List.any_cons, List.any_nil, Bool.or_false, xFa]
      exact beq_eq_false_iff_ne.2 (fun e => hk e.symm)
  rw [if_neg h1] at h
  by_cases h3 : m.kind = 3
  · rw [if_pos h3] at h
    right
    split at h
    · cases h
    · cases h
      rename_i hk
      refine ⟨rfl, ?_⟩
      rw [if_neg (by omega), if_neg h1, if_neg (by omega), if_neg (by omega)]
      simpa [inL] using hk
  rw [if_neg h3] at h
  by_cases h6 : m.kind = 6
  · rw [if_pos h6] at h
    right
    cases h
    refine ⟨rfl, ?_⟩
    rw [if_pos h6]; rfl
  rw [if_neg h6] at h
  have h45 (hk : 1 ≤ m.kind ∧ m.kind ≤ 6) : m.kind = 4 ∨ m.kind = 5 := by omega
  have h45 := h45 hm.k
  split at h
  · cases h
  rename_i h4
  split at h
  · cases h
    left
    rw [if_pos h45]
    simp [inL, xAb, xBN]
  · cases h
    right
    refine ⟨rfl, ?_⟩
    rename_i hto
    rw [if_neg h6, if_neg h1]
    by_cases hk4 : m.kind = 4
    · rw [if_pos hk4]
      have : xAD k m.fr = false := by
        cases hb : xAD k m.fr with
        | false => rfl
        | true => exact absurd ⟨hk4, hb⟩ h4
      simp [inL, xAb, this, hto]
    · rw [if_neg hk4, if_pos (by omega)]
      simp [inL, xAb, hto]
theorem xLJ {m : MsgL} (hm : MsgOk m) {k : Str} (hw : inL (xAR m) k = false) {t : List PairL} : effP m k (xAM t) = xAM t k := by
  have hk := hm.k
  unfold xAR at hw
  unfold effP bkL
  by_cases h1 : m.kind = 1 ∨ m.kind = 2
  · rw [if_pos h1] at hw ⊢
    simp only [inL, List.any_cons, List.any_nil, Bool.or_false, xFa, beq_eq_false_iff_ne] at hw
    rw [if_neg (fun e => hw e.symm)]
    simp only [show ¬ m.kind = 6 by omega, false_and, if_false]
    exact find_eta
  rw [if_neg h1] at hw ⊢
  by_cases h3 : m.kind = 3
  · rw [if_neg (by omega), if_neg (by omega)] at hw
    simp only [inL, List.any_cons, List.any_nil, Bool.or_false] at hw
    rw [if_pos h3, if_neg (by simp [hw])]
    simp only [show ¬ m.kind = 6 by omega, false_and, if_false]
    exact find_eta
  rw [if_neg h3]
  by_cases h6 : m.kind = 6
  · rw [if_neg (by omega), if_neg (by omega)] at hw
    simp only [inL, List.any_cons, List.any_nil, Bool.or_false] at hw
    rw [if_pos h6]
    simp only [hw, Bool.false_eq_true, and_false, if_false]
    exact find_eta
  rw [if_neg h6]
  by_cases h4 : m.kind = 4
  · rw [if_pos h4] at hw
    simp only [inL, List.any_cons, List.any_nil, Bool.or_false, Bool.or_eq_false_iff, xAb] at hw
    rw [if_neg (by simp [hw.1]), if_neg (by simp [hw.2])]
    simp only [h6, false_and, if_false]
    exact find_eta
  · rw [if_neg h4, if_pos (by omega)] at hw
    simp only [inL, List.any_cons, List.any_nil, Bool.or_false, xAb] at hw
    rw [if_neg (by simp [h4]), if_neg (by simp [hw])]
    simp only [h6, false_and, if_false]
    exact find_eta
theorem xEL : ∀ (r : List MsgL) (d : List SpanL) {t u : List PairL}, Srt t → Srt u → (∀ m ∈ r, MsgOk m) → (∀ k, inL (xFR r d) k = false → xAM t k = xAM u k) →
    ∀ k, inL d k = false → xAM (allT t r.reverse) k = xAM (allT u r.reverse) k
  | [], d, t, u, _, _, _, h, k, hk => h k hk
  | m :: r, d, t, u, ht, hu, hm, h, k, hk => by
    have hmo := hm m (by simp)
    have hr : ∀ x ∈ r, MsgOk x := fun x hx => hm x (by simp [hx])
    rw [xGb, xGb, xDV (xBo _ ht) hmo, xDV (xBo _ hu) hmo]
    rw [xFR] at h
    by_cases hc : covL m d = true
    · rw [if_pos hc] at h
      have hw : inL (xAR m) k = false := by
        cases hw : inL (xAR m) k with
        | false => rfl
        | true => rw [cov_iff.1 hc k hw] at hk; cases hk
      rw [xLJ hmo hw, xLJ hmo hw]
      exact xEL r d ht hu hr h k hk
    · rw [if_neg hc] at h
      refine xKV fun x hx => xEL r _ ht hu hr h x ?_
      rw [xFB]
      rcases xMd hmo hx with h1 | ⟨rfl, h1⟩
      · rw [h1]; simp
      · rw [hk, h1]; rfl
theorem xEU : ∀ (r : List MsgL) (d : List SpanL) {t : List PairL}, Srt t → (∀ m ∈ r, MsgOk m) → ∀ k, inL d k = false → xAM (allT t r.reverse) k = xAM (allT t (xBa r d).reverse) k
  | [], d, t, _, _, k, hk => rfl
  | m :: r, d, t, ht, hm, k, hk => by
    have hmo := hm m (by simp)
    have hr : ∀ x ∈ r, MsgOk x := fun x hx => hm x (by simp [hx])
    rw [xGb, xDV (xBo _ ht) hmo, xBa]
    by_cases hc : covL m d = true
    · rw [if_pos hc]
      have hw : inL (xAR m) k = false := by
        cases hw : inL (xAR m) k with
        | false => rfl
        | true => rw [cov_iff.1 hc k hw] at hk; cases hk
      rw [xLJ hmo hw]
      exact xEU r d ht hr k hk
    · rw [if_neg hc, xGb, xDV (xBo _ ht) hmo]
      refine xKV fun x hx => xEU r _ ht hr x ?_
      rw [xFB]
      rcases xMd hmo hx with h1 | ⟨rfl, h1⟩
      · rw [h1]; simp
      · rw [hk, h1]; rfl
theorem xB8 {t : List PairL} (ht : Srt t) {l : List MsgL} (hl : ∀ m ∈ l, MsgOk m) : allT t (xAX l) = allT t l := by
  refine Srt.ext (xBo _ ht) (xBo _ ht) fun k => ?_
  have h := xEU l.reverse (xAO []) ht (fun m hm => hl m (List.mem_reverse.1 hm)) k (by rfl)
  rw [List.reverse_reverse] at h
  exact h.symm
def outT (t : List PairL) (d : List SpanL) : List PairL := t.filter fun p => !inL d p.key
def inT (t : List PairL) (d : List SpanL) : List PairL := t.filter fun p => inL d p.key
theorem xJM {t : List PairL} (h : Srt t) (d : List SpanL) (k : Str) : xAM (outT t d) k = if inL d k = true then none else xAM t k := by
  unfold outT
  rw [xBJ h]
  cases hf : xAM t k with
  | none => simp
  | some p =>
    have := xBY hf
    rw [Option.filter_some, this]
    cases inL d k <;> simp
theorem xTG {t : List PairL} (h : Srt t) (d : List SpanL) (k : Str) : xAM (inT t d) k = if inL d k = true then xAM t k else none := by
  unfold inT
  rw [xBJ h]
  cases hf : xAM t k with
  | none => simp
  | some p =>
    have := xBY hf
    rw [Option.filter_some, this]
theorem xI0 {t : List PairL} (h : Srt t) (d : List SpanL) : Srt (outT t d) := h.filter _
theorem xRg {t : List PairL} (h : Srt t) (d : List SpanL) : Srt (inT t d) := h.filter _
theorem xQm {t : List PairL} (ht : Srt t) {l : List MsgL} (hl : ∀ m ∈ l, MsgOk m) (d : List SpanL) : outT (allT t l) d = outT (allT t (xBV l d).1) d := by
  refine Srt.ext (xI0 (xBo _ ht) _) (xI0 (xBo _ ht) _) fun k => ?_
  rw [xJM (xBo _ ht), xJM (xBo _ ht)]
  split
  · rfl
  · rename_i hk
    have h := xEU l.reverse (xAO d) ht (fun m hm => hl m (List.mem_reverse.1 hm)) k (by rw [(xAk d).2]; simpa using hk)
    rw [List.reverse_reverse] at h
    exact h
def xF5 (t u : List PairL) (d : List SpanL) : List PairL := xAp (outT t d) (inT u d)
theorem xJ0 {t u : List PairL} (ht : Srt t) (hu : Srt u) (d : List SpanL) : Srt (xF5 t u d) := xAj (xI0 ht d) (xRg hu d)
theorem xM7 {t u : List PairL} (ht : Srt t) (hu : Srt u) {l : List MsgL} (hl : ∀ m ∈ l, MsgOk m) : allT t l = allT (xF5 t u (xBV l []).2) l := by
  have ho := xJ0 ht hu (xBV l []).2
  refine Srt.ext (xBo _ ht) (xBo _ ho) fun k => ?_
  have h := xEL l.reverse (xAO []) ht ho (fun m hm => hl m (List.mem_reverse.1 hm)) (fun k hk => ?_) k (by rfl)
  · rw [List.reverse_reverse] at h
    exact h
  · have hk' : inL (xBV l []).2 k = false := hk
    unfold xF5
    rw [xAh k (xI0 ht _) (xRg hu _), xTG hu, xJM ht, hk']
    simp
end Go.Pu
