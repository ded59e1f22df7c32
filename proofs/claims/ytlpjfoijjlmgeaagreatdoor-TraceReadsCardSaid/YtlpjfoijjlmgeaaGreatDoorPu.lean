/- The order of texts, and sorted tables: plain Lean. -/
import GoSem.Op.String
import Derived.Sort.AssemblyPlain
set_option linter.unusedVariables false
namespace Go.Pu
abbrev Str := List UInt8
theorem xBu (a : Str) : Op.bytesLess a [] = false := by cases a <;> rfl
theorem xAs : ∀ a : Str, Op.bytesLess a a = false
  | [] => rfl
  | x :: a => by
    simp only [Op.bytesLess, Op.bytesLess, Bool.or_eq_false_iff, decide_eq_false_iff_not, Bool.and_eq_false_iff]
    exact ⟨UInt8.lt_irrefl x, .inr (xAs a)⟩
theorem blt_cons {x y : UInt8} {a b : Str} : Op.bytesLess (x :: a) (y :: b) = true ↔ x < y ∨ (x = y ∧ Op.bytesLess a b = true) := by
  simp [Op.bytesLess, Op.bytesLess]
theorem xAo : ∀ {a b c : Str}, Op.bytesLess a b = true → Op.bytesLess b c = true → Op.bytesLess a c = true
  | _, _, [], _, h => by rw [xBu] at h; cases h
  | _, [], _ :: _, h, _ => by rw [xBu] at h; cases h
  | [], _ :: _, _ :: _, _, _ => rfl
  | x :: a, y :: b, z :: c, h1, h2 => by
    rw [blt_cons] at h1 h2 ⊢
    rcases h1 with h1 | ⟨rfl, h1⟩
    · rcases h2 with h2 | ⟨rfl, h2⟩
      · exact .inl (UInt8.lt_trans h1 h2)
      · exact .inl h1
    · rcases h2 with h2 | ⟨rfl, h2⟩
      · exact .inl h2
      · exact .inr ⟨rfl, xAo h1 h2⟩
theorem xBt : ∀ (a b : Str), Op.bytesLess a b = true ∨ a = b ∨ Op.bytesLess b a = true
  | [], [] => .inr (.inl rfl)
  | [], _ :: _ => .inl rfl
  | _ :: _, [] => .inr (.inr rfl)
  | x :: a, y :: b => by
    rw [blt_cons, blt_cons]
    by_cases h : x < y
    · exact .inl (.inl h)
    · by_cases h' : y < x
      · exact .inr (.inr (.inl h'))
      · have e : x = y := UInt8.le_antisymm (UInt8.not_lt.1 h') (UInt8.not_lt.1 h)
        subst e
        rcases xBt a b with h1 | h1 | h1
        · exact .inl (.inr ⟨rfl, h1⟩)
        · exact .inr (.inl (by rw [h1]))
        · exact .inr (.inr (.inr ⟨rfl, h1⟩))
theorem xBp {a b : Str} (h : Op.bytesLess a b = true) : Op.bytesLess b a = false := by
  cases h' : Op.bytesLess b a with
  | false => rfl
  | true => have := xAo h h'; rw [xAs] at this; cases this
theorem xDB {a b : Str} (h : Op.bytesLess a b = true) : a ≠ b := by
  intro e; subst e; rw [xAs] at h; cases h
theorem xNI {a b : Str} (h : Op.bytesLess a b = false) (hne : a ≠ b) : Op.bytesLess b a = true := by
  rcases xBt a b with h1 | h1 | h1
  · rw [h] at h1; cases h1
  · exact absurd h1 hne
  · exact h1
def ble (a b : Str) : Bool := !Op.bytesLess b a
theorem ble_iff {a b : Str} : ble a b = true ↔ Op.bytesLess a b = true ∨ a = b := by
  unfold ble
  constructor
  · intro h
    have h : Op.bytesLess b a = false := by simpa using h
    rcases xBt a b with h1 | h1 | h1
    · exact .inl h1
    · exact .inr h1
    · rw [h] at h1; cases h1
  · rintro (h | rfl)
    · simp [xBp h]
    · simp [xAs]
theorem xCI (a : Str) : ble a a = true := ble_iff.2 (.inr rfl)
theorem xBG {a b c : Str} (h1 : ble a b = true) (h2 : ble b c = true) : ble a c = true := by
  rw [ble_iff] at *
  rcases h1 with h1 | rfl
  · rcases h2 with h2 | rfl
    · exact .inl (xAo h1 h2)
    · exact .inl h1
  · exact h2
theorem xFq {a b c : Str} (h1 : ble a b = true) (h2 : Op.bytesLess b c = true) : Op.bytesLess a c = true := by
  rw [ble_iff] at h1
  rcases h1 with h1 | rfl
  · exact xAo h1 h2
  · exact h2
theorem xAg {a b c : Str} (h1 : Op.bytesLess a b = true) (h2 : ble b c = true) : Op.bytesLess a c = true := by
  rw [ble_iff] at h2
  rcases h2 with h2 | rfl
  · exact xAo h1 h2
  · exact h1
theorem xRd {a : Str} : Op.bytesLess [] a = true ↔ a ≠ [] := by cases a <;> simp [Op.bytesLess, Op.bytesLess]
theorem xEL (a : Str) : ble [] a = true := by simp [ble, xBu]
structure PairL where
  key : Str
  val : Str
  stamp : Int
  deriving DecidableEq
def Srt (t : List PairL) : Prop := t.Pairwise fun a b => Op.bytesLess a.key b.key = true
def xD0 : List PairL → Bool
  | a :: b :: r => Op.bytesLess a.key b.key && xD0 (b :: r)
  | _ => true
theorem xKl : ∀ {t : List PairL}, xD0 t = true ↔ Srt t
  | [] => by simp [xD0, Srt]
  | [a] => by simp [xD0, Srt]
  | a :: b :: r => by
    rw [xD0, Bool.and_eq_true, xKl (t := b :: r)]
    unfold Srt
    rw [List.pairwise_cons (a := a)]
    constructor
    · rintro ⟨h1, h2⟩
      refine ⟨fun c hc => ?_, h2⟩
      rcases List.mem_cons.1 hc with rfl | hc
      · exact h1
      · exact xAo h1 ((List.pairwise_cons.1 h2).1 c hc)
    · rintro ⟨h1, h2⟩
      exact ⟨h1 b (by simp), h2⟩
def xBN (p : PairL) (s : List PairL × Bool) (x : PairL) : List PairL × Bool :=
  let s1 := if (!s.2 && !(Op.bytesLess x.key p.key)) = true then (s.1 ++ [p], true) else s
  (if (!(x.key == p.key)) = true then s1.1 ++ [x] else s1.1, s1.2)
def putL (t : List PairL) (p : PairL) : List PairL :=
  let s := t.foldl (xBN p) ([], false)
  if s.2 = true then s.1 else s.1 ++ [p]
def insL (p : PairL) : List PairL → List PairL
  | [] => [p]
  | x :: r => if Op.bytesLess x.key p.key = true then x :: insL p r else p :: (x :: r).filter fun y => !(y.key == p.key)
theorem putT (p : PairL) : ∀ (l o : List PairL), l.foldl (xBN p) (o, true) = (o ++ l.filter (fun y => !(y.key == p.key)), true)
  | [], o => by simp
  | x :: l, o => by
    rw [List.foldl_cons]
    have : xBN p (o, true) x = (o ++ [x].filter (fun y => !(y.key == p.key)), true) := by
      simp only [xBN, Bool.not_true, Bool.false_and, Bool.false_eq_true, if_false, List.filter_cons, List.filter_nil]
      split <;> simp
    rw [this, putT p l, List.append_assoc, ← List.filter_append]
    rfl
theorem putF (p : PairL) : ∀ (l o : List PairL), (if (l.foldl (xBN p) (o, false)).2 = true then (l.foldl (xBN p) (o, false)).1 else (l.foldl (xBN p) (o, false)).1 ++ [p]) = o ++ insL p l
  | [], o => by simp [insL]
  | x :: l, o => by
    rw [List.foldl_cons, insL]
    by_cases h : Op.bytesLess x.key p.key = true
    · have hne : (x.key == p.key) = false := by simpa using xDB h
      have : xBN p (o, false) x = (o ++ [x], false) := by
        simp [xBN, h, xDB h]
      rw [this, putF p l, if_pos h, List.append_assoc]
      rfl
    · have h' : Op.bytesLess x.key p.key = false := by simpa using h
      have : xBN p (o, false) x = (o ++ [p] ++ [x].filter (fun y => !(y.key == p.key)), true) := by
        simp only [xBN, Bool.not_false, h', Bool.and_self, if_true, List.filter_cons, List.filter_nil]
        split <;> simp
      rw [this, putT, if_neg h]
      simp only [if_true]
      rw [List.append_assoc, List.append_assoc, ← List.filter_append]
      rfl
theorem xFX (t : List PairL) (p : PairL) : putL t p = insL p t := by
  have := putF p t []
  simpa [putL] using this
theorem xI0 {p y : PairL} : ∀ {t : List PairL}, y ∈ insL p t → y = p ∨ y ∈ t
  | [], h => by simp [insL] at h; exact .inl h
  | x :: r, h => by
    rw [insL] at h
    split at h
    · rcases List.mem_cons.1 h with rfl | h
      · exact .inr (by simp)
      · rcases xI0 h with h | h
        · exact .inl h
        · exact .inr (List.mem_cons_of_mem _ h)
    · rcases List.mem_cons.1 h with rfl | h
      · exact .inl rfl
      · exact .inr (List.mem_filter.1 h).1
theorem xME {p : PairL} : ∀ {t : List PairL}, Srt t → Srt (insL p t)
  | [], _ => by simp [insL, Srt]
  | x :: r, h => by
    obtain ⟨h1, h2⟩ := List.pairwise_cons.1 h
    rw [insL]
    split
    · rename_i hx
      refine List.pairwise_cons.2 ⟨fun y hy => ?_, xME h2⟩
      rcases xI0 hy with rfl | hy
      · exact hx
      · exact h1 y hy
    · rename_i hx
      have hx : Op.bytesLess x.key p.key = false := by simpa using hx
      refine List.pairwise_cons.2 ⟨fun y hy => ?_, h.filter _⟩
      obtain ⟨hy1, hy2⟩ := List.mem_filter.1 hy
      have hne : y.key ≠ p.key := by simpa using hy2
      rcases List.mem_cons.1 hy1 with rfl | hy1
      · exact xNI hx hne
      · have := h1 y hy1
        rcases xBt p.key y.key with h3 | h3 | h3
        · exact h3
        · exact absurd h3.symm hne
        · have := xAo this h3
          rw [hx] at this; cases this
theorem xMF {p : PairL} : ∀ t : List PairL, (insL p t).length ≤ t.length + 1
  | [] => by simp [insL]
  | x :: r => by
    rw [insL]
    split
    · have := xMF (p := p) r; simp; omega
    · simp only [List.length_cons]
      have := List.length_filter_le (fun y : PairL => !(y.key == p.key)) (x :: r)
      simp at this ⊢
      omega
theorem xIj (t : List PairL) (p : PairL) : (putL t p).length ≤ t.length + 1 := by rw [xFX]; exact xMF t
theorem xBC {t : List PairL} {p : PairL} (h : Srt t) : Srt (putL t p) := by rw [xFX]; exact xME h
theorem xBQ {α : Type} {l : List α} {i : Nat} {x : α} (h : l[i]? = some x) : l.drop i = x :: l.drop (i + 1) := by
  have hl := (List.getElem?_eq_some_iff.1 h).1
  rw [List.drop_eq_getElem_cons hl]
  congr 1
  exact (List.getElem?_eq_some_iff.1 h).2
theorem xQ3 {xs : List PairL} {i : Nat} {a b : PairL} (ha : xs[i]? = some a) (hb : xs[i + 1]? = some b) : xD0 (xs.drop i) = (Op.bytesLess a.key b.key && xD0 (xs.drop (i + 1))) := by
  rw [xBQ ha, xBQ hb, xD0]
end Go.Pu
set_option linter.unusedVariables false
namespace Go.Pu
structure SpanL where
  lo : Str
  hi : Str
  deriving DecidableEq
def hasL (s : SpanL) (k : Str) : Bool := !(Op.bytesLess k s.lo) && (s.hi == [] || Op.bytesLess k s.hi)
def xAJ (s : SpanL) : Bool := !(s.hi == []) && (Op.bytesLess s.hi s.lo || s.hi == s.lo)
def xCA (a b : Str) : Int := if Op.bytesLess a b = true then -1 else if a = b then 0 else 1
def xEk (e f : Str) : Int := if e = f then 0 else if e = [] then 1 else if f = [] then -1 else xCA e f
def xB7 (a b : Str) : Str := if xEk b a < 0 then b else a
def maxL (a b : Str) : Str := if Op.bytesLess a b = true then b else a
def xJn : SpanL := ⟨[97], [97]⟩
def xAt (a b : SpanL) : SpanL := if xAJ ⟨maxL a.lo b.lo, xB7 a.hi b.hi⟩ = true then xJn else ⟨maxL a.lo b.lo, xB7 a.hi b.hi⟩
def xO5 (a b : SpanL) : Bool := xAJ b || (hasL a b.lo && decide (xEk a.hi b.hi ≥ 0))
def xEa (a b : Str) : Bool := !(a == []) && (b == [] || Op.bytesLess a b)
def xQ9 (a b : SpanL) : SpanL :=
  let s : SpanL := ⟨maxL a.lo b.lo, if xEa b.hi a.hi = true then b.hi else a.hi⟩
  if xAJ s = true then xJn else s
def xLe (a b : SpanL) : Bool := xAJ b || (!xAJ a && (Op.bytesLess a.lo b.lo || a.lo == b.lo) && !xEa a.hi b.hi)
def xAD (k p : Str) : Bool := decide (k.length ≥ p.length) && (k.take p.length == p)
def xD7 (k f t : Str) : Str × Bool := if xAD k f = true then (t ++ k.drop f.length, true) else ([], false)
def oneL (k : Str) : SpanL := ⟨k, k ++ [0]⟩
def xBg (p : Str) : Nat → Nat
  | 0 => 0
  | n + 1 => if p[n]? = some 255 then xBg p n else n + 1
def upL (p : Str) : Str :=
  match xBg p p.length with
  | 0 => []
  | n + 1 => p.take n ++ [p.getD n 0 + 1]
def xAG (p : Str) : SpanL := ⟨p, upL p⟩
theorem xJR (p : Str) : ∀ n, xBg p n ≤ n
  | 0 => Nat.le_refl _
  | n + 1 => by
    rw [xBg]
    split
    · exact Nat.le_succ_of_le (xJR p n)
    · exact Nat.le_refl _
theorem has_iff {s : SpanL} {k : Str} : hasL s k = true ↔ ble s.lo k = true ∧ (s.hi = [] ∨ Op.bytesLess k s.hi = true) := by
  simp [hasL, ble]
theorem empty_iff {s : SpanL} : xAJ s = true ↔ s.hi ≠ [] ∧ ble s.hi s.lo = true := by
  simp only [xAJ, Bool.and_eq_true, Bool.not_eq_true', Bool.or_eq_true, beq_iff_eq, beq_eq_false_iff_ne, ble_iff]
theorem xAd {s : SpanL} (h : xAJ s = true) (k : Str) : hasL s k = false := by
  cases hk : hasL s k with
  | false => rfl
  | true =>
    obtain ⟨h1, h2⟩ := empty_iff.1 h
    obtain ⟨h3, h4⟩ := has_iff.1 hk
    rcases h4 with h4 | h4
    · exact absurd h4 h1
    · have := xAg h4 (xBG h2 h3)
      rw [xAs] at this; cases this
theorem xDT {s : SpanL} (h : xAJ s = false) : hasL s s.lo = true := by
  refine has_iff.2 ⟨xCI _, ?_⟩
  by_cases he : s.hi = []
  · exact .inl he
  · right
    cases hb : Op.bytesLess s.lo s.hi with
    | true => rfl
    | false =>
      have : xAJ s = true := empty_iff.2 ⟨he, by simp [ble, hb]⟩
      rw [h] at this; cases this
def elt (a b : Str) : Prop := a ≠ [] ∧ (b = [] ∨ Op.bytesLess a b = true)
theorem less_iff {a b : Str} : xEa a b = true ↔ elt a b := by simp [xEa, elt]
theorem cmpStr_lt {a b : Str} : xCA a b < 0 ↔ Op.bytesLess a b = true := by
  unfold xCA
  split
  · rename_i h; simp [h]
  · rename_i h
    split <;> simp [h]
theorem cmpStr_eq {a b : Str} : xCA a b = 0 ↔ a = b := by
  unfold xCA
  split
  · rename_i h
    constructor
    · intro h'; simp at h'
    · intro e; subst e; rw [xAs] at h; cases h
  · split
    · rename_i h; simp [h]
    · rename_i h; simp [h]
theorem cmpEnd_lt {a b : Str} : xEk a b < 0 ↔ elt a b := by
  unfold xEk elt
  split
  · rename_i h
    subst h
    simp
    intro h; exact ⟨h, xAs a⟩
  · rename_i h
    split
    · rename_i h1; simp [h1]
    · rename_i h1
      split
      · rename_i h2; simp [h1, h2]
      · rename_i h2; simp [h1, h2, cmpStr_lt]
theorem cmpEnd_eq {a b : Str} : xEk a b = 0 ↔ a = b := by
  unfold xEk
  split
  · rename_i h; simp [h]
  · rename_i h
    split
    · simp [h]
    · split
      · simp [h]
      · rw [cmpStr_eq]
theorem xFF (a b : Str) : xB7 a b = if xEa b a = true then b else a := by
  unfold xB7
  by_cases h : elt b a
  · rw [if_pos (cmpEnd_lt.2 h), if_pos (less_iff.2 h)]
  · rw [if_neg (fun h' => h (cmpEnd_lt.1 h')), if_neg (fun h' => h (less_iff.1 h'))]
theorem meet_ref (a b : SpanL) : xAt a b = xQ9 a b := by
  unfold xAt xQ9
  rw [xFF]
theorem xOw (a b : Str) : elt a b ∨ a = b ∨ elt b a := by
  unfold elt
  by_cases ha : a = []
  · by_cases hb : b = []
    · exact .inr (.inl (ha.trans hb.symm))
    · exact .inr (.inr ⟨hb, .inl ha⟩)
  · by_cases hb : b = []
    · exact .inl ⟨ha, .inl hb⟩
    · rcases xBt a b with h | h | h
      · exact .inl ⟨ha, .inr h⟩
      · exact .inr (.inl h)
      · exact .inr (.inr ⟨hb, .inr h⟩)
theorem xHZ {a b : Str} (h : elt a b) : ¬ elt b a := by
  rintro ⟨h1, h2⟩
  obtain ⟨h3, h4⟩ := h
  rcases h4 with h4 | h4
  · exact h1 h4
  · rcases h2 with h2 | h2
    · exact h3 h2
    · rw [xBp h4] at h2; cases h2
theorem xRI {a : Str} : ¬ elt a a := fun h => xHZ h h
theorem covers_ref (a b : SpanL) : xO5 a b = xLe a b := by
  unfold xO5 xLe
  cases hb : xAJ b with
  | true => rfl
  | false =>
    simp only [Bool.false_or]
    have key : decide (xEk a.hi b.hi ≥ 0) = !xEa a.hi b.hi := by
      rw [Bool.eq_iff_iff]
      simp only [decide_eq_true_eq, Bool.not_eq_true']
      constructor
      · intro h
        cases hl : xEa a.hi b.hi with
        | false => rfl
        | true => have := cmpEnd_lt.2 (less_iff.1 hl); omega
      · intro h
        have : ¬ xEk a.hi b.hi < 0 := fun h' => by rw [less_iff.2 (cmpEnd_lt.1 h')] at h; cases h
        omega
    rw [key]
    cases hl : xEa a.hi b.hi with
    | true => simp
    | false =>
      simp only [Bool.not_false, Bool.and_true]
      rw [Bool.eq_iff_iff, has_iff, Bool.and_eq_true, Bool.not_eq_true', Bool.or_eq_true, beq_iff_eq, ← ble_iff]
      constructor
      · rintro ⟨h1, h2⟩
        refine ⟨?_, h1⟩
        cases he : xAJ a with
        | false => rfl
        | true =>
          have := xAd he b.lo
          rw [has_iff.2 ⟨h1, h2⟩] at this; cases this
      · rintro ⟨h1, h2⟩
        refine ⟨h2, ?_⟩
        by_cases ha : a.hi = []
        · exact .inl ha
        · right
          have hbl := (has_iff.1 (xDT hb)).2
          have hn : ¬ elt a.hi b.hi := fun h => by rw [less_iff.2 h] at hl; cases hl
          rcases hbl with hbl | hbl
          · exact absurd ⟨ha, .inl hbl⟩ hn
          · rcases xBt a.hi b.hi with h | h | h
            · exact absurd ⟨ha, .inr h⟩ hn
            · rw [h]; exact hbl
            · exact xAo hbl h
theorem xG2 {a b k : Str} : ble (maxL a b) k = true ↔ ble a k = true ∧ ble b k = true := by
  unfold maxL
  split
  · rename_i h
    exact ⟨fun h' => ⟨xBG (ble_iff.2 (.inl h)) h', h'⟩, fun h' => h'.2⟩
  · rename_i h
    have h : ble b a = true := by simp [ble, h]
    exact ⟨fun h' => ⟨h', xBG h h'⟩, fun h' => h'.1⟩
theorem xOd {a b k : Str} : (xB7 a b = [] ∨ Op.bytesLess k (xB7 a b) = true) ↔ (a = [] ∨ Op.bytesLess k a = true) ∧ (b = [] ∨ Op.bytesLess k b = true) := by
  rw [xFF]
  split
  · rename_i h
    obtain ⟨h1, h2⟩ := less_iff.1 h
    constructor
    · rintro (h3 | h3)
      · exact absurd h3 h1
      · refine ⟨?_, .inr h3⟩
        rcases h2 with h2 | h2
        · exact .inl h2
        · exact .inr (xAo h3 h2)
    · exact fun h => h.2
  · rename_i h
    have h : ¬ elt b a := fun h' => h (less_iff.2 h')
    constructor
    · intro h3
      refine ⟨h3, ?_⟩
      by_cases hb : b = []
      · exact .inl hb
      · right
        rcases h3 with h3 | h3
        · exact absurd ⟨hb, .inl h3⟩ h
        · rcases xBt b a with h4 | h4 | h4
          · exact absurd ⟨hb, .inr h4⟩ h
          · rw [h4]; exact h3
          · exact xAo h3 h4
    · exact fun h => h.1
theorem xCH (a b : SpanL) (k : Str) : hasL (xAt a b) k = (hasL a k && hasL b k) := by
  have key : hasL ⟨maxL a.lo b.lo, xB7 a.hi b.hi⟩ k = (hasL a k && hasL b k) := by
    rw [Bool.eq_iff_iff, Bool.and_eq_true, has_iff, has_iff, has_iff]
    simp only
    rw [xG2, xOd]
    constructor
    · rintro ⟨⟨h1, h2⟩, h3, h4⟩; exact ⟨⟨h1, h3⟩, h2, h4⟩
    · rintro ⟨⟨h1, h2⟩, h3, h4⟩; exact ⟨⟨h1, h3⟩, h2, h4⟩
  unfold xAt
  split
  · rename_i h
    rw [← key, xAd h]
    exact xAd (s := xJn) (by decide) k
  · exact key
theorem xQJ (a b : Str) : maxL a b = maxL b a := by
  unfold maxL
  rcases xBt a b with h | h | h
  · rw [if_pos h, if_neg (by simp [xBp h])]
  · subst h; rfl
  · rw [if_neg (by simp [xBp h]), if_pos h]
theorem xM5 (a b : Str) : xB7 a b = xB7 b a := by
  rw [xFF, xFF]
  rcases xOw a b with h | h | h
  · rw [if_neg (fun h' => xHZ h (less_iff.1 h')), if_pos (less_iff.2 h)]
  · subst h; rfl
  · rw [if_pos (less_iff.2 h), if_neg (fun h' => xHZ h (less_iff.1 h'))]
theorem meet_comm (a b : SpanL) : xAt a b = xAt b a := by
  unfold xAt
  rw [xQJ a.lo, xM5 a.hi]
theorem meet_empty {a b : SpanL} (h : xAJ (xAt a b) = true) : xAt a b = xJn := by
  unfold xAt at h ⊢
  split
  · rfl
  · rename_i h1
    rw [if_neg h1] at h
    exact absurd h h1
theorem xFY (k x : Str) : hasL (oneL k) x = (x == k) := by
  rw [Bool.eq_iff_iff, has_iff, beq_iff_eq]
  simp only [oneL]
  constructor
  · rintro ⟨h1, h2 | h2⟩
    · simp at h2
    · -- k ≤ x < k ++ [0]
      have key : ∀ k x : Str, ble k x = true → Op.bytesLess x (k ++ [0]) = true → x = k := by
        intro k
        induction k with
        | nil =>
          intro x h1 h2
          cases x with
          | nil => rfl
          | cons a x =>
            rw [List.nil_append, blt_cons] at h2
            rcases h2 with h2 | ⟨_, h2⟩
            · exact absurd h2 (UInt8.not_lt.2 (UInt8.le_iff_toNat_le.2 (by simp)))
            · rw [xBu] at h2; cases h2
        | cons b k ih =>
          intro x h1 h2
          cases x with
          | nil =>
            rw [ble_iff] at h1
            rcases h1 with h1 | h1
            · rw [xBu] at h1; cases h1
            · cases h1
          | cons a x =>
            rw [List.cons_append, blt_cons] at h2
            have h1' : ¬ (a < b ∨ a = b ∧ Op.bytesLess x k = true) := by
              intro h
              have h3 := blt_cons.2 h
              have h4 : Op.bytesLess (a :: x) (b :: k) = false := by simpa [ble] using h1
              rw [h4] at h3; cases h3
            rcases h2 with h2 | ⟨rfl, h2⟩
            · exact absurd (.inl h2) h1'
            · have : ble k x = true := by
                simp only [ble, Bool.not_eq_true']
                cases hx : Op.bytesLess x k with
                | false => rfl
                | true => exact absurd (.inr ⟨rfl, hx⟩) h1'
              rw [ih x this h2]
      exact key k x h1 h2
  · rintro rfl
    refine ⟨xCI _, .inr ?_⟩
    induction x with
    | nil => rfl
    | cons a x ih => exact blt_cons.2 (.inr ⟨rfl, ih⟩)
end Go.Pu
set_option linter.unusedVariables false
namespace Go.Pu
theorem begins_iff {k p : Str} : xAD k p = true ↔ ∃ r, k = p ++ r := by
  simp only [xAD, Bool.and_eq_true, decide_eq_true_eq, beq_iff_eq]
  constructor
  · rintro ⟨h1, h2⟩
    refine ⟨k.drop p.length, ?_⟩
    have := List.take_append_drop p.length k
    rw [h2] at this
    exact this.symm
  · rintro ⟨r, rfl⟩
    simp
theorem xEK {p a b : Str} : Op.bytesLess (p ++ a) (p ++ b) = Op.bytesLess a b := by
  induction p with
  | nil => rfl
  | cons x p ih =>
    rw [Bool.eq_iff_iff, List.cons_append, List.cons_append, blt_cons, ih]
    simp [UInt8.lt_irrefl]
theorem xDG {p a b : Str} : ble (p ++ a) (p ++ b) = ble a b := by simp [ble, xEK]
theorem xDC (p r : Str) : ble p (p ++ r) = true := by
  have := xDG (p := p) (a := []) (b := r)
  rw [List.append_nil] at this
  rw [this]; exact xEL r
theorem xGj (p : Str) : ∀ n, n ≤ p.length → (∀ i, xBg p n ≤ i → i < n → p[i]? = some 255) ∧ (∀ m, xBg p n = m + 1 → p[m]? ≠ some 255)
  | 0, _ => ⟨fun i _ h => by omega, fun m h => by cases h⟩
  | n + 1, hn => by
    obtain ⟨h1, h2⟩ := xGj p n (by omega)
    by_cases h : p[n]? = some 255
    · have e : xBg p (n + 1) = xBg p n := by rw [xBg, if_pos h]
      rw [e]
      refine ⟨fun i hi hl => ?_, h2⟩
      by_cases he : i = n
      · subst he; exact h
      · exact h1 i hi (by omega)
    · have e : xBg p (n + 1) = n + 1 := by rw [xBg, if_neg h]
      rw [e]
      refine ⟨fun i hi hl => by omega, fun m hm => ?_⟩
      have : m = n := by omega
      subst this; exact h
theorem lt_up {c : UInt8} (h : c ≠ 255) : c < c + 1 := by
  rw [UInt8.lt_iff_toNat_lt]
  have h1 : c.toNat ≠ 255 := fun e => h (UInt8.toNat_inj.1 e)
  have h2 : c.toNat < 256 := c.toNat_lt
  rw [UInt8.toNat_add]
  simp
  omega
theorem up_le {c x : UInt8} (h : c ≠ 255) (hx : x < c + 1) : x ≤ c := by
  rw [UInt8.lt_iff_toNat_lt, UInt8.toNat_add] at hx
  rw [UInt8.le_iff_toNat_le]
  have h1 : c.toNat ≠ 255 := fun e => h (UInt8.toNat_inj.1 e)
  have h2 : c.toNat < 256 := c.toNat_lt
  simp at hx
  omega
theorem le_255 (x : UInt8) : x ≤ 255 := by
  rw [UInt8.le_iff_toNat_le]
  have := x.toNat_lt
  show x.toNat ≤ 255
  omega
theorem xFr : ∀ (p k : Str), (∀ c ∈ p, c = 255) → ble p k = true → xAD k p = true
  | [], k, _, _ => begins_iff.2 ⟨k, rfl⟩
  | c :: p, k, h, hk => by
    cases k with
    | nil =>
      rw [ble_iff] at hk
      rcases hk with hk | hk
      · rw [xBu] at hk; cases hk
      · cases hk
    | cons x k =>
      have hc : c = 255 := h c (by simp)
      subst hc
      have hx : ¬ (x < 255 ∨ x = 255 ∧ Op.bytesLess k p = true) := by
        intro h'
        have := blt_cons.2 h'
        simp [ble, this] at hk
      have hxe : x = 255 := UInt8.le_antisymm (le_255 x) (UInt8.not_lt.1 (fun h' => hx (.inl h')))
      subst hxe
      have : ble p k = true := by
        simp only [ble, Bool.not_eq_true']
        cases hb : Op.bytesLess k p with
        | false => rfl
        | true => exact absurd (.inr ⟨rfl, hb⟩) hx
      obtain ⟨r, rfl⟩ := begins_iff.1 (xFr p k (fun c hc => h c (by simp [hc])) this)
      exact begins_iff.2 ⟨r, rfl⟩
theorem xPL {a : Str} {c : UInt8} {q : Str} (hc : c ≠ 255) (hq : ∀ x ∈ q, x = 255) (k : Str) : (ble (a ++ c :: q) k = true ∧ Op.bytesLess k (a ++ [c + 1]) = true) ↔ xAD k (a ++ c :: q) = true := by
  constructor
  · rintro ⟨h1, h2⟩
    have ha : ∀ (a k : Str), ble (a ++ c :: q) k = true → Op.bytesLess k (a ++ [c + 1]) = true → ∃ r, k = a ++ r := by
      intro a
      induction a with
      | nil => intro k _ _; exact ⟨k, rfl⟩
      | cons x a ih =>
        intro k h1 h2
        cases k with
        | nil =>
          rw [ble_iff] at h1
          rcases h1 with h1 | h1
          · rw [xBu] at h1; cases h1
          · cases h1
        | cons y k =>
          rw [List.cons_append, blt_cons] at h2
          have h1' : ¬ (y < x ∨ y = x ∧ Op.bytesLess k (a ++ c :: q) = true) := by
            intro h'
            have := blt_cons.2 h'
            rw [List.cons_append] at h1
            simp [ble, this] at h1
          have hxy : y = x := by
            rcases h2 with h2 | ⟨h2, _⟩
            · exact absurd (.inl h2) h1'
            · exact h2
          subst hxy
          have h2' : Op.bytesLess k (a ++ [c + 1]) = true := by
            rcases h2 with h2 | ⟨_, h2⟩
            · exact absurd h2 (UInt8.lt_irrefl _)
            · exact h2
          have : ble (a ++ c :: q) k = true := by
            simp only [ble, Bool.not_eq_true']
            cases hb : Op.bytesLess k (a ++ c :: q) with
            | false => rfl
            | true => exact absurd (.inr ⟨rfl, hb⟩) h1'
          obtain ⟨r, rfl⟩ := ih k this h2'
          exact ⟨r, rfl⟩
    obtain ⟨r, rfl⟩ := ha a k h1 h2
    rw [xDG] at h1
    rw [xEK] at h2
    cases r with
    | nil =>
      rw [ble_iff] at h1
      rcases h1 with h1 | h1
      · rw [xBu] at h1; cases h1
      · cases h1
    | cons y r =>
      rw [blt_cons] at h2
      have hyc : y ≤ c := by
        rcases h2 with h2 | ⟨_, h2⟩
        · exact up_le hc h2
        · rw [xBu] at h2; cases h2
      have h1' : ¬ (y < c ∨ y = c ∧ Op.bytesLess r q = true) := by
        intro h'
        have := blt_cons.2 h'
        simp [ble, this] at h1
      have hye : y = c := UInt8.le_antisymm hyc (UInt8.not_lt.1 (fun h' => h1' (.inl h')))
      subst hye
      have : ble q r = true := by
        simp only [ble, Bool.not_eq_true']
        cases hb : Op.bytesLess r q with
        | false => rfl
        | true => exact absurd (.inr ⟨rfl, hb⟩) h1'
      obtain ⟨s, rfl⟩ := begins_iff.1 (xFr q r hq this)
      exact begins_iff.2 ⟨s, by simp⟩
  · intro h
    obtain ⟨r, rfl⟩ := begins_iff.1 h
    refine ⟨xDC _ _, ?_⟩
    rw [List.append_assoc, xEK, List.cons_append]
    exact blt_cons.2 (.inl (lt_up hc))
theorem xGi (p : Str) : (upL p = [] ∧ ∀ c ∈ p, c = 255) ∨ ∃ a c q, p = a ++ c :: q ∧ c ≠ 255 ∧ (∀ x ∈ q, x = 255) ∧ upL p = a ++ [c + 1] := by
  obtain ⟨h1, h2⟩ := xGj p p.length (Nat.le_refl _)
  have hle := xJR p p.length
  unfold upL
  cases hs : xBg p p.length with
  | zero =>
    left
    refine ⟨rfl, fun c hc => ?_⟩
    obtain ⟨i, hi⟩ := List.mem_iff_getElem?.1 hc
    have := h1 i (by omega) (List.getElem?_eq_some_iff.1 hi).1
    rw [hi] at this
    simpa using this
  | succ n =>
    right
    have hn : n < p.length := by omega
    have hg : p[n]? = some p[n] := List.getElem?_eq_getElem hn
    refine ⟨p.take n, p[n], p.drop (n + 1), ?_, ?_, ?_, ?_⟩
    · rw [← List.drop_eq_getElem_cons hn, List.take_append_drop]
    · intro e
      rw [e] at hg
      exact h2 n hs hg
    · intro x hx
      obtain ⟨i, hi⟩ := List.mem_iff_getElem?.1 hx
      rw [List.getElem?_drop] at hi
      have := h1 (n + 1 + i) (by omega) (List.getElem?_eq_some_iff.1 hi).1
      rw [hi] at this
      simpa using this
    · simp only [List.getD, hg, Option.getD_some]
theorem xAc (p k : Str) : hasL (xAG p) k = xAD k p := by
  rw [Bool.eq_iff_iff, has_iff]
  simp only [xAG]
  rcases xGi p with ⟨h1, h2⟩ | ⟨a, c, q, rfl, hc, hq, hu⟩
  · rw [h1]
    constructor
    · rintro ⟨h3, _⟩; exact xFr p k h2 h3
    · intro h
      obtain ⟨r, rfl⟩ := begins_iff.1 h
      exact ⟨xDC _ _, .inl rfl⟩
  · rw [hu, ← xPL hc hq k]
    constructor
    · rintro ⟨h3, h4 | h4⟩
      · simp at h4
      · exact ⟨h3, h4⟩
    · rintro ⟨h3, h4⟩; exact ⟨h3, .inr h4⟩
theorem xCW (p : Str) : xAJ (xAG p) = false := by
  cases h : xAJ (xAG p) with
  | false => rfl
  | true =>
    have := xAd h p
    rw [xAc, begins_iff.2 ⟨[], by simp⟩] at this
    cases this
theorem xE8 (p : Str) : xAJ (oneL p) = false := by
  cases h : xAJ (oneL p) with
  | false => rfl
  | true =>
    have := xAd h p
    rw [xFY] at this
    simp at this
theorem xKg (p : Str) : (upL p).length ≤ p.length := by
  rcases xGi p with ⟨h1, _⟩ | ⟨a, c, q, rfl, _, _, hu⟩
  · rw [h1]; simp
  · rw [hu]; simp
theorem moved_app (f x t : Str) : xD7 (f ++ x) f t = (t ++ x, true) := by
  have : xAD (f ++ x) f = true := begins_iff.2 ⟨x, rfl⟩
  simp [xD7, this]
theorem moved_not {k f t : Str} (h : xAD k f = false) : xD7 k f t = ([], false) := by simp [xD7, h]
end Go.Pu
set_option linter.unusedVariables false
set_option linter.unusedSimpArgs false
namespace Go.Pu
theorem xEM {a b : Str} (h1 : ble a b = true) (h2 : ble b a = true) : a = b := by
  rcases ble_iff.1 h1 with h | h
  · rw [ble, Bool.not_eq_true', h] at h2; cases h2
  · exact h
def insI (s : SpanL) : List SpanL → List SpanL → Bool → List SpanL × Bool
  | [], o, d => (o, d)
  | y :: l, o, d => if d = false ∧ Op.bytesLess s.lo y.lo = true then insI s l (o ++ [s] ++ [y]) true else insI s l (o ++ [y]) d
def insS (l : List SpanL) (s : SpanL) : List SpanL :=
  if (insI s l [] (xAJ s)).2 = false then (insI s l [] (xAJ s)).1 ++ [s] else (insI s l [] (xAJ s)).1
def xKm (l : List SpanL) : List SpanL := l.foldl insS []
def xC3 (out : List SpanL) (s : SpanL) : List SpanL :=
  match out[out.length - 1]? with
  | none => out ++ [s]
  | some x => if x.hi ≠ [] ∧ Op.bytesLess x.hi s.lo = true then out ++ [s] else if xEa x.hi s.hi = true then out.set (out.length - 1) ⟨x.lo, s.hi⟩ else out
def xM2 (l : List SpanL) : List SpanL := l.foldl xC3 []
def xAV (l : List SpanL) : List SpanL := xM2 (xKm l)
theorem xI1 (s : SpanL) : ∀ (l o : List SpanL) (d : Bool), (insI s l o d).1.length = o.length + l.length + (if d = false ∧ (insI s l o d).2 = true then 1 else 0)
  | [], o, d => by cases d <;> simp [insI]
  | y :: l, o, d => by
    unfold insI
    split
    · rename_i h
      have h2 : ∀ (l o : List SpanL), (insI s l o true).2 = true := by
        intro l
        induction l with
        | nil => intro o; rfl
        | cons z l ih => intro o; unfold insI; rw [if_neg (by simp)]; exact ih _
      have := xI1 s l (o ++ [s] ++ [y]) true
      rw [h2, h.1]
      simp at this ⊢
      omega
    · have := xI1 s l (o ++ [y]) d
      simp only [List.length_append, List.length_cons, List.length_nil] at this ⊢
      omega
theorem xQb (l : List SpanL) (s : SpanL) : (insS l s).length ≤ l.length + 1 := by
  have := xI1 s l [] (xAJ s)
  unfold insS
  generalize insI s l [] (xAJ s) = r at this
  generalize xAJ s = d at this
  obtain ⟨r1, r2⟩ := r
  cases r2 <;> cases d <;> simp at this ⊢ <;> omega
theorem xJS (out : List SpanL) (s : SpanL) : (xC3 out s).length ≤ out.length + 1 := by
  unfold xC3
  split
  · simp
  · split
    · simp
    · split
      · simp
      · omega
theorem xOJ (l : List SpanL) : (xM2 l).length ≤ l.length := by
  have key : ∀ (l o : List SpanL), (l.foldl xC3 o).length ≤ o.length + l.length := by
    intro l
    induction l with
    | nil => intro o; exact Nat.le_refl _
    | cons s l ih =>
      intro o
      have := xJS o s
      have := ih (xC3 o s)
      simp only [List.foldl_cons, List.length_cons] at this ⊢
      omega
  have := key l []
  simpa [xM2] using this
def Lo (l : List SpanL) : Prop := l.Pairwise (fun a b => ble a.lo b.lo = true)
theorem xDm (s : SpanL) : ∀ (l o : List SpanL) (d : Bool), insI s l o d = (o ++ (insI s l [] d).1, (insI s l [] d).2)
  | [], o, d => by simp [insI]
  | y :: l, o, d => by
    unfold insI
    split
    · rw [xDm s l (o ++ [s] ++ [y]), xDm s l ([] ++ [s] ++ [y])]; simp
    · rw [xDm s l (o ++ [y]), xDm s l ([] ++ [y])]; simp
def insP (s : SpanL) : List SpanL → List SpanL
  | [] => [s]
  | y :: l => if Op.bytesLess s.lo y.lo = true then s :: y :: l else y :: insP s l
theorem xHJ (s : SpanL) : ∀ (l : List SpanL), insI s l [] true = (l, true)
  | [] => rfl
  | y :: l => by
    unfold insI
    rw [if_neg (by simp), xDm, xHJ s l]; simp
theorem xSu (l : List SpanL) (s : SpanL) : insS l s = if xAJ s = true then l else insP s l := by
  unfold insS
  cases he : xAJ s with
  | true => rw [xHJ]; simp
  | false =>
    have key : ∀ l : List SpanL, (if (insI s l [] false).2 = false then (insI s l [] false).1 ++ [s] else (insI s l [] false).1) = insP s l := by
      intro l
      induction l with
      | nil => simp [insI, insP]
      | cons y l ih =>
        have hI : insI s (y :: l) [] false = if Op.bytesLess s.lo y.lo = true then (s :: y :: l, true) else (y :: (insI s l [] false).1, (insI s l [] false).2) := by
          rw [insI]
          by_cases h : Op.bytesLess s.lo y.lo = true
          · rw [if_pos ⟨rfl, h⟩, if_pos h, xDm, xHJ]; simp
          · rw [if_neg (by simp [h]), if_neg h, xDm]; simp
        rw [hI, insP]
        by_cases h : Op.bytesLess s.lo y.lo = true
        · rw [if_pos h, if_pos h]; simp
        · rw [if_neg h, if_neg h, ← ih]
          cases h2 : (insI s l [] false).2 <;> simp [h2]
    simpa using key l
theorem insP_mem {s x : SpanL} : ∀ {l : List SpanL}, x ∈ insP s l ↔ x = s ∨ x ∈ l
  | [] => by simp [insP]
  | y :: l => by
    unfold insP
    split
    · simp
    · simp only [List.mem_cons, insP_mem (l := l)]
      constructor
      · rintro (h | h | h)
        · exact .inr (.inl h)
        · exact .inl h
        · exact .inr (.inr h)
      · rintro (h | h | h)
        · exact .inr (.inl h)
        · exact .inl h
        · exact .inr (.inr h)
theorem xOl {s : SpanL} : ∀ {l : List SpanL}, Lo l → Lo (insP s l)
  | [], _ => by simp [insP, Lo]
  | y :: l, h => by
    unfold insP
    obtain ⟨h1, h2⟩ := List.pairwise_cons.1 h
    split
    · rename_i hb
      refine List.pairwise_cons.2 ⟨fun z hz => ?_, h⟩
      have hsy : ble s.lo y.lo = true := ble_iff.2 (.inl hb)
      rcases List.mem_cons.1 hz with rfl | hz
      · exact hsy
      · exact xBG hsy (h1 z hz)
    · rename_i hb
      refine List.pairwise_cons.2 ⟨fun z hz => ?_, xOl h2⟩
      rcases insP_mem.1 hz with rfl | hz
      · simp [ble, hb]
      · exact h1 z hz
theorem xFV (l : List SpanL) : Lo (xKm l) ∧ (∀ s ∈ xKm l, xAJ s = false) ∧ ∀ s, s ∈ xKm l ↔ s ∈ l ∧ xAJ s = false := by
  have key : ∀ (l o : List SpanL), Lo o → (∀ s ∈ o, xAJ s = false) → Lo (l.foldl insS o) ∧ (∀ s ∈ l.foldl insS o, xAJ s = false) ∧ ∀ s, s ∈ l.foldl insS o ↔ s ∈ o ∨ (s ∈ l ∧ xAJ s = false) := by
    intro l
    induction l with
    | nil => intro o h1 h2; exact ⟨h1, h2, fun s => by simp⟩
    | cons x l ih =>
      intro o h1 h2
      have hx := xSu o x
      cases he : xAJ x with
      | true =>
        rw [he, if_pos rfl] at hx
        obtain ⟨g1, g2, g3⟩ := ih o h1 h2
        rw [List.foldl_cons, hx]
        refine ⟨g1, g2, fun s => (g3 s).trans ?_⟩
        constructor
        · rintro (h | ⟨h, h'⟩)
          · exact .inl h
          · exact .inr ⟨by simp [h], h'⟩
        · rintro (h | ⟨h, h'⟩)
          · exact .inl h
          · rcases List.mem_cons.1 h with rfl | h
            · rw [he] at h'; cases h'
            · exact .inr ⟨h, h'⟩
      | false =>
        rw [he, if_neg (by simp)] at hx
        obtain ⟨g1, g2, g3⟩ := ih (insP x o) (xOl h1) (fun s hs => by rcases insP_mem.1 hs with rfl | hs; exact he; exact h2 s hs)
        rw [List.foldl_cons, hx]
        refine ⟨g1, g2, fun s => (g3 s).trans ?_⟩
        rw [insP_mem]
        constructor
        · rintro ((h | h) | ⟨h, h'⟩)
          · subst h; exact .inr ⟨by simp, he⟩
          · exact .inl h
          · exact .inr ⟨by simp [h], h'⟩
        · rintro (h | ⟨h, h'⟩)
          · exact .inl (.inr h)
          · rcases List.mem_cons.1 h with rfl | h
            · exact .inl (.inl rfl)
            · exact .inr ⟨h, h'⟩
  obtain ⟨h1, h2, h3⟩ := key l [] List.Pairwise.nil (by simp)
  exact ⟨h1, h2, fun s => (h3 s).trans (by simp)⟩
def inL (l : List SpanL) (k : Str) : Bool := l.any (fun s => hasL s k)
theorem inL_iff {l : List SpanL} {k : Str} : inL l k = true ↔ ∃ s ∈ l, hasL s k = true := by simp [inL]
def sep (a b : SpanL) : Prop := a.hi ≠ [] ∧ Op.bytesLess a.hi b.lo = true
structure Nrm (l : List SpanL) : Prop where
  ne : ∀ s ∈ l, xAJ s = false
  pw : l.Pairwise sep
theorem Nrm.tail {s : SpanL} {l : List SpanL} (h : Nrm (s :: l)) : Nrm l := ⟨fun t ht => h.ne t (by simp [ht]), (List.pairwise_cons.1 h.pw).2⟩
theorem xBD {s : SpanL} (h : xAJ s = false) (hh : s.hi ≠ []) : Op.bytesLess s.lo s.hi = true := by
  have := (has_iff.1 (xDT h)).2
  rcases this with h1 | h1
  · exact absurd h1 hh
  · exact h1
theorem Nrm.above {s : SpanL} {l : List SpanL} (h : Nrm (s :: l)) {k : Str} (hk : inL l k = true) : s.hi ≠ [] ∧ Op.bytesLess s.hi k = true := by
  obtain ⟨t, ht, hk⟩ := inL_iff.1 hk
  obtain ⟨h1, h2⟩ := (List.pairwise_cons.1 h.pw).1 t ht
  exact ⟨h1, xAg h2 (has_iff.1 hk).1⟩
theorem xAT {s : SpanL} {l : List SpanL} {k : Str} : inL (s :: l) k = (hasL s k || inL l k) := by simp [inL]
theorem Nrm.ext : ∀ {l m : List SpanL}, Nrm l → Nrm m → (∀ k, inL l k = inL m k) → l = m
  | [], [], _, _, _ => rfl
  | [], t :: m, _, h, hk => by
    have := hk t.lo
    rw [xAT, xDT (h.ne t (by simp))] at this
    simp [inL] at this
  | s :: l, [], h, _, hk => by
    have := hk s.lo
    rw [xAT, xDT (h.ne s (by simp))] at this
    simp [inL] at this
  | s :: l, t :: m, h, g, hk => by
    have least : ∀ {s : SpanL} {l : List SpanL}, Nrm (s :: l) → ∀ {k : Str}, inL (s :: l) k = true → ble s.lo k = true := by
      intro s l h k hk
      rw [xAT, Bool.or_eq_true] at hk
      rcases hk with hk | hk
      · exact (has_iff.1 hk).1
      · obtain ⟨h1, h2⟩ := h.above hk
        exact ble_iff.2 (.inl (xAo (xBD (h.ne s (by simp)) h1) h2))
    have hlo : s.lo = t.lo := by
      have h1 := least h (k := t.lo) (by rw [hk, xAT, xDT (g.ne t (by simp))]; rfl)
      have h2 := least g (k := s.lo) (by rw [← hk, xAT, xDT (h.ne s (by simp))]; rfl)
      exact xEM h1 h2
    have ends : ∀ {s t : SpanL} {l m : List SpanL}, Nrm (s :: l) → Nrm (t :: m) → (∀ k, inL (s :: l) k = inL (t :: m) k) → s.lo = t.lo → ¬ elt s.hi t.hi := by
      intro s t l m h g hk hlo he
      have hs := xBD (h.ne s (by simp)) he.1
      have h1 : hasL t s.hi = true := has_iff.2 ⟨ble_iff.2 (.inl (hlo ▸ hs)), he.2⟩
      have h2 := hk s.hi
      rw [xAT (s := t), h1, xAT] at h2
      have h3 : hasL s s.hi = false := by
        cases h4 : hasL s s.hi with
        | false => rfl
        | true =>
          rcases (has_iff.1 h4).2 with h5 | h5
          · exact absurd h5 he.1
          · rw [xAs] at h5; cases h5
      rw [h3] at h2
      have h4 : inL l s.hi = true := by simpa using h2
      have := (h.above h4).2
      rw [xAs] at this; cases this
    have hhi : s.hi = t.hi := by
      rcases xOw s.hi t.hi with e | e | e
      · exact absurd e (ends h g hk hlo)
      · exact e
      · exact absurd e (ends g h (fun k => (hk k).symm) hlo.symm)
    have hst : s = t := by cases s; cases t; simp_all
    subst hst
    rw [Nrm.ext h.tail g.tail (fun k => ?_)]
    have := hk k
    rw [xAT, xAT] at this
    cases hs : hasL s k with
    | false => rw [hs] at this; simpa using this
    | true =>
      have no : ∀ {l : List SpanL}, Nrm (s :: l) → inL l k = false := by
        intro l h
        cases hl : inL l k with
        | false => rfl
        | true =>
          obtain ⟨h1, h2⟩ := h.above hl
          rcases (has_iff.1 hs).2 with h3 | h3
          · exact absurd h3 h1
          · rw [xBp h2] at h3; cases h3
      rw [no h, no g]
theorem xDz (o : List SpanL) (x s : SpanL) : xC3 (o ++ [x]) s = if x.hi ≠ [] ∧ Op.bytesLess x.hi s.lo = true then o ++ [x] ++ [s] else if xEa x.hi s.hi = true then o ++ [⟨x.lo, s.hi⟩] else o ++ [x] := by
  unfold xC3
  simp
theorem xFa : ∀ (l o : List SpanL), Nrm o → Lo l → (∀ s ∈ l, xAJ s = false) → (∀ x ∈ o, ∀ s ∈ l, ble x.lo s.lo = true) → Nrm (l.foldl xC3 o) ∧ ∀ k, inL (l.foldl xC3 o) k = (inL o k || inL l k)
  | [], o, h, _, _, _ => ⟨h, fun k => by simp [inL]⟩
  | s :: l, o, h, hl, hne, hb => by
    obtain ⟨hl1, hl2⟩ := List.pairwise_cons.1 hl
    have hse := hne s (by simp)
    have go : ∀ o', Nrm o' → (∀ x ∈ o', ∀ t ∈ l, ble x.lo t.lo = true) → (∀ k, inL o' k = (inL o k || hasL s k)) → xC3 o s = o' → Nrm ((s :: l).foldl xC3 o) ∧ ∀ k, inL ((s :: l).foldl xC3 o) k = (inL o k || inL (s :: l) k) := by
      intro o' h1 h2 h3 h4
      obtain ⟨g1, g2⟩ := xFa l o' h1 hl2 (fun t ht => hne t (by simp [ht])) h2
      rw [List.foldl_cons, h4]
      refine ⟨g1, fun k => ?_⟩
      rw [g2, h3, xAT, Bool.or_assoc]
    rcases List.eq_nil_or_concat o with rfl | ⟨p, x, rfl⟩
    · exact go [s] ⟨by simpa using hse, by simp⟩ (by simpa using hl1) (fun k => by simp [inL]) rfl
    · rw [List.concat_eq_append] at *
      have hxs := hb x (by simp) s (by simp)
      have hxe := h.ne x (by simp)
      have hpx : ∀ y ∈ p, sep y x := fun y hy => (List.pairwise_append.1 h.pw).2.2 y hy x (by simp)
      have hpp := (List.pairwise_append.1 h.pw).1
      have inA : ∀ (q : List SpanL) (y : SpanL) (k : Str), inL (q ++ [y]) k = (inL q k || hasL y k) := by intro q y k; simp [inL]
      by_cases h1 : x.hi ≠ [] ∧ Op.bytesLess x.hi s.lo = true
      · refine go (p ++ [x] ++ [s]) ⟨fun t ht => ?_, ?_⟩ (fun y hy t ht => ?_) (fun k => by rw [inA]) (by rw [xDz, if_pos h1])
        · rcases List.mem_append.1 ht with ht | ht
          · exact h.ne t ht
          · rw [List.mem_singleton.1 ht]; exact hse
        · refine List.pairwise_append.2 ⟨h.pw, by simp, fun y hy t ht => ?_⟩
          rw [List.mem_singleton.1 ht]
          rcases List.mem_append.1 hy with hy | hy
          · obtain ⟨g1, g2⟩ := hpx y hy
            exact ⟨g1, xAg g2 hxs⟩
          · rw [List.mem_singleton.1 hy]; exact h1
        · rcases List.mem_append.1 hy with hy | hy
          · exact hb y hy t (by simp [ht])
          · rw [List.mem_singleton.1 hy]; exact hl1 t ht
      · -- s begins in x or at its end
        have hin : x.hi = [] ∨ ble s.lo x.hi = true := by
          by_cases hx : x.hi = []
          · exact .inl hx
          · right
            have : ¬ Op.bytesLess x.hi s.lo = true := fun h' => h1 ⟨hx, h'⟩
            simp [ble, this]
        by_cases h2 : xEa x.hi s.hi = true
        · have he := less_iff.1 h2
          have hx0 := he.1
          have hsx : ble s.lo x.hi = true := by rcases hin with h' | h'; exact absurd h' hx0; exact h'
          have hxlt := xBD hxe hx0
          have hnew : xAJ ⟨x.lo, s.hi⟩ = false := by
            cases h' : xAJ ⟨x.lo, s.hi⟩ with
            | false => rfl
            | true =>
              obtain ⟨g1, g2⟩ := empty_iff.1 h'
              rcases he.2 with h'' | h''
              · exact absurd h'' g1
              · have := xAg (xAo hxlt h'') g2
                rw [xAs] at this; cases this
          refine go (p ++ [⟨x.lo, s.hi⟩]) ⟨fun t ht => ?_, ?_⟩ (fun y hy t ht => ?_) (fun k => ?_) (by rw [xDz, if_neg h1, if_pos h2])
          · rcases List.mem_append.1 ht with ht | ht
            · exact h.ne t (by simp [ht])
            · rw [List.mem_singleton.1 ht]; exact hnew
          · refine List.pairwise_append.2 ⟨hpp, by simp, fun y hy t ht => ?_⟩
            rw [List.mem_singleton.1 ht]
            exact hpx y hy
          · rcases List.mem_append.1 hy with hy | hy
            · exact hb y (by simp [hy]) t (by simp [ht])
            · rw [List.mem_singleton.1 hy]; exact hb x (by simp) t (by simp [ht])
          · rw [inA, inA, Bool.or_assoc]
            congr 1
            rw [Bool.eq_iff_iff, Bool.or_eq_true, has_iff, has_iff, has_iff]
            simp only
            constructor
            · rintro ⟨g1, g2⟩
              cases hk : Op.bytesLess k x.hi with
              | true => exact .inl ⟨g1, .inr rfl⟩
              | false => exact .inr ⟨xBG hsx (by simp [ble, hk]), g2⟩
            · rintro (⟨g1, g2⟩ | ⟨g1, g2⟩)
              · refine ⟨g1, ?_⟩
                rcases g2 with g2 | g2
                · exact absurd g2 hx0
                · rcases he.2 with h' | h'
                  · exact .inl h'
                  · exact .inr (xAo g2 h')
              · exact ⟨xBG hxs g1, g2⟩
        · have hne2 : ¬ elt x.hi s.hi := fun h' => h2 (less_iff.2 h')
          refine go (p ++ [x]) h (fun y hy t ht => hb y hy t (by simp [ht])) (fun k => ?_) (by rw [xDz, if_neg h1, if_neg h2])
          have : hasL s k = true → hasL x k = true := by
            rw [has_iff, has_iff]
            rintro ⟨g1, g2⟩
            refine ⟨xBG hxs g1, ?_⟩
            by_cases hx : x.hi = []
            · exact .inl hx
            · right
              rcases g2 with g2 | g2
              · exact absurd ⟨hx, .inl g2⟩ hne2
              · rcases xBt x.hi s.hi with h' | h' | h'
                · exact absurd ⟨hx, .inr h'⟩ hne2
                · rw [h']; exact g2
                · exact xAo g2 h'
          rw [inA]
          cases hs : hasL s k with
          | false => simp
          | true => rw [this hs]; simp
theorem xAZ (l : List SpanL) : Nrm (xAV l) ∧ ∀ k, inL (xAV l) k = inL l k := by
  obtain ⟨h1, h2, h3⟩ := xFV l
  obtain ⟨g1, g2⟩ := xFa (xKm l) [] ⟨by simp, by simp⟩ h1 h2 (by simp)
  refine ⟨g1, fun k => (g2 k).trans ?_⟩
  rw [show inL [] k = false from rfl, Bool.false_or, Bool.eq_iff_iff, inL_iff, inL_iff]
  constructor
  · rintro ⟨s, hs, hk⟩; exact ⟨s, ((h3 s).1 hs).1, hk⟩
  · rintro ⟨s, hs, hk⟩
    refine ⟨s, (h3 s).2 ⟨hs, ?_⟩, hk⟩
    cases he : xAJ s with
    | false => rfl
    | true => rw [xAd he] at hk; cases hk
theorem xOK {l m : List SpanL} (hm : Lo m) (hp : m.Perm (l.filter (fun s => !xAJ s))) : xM2 m = xAV l := by
  have he : ∀ s ∈ m, xAJ s = false := fun s hs => by have := hp.mem_iff.1 hs; simp at this; exact this.2
  obtain ⟨g1, g2⟩ := xFa m [] ⟨by simp, by simp⟩ hm he (by simp)
  obtain ⟨r1, r2⟩ := xAZ l
  refine Nrm.ext g1 r1 (fun k => ?_)
  show inL (m.foldl xC3 []) k = _
  rw [g2, r2, show inL [] k = false from rfl, Bool.false_or, Bool.eq_iff_iff, inL_iff, inL_iff]
  constructor
  · rintro ⟨s, hs, hk⟩
    have := hp.mem_iff.1 hs
    exact ⟨s, (List.mem_filter.1 this).1, hk⟩
  · rintro ⟨s, hs, hk⟩
    refine ⟨s, hp.mem_iff.2 (List.mem_filter.2 ⟨hs, ?_⟩), hk⟩
    cases he : xAJ s with
    | false => rfl
    | true => rw [xAd he] at hk; cases hk
end Go.Pu
set_option linter.unusedVariables false
set_option linter.unusedSimpArgs false
namespace Go.Pu
instance : Inhabited SpanL := ⟨⟨[], []⟩⟩
section
variable {α : Type} [Inhabited α]
theorem gb {xs : List α} {i : Nat} {x : α} (h : xs[i]? = some x) : xs.toArray[i]! = x := by
  simp [h]
theorem xBv {xs : List α} {i j : Nat} {x y : α} (hx : xs[i]? = some x) (hy : xs[j]? = some y) : Sort.swp xs.toArray i j = ((xs.set i y).set j x).toArray := by
  unfold Sort.swp
  rw [gb hx, gb hy]
  simp
theorem xCe (lt : α → α → Bool) (hi first root : Nat) (d : Array α) : (Sort.siftDown lt hi first root d).size = d.size := by
  fun_induction Sort.siftDown lt hi first root d <;> simp_all [Sort.size_swp]
theorem xEh (lt : α → α → Bool) (hi first : Nat) : ∀ (k : Nat) (d : Array α), (Sort.heapBuild lt hi first k d).size = d.size
  | 0, d => rfl
  | k + 1, d => by rw [Sort.heapBuild, xEh lt hi first k, xCe]
end
def ltS (a b : SpanL) : Bool := decide (xCA a.lo b.lo < 0)
theorem xL5 (a b : SpanL) : ltS a b = Op.bytesLess a.lo b.lo := by
  rw [Bool.eq_iff_iff, ltS, decide_eq_true_eq, cmpStr_lt]
theorem xOZ : Sort.SWO ltS where
  irrefl x := by rw [xL5, xAs]
  trans x y z h1 h2 := by rw [xL5] at *; exact xAo h1 h2
  ntrans x y z h1 h2 := by
    rw [xL5] at *
    have g1 : ble y.lo x.lo = true := by simp [ble, h1]
    have g2 : ble z.lo y.lo = true := by simp [ble, h2]
    have := xBG g2 g1
    simpa [ble] using this
end Go.Pu
set_option linter.unusedVariables false
set_option linter.unusedSimpArgs false
namespace Go.Pu
section
variable {α : Type} [Inhabited α]
theorem xDE (lt : α → α → Bool) : ∀ (j : Nat) (d : Array α), (Sort.shiftDown lt j d).size = d.size
  | 0, d => rfl
  | j + 1, d => by
    rw [Sort.shiftDown]
    split
    · rfl
    · rw [xDE lt j, Sort.size_swp]
theorem xJZ (lt : α → α → Bool) (b j : Nat) (d : Array α) : (Sort.shiftUp lt b j d).size = d.size := by
  fun_induction Sort.shiftUp lt b j d <;> simp_all [Sort.size_swp]
theorem xCs (lt : α → α → Bool) (a b : Nat) : ∀ (s i : Nat) (d : Array α), (Sort.partialIns lt a b s i d).1.size = d.size
  | 0, i, d => rfl
  | s + 1, i, d => by
    rw [Sort.partialIns]
    simp only
    split
    · rfl
    · split
      · rfl
      · rw [xCs lt a b s]
        split
        · rw [xJZ]
          split
          · rw [xDE, Sort.size_swp]
          · rw [Sort.size_swp]
        · split
          · rw [xDE, Sort.size_swp]
          · rw [Sort.size_swp]
theorem xJl (lt : α → α → Bool) {d : Array α} {a b pivot : Nat} (h1 : a ≤ pivot) (h2 : pivot < b) (hb : b ≤ d.size) : a < (Sort.partitionEqual lt d a b pivot).1 ∧ (Sort.partitionEqual lt d a b pivot).1 ≤ b ∧ (Sort.partitionEqual lt d a b pivot).2.size = d.size := by
  obtain ⟨g1, g2, g3, _⟩ := Sort.partEqLoop_spec (lt := lt) a b (b - 1 + 1 - (a + 1)) (a + 1) (b - 1) (Sort.swp d a pivot) (Nat.le_refl _) (by omega) (by omega) (by omega) (by rw [Sort.size_swp]; exact hb) (fun t h h' => by omega) (fun t h h' => by omega)
  exact ⟨g1, g2, by have := g3.1; rw [Sort.size_swp] at this; exact this⟩
theorem xFI (lt : α → α → Bool) (a : Nat) : ∀ (j : Nat) (d : Array α), (Sort.insInner lt a j d).size = d.size
  | 0, d => rfl
  | j + 1, d => by
    rw [Sort.insInner]
    split
    · rw [xFI lt a j, Sort.size_swp]
    · rfl
theorem xIz (lt : α → α → Bool) (a b i : Nat) (d : Array α) : (Sort.insOuter lt a b i d).size = d.size := by
  fun_induction Sort.insOuter lt a b i d <;> simp_all [xFI]
theorem xF6 (lt : α → α → Bool) (first : Nat) : ∀ (k : Nat) (d : Array α), (Sort.heapPop lt first k d).size = d.size
  | 0, d => rfl
  | k + 1, d => by rw [Sort.heapPop, xF6 lt first k, xCe, Sort.size_swp]
theorem xI4 (lt : α → α → Bool) (d : Array α) (a b : Nat) : (Sort.heapSort lt d a b).size = d.size := by
  unfold Sort.heapSort
  rw [xF6, xEh]
theorem xGI (i j : Nat) (d : Array α) : (Sort.reverseLoop i j d).size = d.size := by
  fun_induction Sort.reverseLoop i j d <;> simp_all [Sort.size_swp]
theorem xJe (d : Array α) (a b : Nat) : (Sort.reverseRange d a b).size = d.size := xGI _ _ _
theorem xNH (d : Array α) (a b : Nat) : (Sort.breakPatterns d a b).size = d.size := by
  unfold Sort.breakPatterns Sort.breakStep
  simp only
  split
  · simp [Sort.size_swp]
  · rfl
theorem xIk (lt : α → α → Bool) (a i j : Nat) (d : Array α) : (Sort.partLoop lt a i j d).2.size = d.size := by
  fun_induction Sort.partLoop lt a i j d <;> simp_all [Sort.size_swp]
theorem xGp (lt : α → α → Bool) (a i j : Nat) (d : Array α) : (Sort.partEqLoop lt a i j d).2.size = d.size := by
  fun_induction Sort.partEqLoop lt a i j d <;> simp_all [Sort.size_swp]
theorem xDF (lt : α → α → Bool) (d : Array α) (a b p : Nat) : (Sort.partition lt d a b p).2.2.size = d.size := by
  unfold Sort.partition
  simp only
  split
  · simp [Sort.size_swp]
  · simp [Sort.size_swp, xIk]
theorem xCr (lt : α → α → Bool) (d : Array α) (a b p : Nat) : (Sort.partitionEqual lt d a b p).2.size = d.size := by
  unfold Sort.partitionEqual
  rw [xGp, Sort.size_swp]
end
end Go.Pu
set_option linter.unusedVariables false
set_option linter.unusedSimpArgs false
namespace Go.Pu
def ne (s : SpanL) : Bool := !xAJ s
def delL (xs : List SpanL) : List SpanL := xs.filter ne ++ List.replicate (xs.length - (xs.filter ne).length) ⟨[], []⟩
def xBi (xs : List SpanL) : Array SpanL := Sort.pdq ltS (delL xs).toArray 0 (xs.filter ne).length (Sort.bitsLen (xs.filter ne).length) true true
theorem xMP (xs : List SpanL) : (delL xs).length = xs.length := by
  have := List.length_filter_le ne xs
  simp [delL]; omega
theorem xJV (xs : List SpanL) : (xBi xs).size = xs.length ∧ xM2 ((xBi xs).toList.take (xs.filter ne).length) = xAV xs := by
  have hk : (xs.filter ne).length ≤ (delL xs).toArray.size := by simp [delL]
  obtain ⟨h1, h2⟩ := Sort.pdq_sorts ltS xOZ (delL xs).toArray 0 (xs.filter ne).length (Sort.bitsLen (xs.filter ne).length) true true (Nat.zero_le _) hk (.inl rfl)
  obtain ⟨g1, _, g3⟩ := h1
  have hs : (xBi xs).size = xs.length := by unfold xBi; rw [g1]; simp [xMP]
  refine ⟨hs, xOK ?_ ?_⟩
  · refine List.pairwise_iff_getElem.2 fun i j hi hj hij => ?_
    simp only [List.length_take, Array.length_toList] at hi hj
    rw [List.getElem_take, List.getElem_take, Array.getElem_toList, Array.getElem_toList]
    have := h2 i j (Nat.zero_le _) hij (by omega)
    rw [xL5] at this
    have e1 : (xBi xs)[i]! = (xBi xs)[i] := getElem!_pos (xBi xs) i (by omega)
    have e2 : (xBi xs)[j]! = (xBi xs)[j] := getElem!_pos (xBi xs) j (by omega)
    have h3 : Op.bytesLess (xBi xs)[j]!.lo (xBi xs)[i]!.lo = false := this
    rw [e1, e2] at h3
    simp [ble, h3]
  · have : ((delL xs).toArray.extract 0 (xs.filter ne).length).toList = xs.filter ne := by simp [delL]
    rw [this] at g3
    have e : ((xBi xs).extract 0 (xs.filter ne).length).toList = (xBi xs).toList.take (xs.filter ne).length := by simp
    rw [← e]
    exact g3
end Go.Pu
set_option linter.unusedVariables false
namespace Go.Pu
theorem xEi : ∀ (l o : List SpanL), (l.foldl insS o).length ≤ o.length + l.length
  | [], o => by simp
  | s :: l, o => by
    rw [List.foldl_cons, List.length_cons]
    have h1 := xEi l (insS o s)
    have h2 := xQb o s
    omega
theorem xD2 (l : List SpanL) : (xAV l).length ≤ l.length := by
  have h1 := xOJ (xKm l)
  have h2 := xEi l []
  unfold xAV
  unfold xKm at *
  simp only [List.length_nil] at h2
  omega
theorem xPg (o : List SpanL) (s t : SpanL) (h : t ∈ xC3 o s) : (∃ x ∈ o, x.lo = t.lo) ∨ t.lo = s.lo := by
  rcases List.eq_nil_or_concat o with rfl | ⟨o, x, rfl⟩
  · right
    have : t = s := by simpa [xC3] using h
    rw [this]
  · rw [List.concat_eq_append, xDz] at h
    split at h
    · rcases List.mem_append.1 h with h | h
      · exact .inl ⟨t, by simpa using h, rfl⟩
      · exact .inr (by rw [List.mem_singleton.1 h])
    · split at h
      · rcases List.mem_append.1 h with h | h
        · exact .inl ⟨t, by simp [h], rfl⟩
        · exact .inl ⟨x, by simp, by rw [List.mem_singleton.1 h]⟩
      · exact .inl ⟨t, by simpa using h, rfl⟩
theorem xLp : ∀ (l o : List SpanL) (t : SpanL), t ∈ l.foldl xC3 o → (∃ x ∈ o, x.lo = t.lo) ∨ ∃ x ∈ l, x.lo = t.lo
  | [], o, t, h => .inl ⟨t, h, rfl⟩
  | s :: l, o, t, h => by
    rw [List.foldl_cons] at h
    rcases xLp l _ t h with ⟨x, hx, hxt⟩ | ⟨x, hx, hxt⟩
    · rcases xPg o s x hx with ⟨y, hy, hyx⟩ | h2
      · exact .inl ⟨y, hy, hyx.trans hxt⟩
      · exact .inr ⟨s, by simp, h2.symm.trans hxt⟩
    · exact .inr ⟨x, by simp [hx], hxt⟩
theorem xE6 {l : List SpanL} {t : SpanL} (h : t ∈ xAV l) : ∃ x ∈ l, x.lo = t.lo ∧ xAJ x = false := by
  rcases xLp _ _ t h with ⟨x, hx, _⟩ | ⟨x, hx, hxt⟩
  · exact absurd hx (by simp)
  · have := ((xFV l).2.2 x).1 hx
    exact ⟨x, this.1, hxt, this.2⟩
theorem xPh (o : List SpanL) (s t : SpanL) (h : t ∈ xC3 o s) : (∃ x ∈ o, x.hi = t.hi) ∨ t.hi = s.hi := by
  rcases List.eq_nil_or_concat o with rfl | ⟨o, x, rfl⟩
  · right
    have : t = s := by simpa [xC3] using h
    rw [this]
  · rw [List.concat_eq_append, xDz] at h
    split at h
    · rcases List.mem_append.1 h with h | h
      · exact .inl ⟨t, by simpa using h, rfl⟩
      · exact .inr (by rw [List.mem_singleton.1 h])
    · split at h
      · rcases List.mem_append.1 h with h | h
        · exact .inl ⟨t, by simp [h], rfl⟩
        · exact .inr (by rw [List.mem_singleton.1 h])
      · exact .inl ⟨t, by simpa using h, rfl⟩
theorem xLq : ∀ (l o : List SpanL) (t : SpanL), t ∈ l.foldl xC3 o → (∃ x ∈ o, x.hi = t.hi) ∨ ∃ x ∈ l, x.hi = t.hi
  | [], o, t, h => .inl ⟨t, h, rfl⟩
  | s :: l, o, t, h => by
    rw [List.foldl_cons] at h
    rcases xLq l _ t h with ⟨x, hx, hxt⟩ | ⟨x, hx, hxt⟩
    · rcases xPh o s x hx with ⟨y, hy, hyx⟩ | h2
      · exact .inl ⟨y, hy, hyx.trans hxt⟩
      · exact .inr ⟨s, by simp, h2.symm.trans hxt⟩
    · exact .inr ⟨x, by simp [hx], hxt⟩
theorem xIf {l : List SpanL} {t : SpanL} (h : t ∈ xAV l) : ∃ x ∈ l, x.hi = t.hi := by
  rcases xLq _ _ t h with ⟨x, hx, _⟩ | ⟨x, hx, hxt⟩
  · exact absurd hx (by simp)
  · exact ⟨x, (((xFV l).2.2 x).1 hx).1, hxt⟩
def xCw : Str → List SpanL → List SpanL → List SpanL
  | lo, [], out => out ++ [⟨lo, []⟩]
  | lo, s :: l, out => if s.hi = [] then (if s.lo = [] then out else out ++ [⟨lo, s.lo⟩]) else xCw s.hi l (if s.lo = [] then out else out ++ [⟨lo, s.lo⟩])
theorem xHQ : ∀ (l : List SpanL) (lo : Str) (out : List SpanL), (xCw lo l out).length ≤ out.length + l.length + 1
  | [], lo, out => by simp [xCw]
  | s :: l, lo, out => by
    have h2 : (if s.lo = [] then out else out ++ [⟨lo, s.lo⟩]).length ≤ out.length + 1 := by split <;> simp
    rw [xCw, List.length_cons]
    generalize (if s.lo = [] then out else out ++ [(⟨lo, s.lo⟩ : SpanL)]) = o2 at *
    split
    · omega
    · have := xHQ l s.hi o2
      omega
theorem xGV : ∀ (l : List SpanL) (lo : Str) (out : List SpanL) (t : SpanL), t ∈ xCw lo l out → t ∈ out ∨ t.lo = lo ∨ ∃ x ∈ l, x.hi = t.lo
  | [], lo, out, t, h => by
    rw [xCw] at h
    rcases List.mem_append.1 h with h | h
    · exact .inl h
    · exact .inr (.inl (by rw [List.mem_singleton.1 h]))
  | s :: l, lo, out, t, h => by
    have h2 : t ∈ (if s.lo = [] then out else out ++ [⟨lo, s.lo⟩]) → t ∈ out ∨ t.lo = lo := by
      split
      · exact .inl
      · intro h
        rcases List.mem_append.1 h with h | h
        · exact .inl h
        · exact .inr (by rw [List.mem_singleton.1 h])
    rw [xCw] at h
    generalize (if s.lo = [] then out else out ++ [(⟨lo, s.lo⟩ : SpanL)]) = o2 at *
    split at h
    · rcases h2 h with h | h
      · exact .inl h
      · exact .inr (.inl h)
    · rcases xGV l s.hi o2 t h with h | h | ⟨x, hx, hxt⟩
      · rcases h2 h with h | h
        · exact .inl h
        · exact .inr (.inl h)
      · exact .inr (.inr ⟨s, by simp, h.symm⟩)
      · exact .inr (.inr ⟨x, by simp [hx], hxt⟩)
theorem xCD {a b : List SpanL} {k : Str} : inL (a ++ b) k = (inL a k || inL b k) := by simp [inL]
theorem xHP {lo hi k : Str} (h : hi ≠ []) : hasL ⟨lo, hi⟩ k = (ble lo k && Op.bytesLess k hi) := by
  have : (hi == []) = false := by simpa using h
  simp only [hasL, ble, this, Bool.false_or]
theorem xGU {lo k : Str} : hasL ⟨lo, []⟩ k = ble lo k := by simp [hasL, ble]
theorem xIK : ∀ (l : List SpanL) (lo : Str) (out : List SpanL) (k : Str), Nrm l → (∀ x, inL l x = true → ble lo x = true) →
    inL (xCw lo l out) k = (inL out k || (ble lo k && !inL l k))
  | [], lo, out, k, _, _ => by
    rw [xCw, xCD]
    simp [inL, xGU]
  | s :: l, lo, out, k, hn, ha => by
    have hls : ble lo s.lo = true := ha s.lo (by rw [xAT, xDT (hn.ne s (by simp))]; rfl)
    have h2 : inL (if s.lo = [] then out else out ++ [⟨lo, s.lo⟩]) k = (inL out k || (ble lo k && Op.bytesLess k s.lo)) := by
      split
      · next h => rw [h]; simp [xBu]
      · next h => rw [xCD]; simp [inL, xHP h]
    rw [xCw, xAT]
    generalize (if s.lo = [] then out else out ++ [(⟨lo, s.lo⟩ : SpanL)]) = o2 at *
    have hnl : inL l k = true → Op.bytesLess k s.lo = true → False := by
      intro h h3
      obtain ⟨h4, h5⟩ := hn.above h
      have h6 := xAg (xBD (hn.ne s (by simp)) h4) (ble_iff.2 (.inl h5))
      have h7 := xAg h3 (ble_iff.2 (.inl h6))
      rw [xAs] at h7
      cases h7
    have hsl : ble lo k = false → ble s.lo k = false := by
      intro h
      cases h3 : ble s.lo k with
      | false => rfl
      | true => rw [xBG hls h3] at h; cases h
    split
    · next h =>
      have hl : inL l k = false := by
        cases h3 : inL l k with
        | false => rfl
        | true => exact absurd h (hn.above h3).1
      rw [h2, hl]
      simp [hasL, h]
    · next h =>
      rw [xIK l s.hi o2 k hn.tail (fun x hx => ble_iff.2 (.inl (hn.above hx).2)), h2]
      have hlt := xBD (hn.ne s (by simp)) h
      have e1 : hasL s k = (ble s.lo k && Op.bytesLess k s.hi) := xHP (lo := s.lo) h
      rw [e1]
      cases h3 : inL out k with
      | true => simp
      | false =>
        have e2 : ble s.lo k = !Op.bytesLess k s.lo := rfl
        have e3 : ble s.hi k = !Op.bytesLess k s.hi := rfl
        cases h4 : Op.bytesLess k s.lo with
        | true =>
          have h5 : Op.bytesLess k s.hi = true := xAg h4 (ble_iff.2 (.inl hlt))
          have h6 : inL l k = false := by
            cases h7 : inL l k with
            | false => rfl
            | true => exact (hnl h7 h4).elim
          simp [e2, e3, h4, h5, h6]
        | false =>
          cases h5 : Op.bytesLess k s.hi with
          | true => simp [e2, e3, h4, h5]
          | false =>
            have h6 : ble lo k = true := xBG hls (by rw [e2, h4]; rfl)
            simp [e2, e3, h4, h5, h6]
def xB5 (l m : List SpanL) : List SpanL := (xCw [] (xAV m) []).flatMap (fun g => l.map (xAt g))
def xAw (l m : List SpanL) : List SpanL := xAV (xB5 l m)
theorem xI3 {α : Type} (f : α → List SpanL) (k : Str) : ∀ (l : List α), inL (l.flatMap f) k = l.any (fun a => inL (f a) k)
  | [] => rfl
  | a :: l => by rw [List.flatMap_cons, xCD, xI3 f k l, List.any_cons]
theorem xF5 (g : SpanL) (k : Str) : ∀ (l : List SpanL), inL (l.map (xAt g)) k = (hasL g k && inL l k)
  | [] => by simp [inL]
  | s :: l => by rw [List.map_cons, xAT, xAT, xF5 g k l, xCH]; cases hasL g k <;> simp
theorem xBy (l m : List SpanL) (k : Str) : inL (xAw l m) k = (inL l k && !inL m k) := by
  have h1 := xIK (xAV m) [] [] k (xAZ m).1 (fun x _ => xEL x)
  rw [xAw, (xAZ _).2, xB5, xI3]
  simp only [xF5]
  have h2 : ∀ (gs : List SpanL), gs.any (fun g => hasL g k && inL l k) = (inL gs k && inL l k) := by
    intro gs
    induction gs with
    | nil => rfl
    | cons g gs ih => rw [List.any_cons, ih, xAT]; cases hasL g k <;> cases inL gs k <;> cases inL l k <;> rfl
  rw [h2, h1, (xAZ m).2, xEL]
  simp [inL, Bool.and_comm]
theorem xD8 (l m : List SpanL) : Nrm (xAw l m) := (xAZ _).1
def cutL (s c : SpanL) : List SpanL := (if c.lo = [] then [] else [xAt s ⟨[], c.lo⟩]) ++ (if c.hi = [] then [] else [xAt s ⟨c.hi, []⟩])
def xFm (left : List SpanL) (c : SpanL) : List SpanL := if xAJ c = true then left else xAV (left.flatMap (fun s => cutL s c))
def xSH (l m : List SpanL) : List SpanL := m.foldl xFm (xAV l)
theorem xO2 (s c : SpanL) (k : Str) : inL (cutL s c) k = (hasL s k && !hasL c k) := by
  have e : hasL c k = (ble c.lo k && (c.hi == [] || Op.bytesLess k c.hi)) := rfl
  have e1 : ble c.lo k = !Op.bytesLess k c.lo := rfl
  have e2 : ble c.hi k = !Op.bytesLess k c.hi := rfl
  have e3 : inL (if c.lo = [] then [] else [xAt s ⟨[], c.lo⟩]) k = (hasL s k && Op.bytesLess k c.lo) := by
    split
    · next h => rw [h, xBu]; simp [inL]
    · next h => rw [xAT, xCH, xHP h, xEL]; simp [inL]
  have e4 : inL (if c.hi = [] then [] else [xAt s ⟨c.hi, []⟩]) k = (hasL s k && (!(c.hi == []) && !Op.bytesLess k c.hi)) := by
    split
    · next h => rw [h]; simp [inL]
    · next h => 
      have h9 : (c.hi == []) = false := by simpa using h
      rw [xAT, xCH, xGU, e2, h9]; simp [inL]
  rw [cutL, xCD, e3, e4, e, e1]
  cases hasL s k <;> cases Op.bytesLess k c.lo <;> cases (c.hi == []) <;> cases Op.bytesLess k c.hi <;> rfl
theorem xO0 (l : List SpanL) (c : SpanL) (k : Str) : inL (xFm l c) k = (inL l k && !hasL c k) := by
  unfold xFm
  split
  · next h => rw [xAd h]; simp
  · rw [(xAZ _).2, xI3]
    simp only [xO2]
    induction l with
    | nil => rfl
    | cons g gs ih => rw [List.any_cons, ih, xAT]; cases hasL g k <;> cases inL gs k <;> cases hasL c k <;> rfl
theorem xMQ {l : List SpanL} (h : Nrm l) (c : SpanL) : Nrm (xFm l c) := by
  unfold xFm
  split
  · exact h
  · exact (xAZ _).1
theorem xKK : ∀ (m l : List SpanL), Nrm l → Nrm (m.foldl xFm l) ∧ ∀ k, inL (m.foldl xFm l) k = (inL l k && !inL m k)
  | [], l, h => ⟨h, fun k => by simp [inL]⟩
  | c :: m, l, h => by
    obtain ⟨h1, h2⟩ := xKK m (xFm l c) (xMQ h c)
    refine ⟨h1, fun k => ?_⟩
    rw [List.foldl_cons, h2, xO0, xAT]
    cases inL l k <;> cases hasL c k <;> cases inL m k <;> rfl
theorem minus_ref (l m : List SpanL) : xAw l m = xSH l m := by
  obtain ⟨h1, h2⟩ := xKK m (xAV l) (xAZ l).1
  refine Nrm.ext (xD8 l m) h1 (fun k => ?_)
  rw [xBy]
  exact ((h2 k).trans (by rw [(xAZ l).2])).symm
theorem xI5 {α : Type} (f : α → List SpanL) (n : Nat) : ∀ (l : List α), (∀ a ∈ l, (f a).length ≤ n) → (l.flatMap f).length ≤ n * l.length
  | [], _ => by simp
  | a :: l, h => by
    rw [List.flatMap_cons, List.length_append, List.length_cons, Nat.mul_succ]
    have h1 := xI5 f n l (fun b hb => h b (by simp [hb]))
    have h2 := h a (by simp)
    omega
theorem xQk (s c : SpanL) : (cutL s c).length ≤ 2 := by
  unfold cutL
  split <;> split <;> simp
theorem cuts_len (l : List SpanL) (c : SpanL) : (xFm l c).length ≤ 2 * l.length := by
  unfold xFm
  split
  · omega
  · exact Nat.le_trans (xD2 _) (xI5 _ 2 l (fun s _ => xQk s c))
theorem xJt (l m : List SpanL) : (xB5 l m).length ≤ l.length * (m.length + 1) := by
  unfold xB5
  refine Nat.le_trans (xI5 _ l.length _ (fun g _ => by simp)) (Nat.mul_le_mul_left _ ?_)
  have h1 := xHQ (xAV m) [] []
  have h2 := xD2 m
  simp only [List.length_nil] at h1
  omega
theorem xGr : ∀ (a b : List Str), a.Nodup → (∀ x ∈ a, x ∈ b) → a.length ≤ b.length
  | [], b, _, _ => by simp
  | x :: a, b, hn, hs => by
    obtain ⟨h1, h2⟩ := List.nodup_cons.1 hn
    have h3 := xGr a (b.erase x) h2 (fun y hy => by
      refine (List.mem_erase_of_ne ?_).2 (hs y (by simp [hy]))
      intro h; subst h; exact h1 hy)
    rw [List.length_erase_of_mem (hs x (by simp))] at h3
    have : 0 < b.length := List.length_pos_of_mem (hs x (by simp))
    rw [List.length_cons]
    omega
theorem xKy : ∀ {l : List SpanL}, Nrm l → (l.map SpanL.lo).Nodup
  | [], _ => by simp
  | s :: l, h => by
    rw [List.map_cons, List.nodup_cons]
    refine ⟨?_, xKy h.tail⟩
    intro hm
    obtain ⟨t, ht, hts⟩ := List.mem_map.1 hm
    obtain ⟨h1, h2⟩ := (List.pairwise_cons.1 h.pw).1 t ht
    have h3 := xAg (xBD (h.ne s (by simp)) h1) (ble_iff.2 (.inl h2))
    rw [hts, xAs] at h3
    cases h3
theorem xIC (a b : Str) : maxL a b = a ∨ maxL a b = b := by unfold maxL; split <;> simp
theorem xFA (l m : List SpanL) : (xAw l m).length ≤ l.length + m.length := by
  have h := xGr _ (l.map SpanL.lo ++ m.map SpanL.hi) (xKy (xD8 l m)) ?_
  · simpa using h
  · intro x hx
    obtain ⟨t, ht, rfl⟩ := List.mem_map.1 hx
    obtain ⟨y, hy, hyt, hye⟩ := xE6 ht
    rw [← hyt]
    obtain ⟨g, hg, hy⟩ := List.mem_flatMap.1 hy
    obtain ⟨s, hs, rfl⟩ := List.mem_map.1 hy
    have hm : (xAt g s).lo = maxL g.lo s.lo := by
      unfold xAt at hye ⊢
      split
      · next h => rw [if_pos h] at hye; exact absurd hye (by decide)
      · rfl
    rw [hm]
    have hsl : s.lo ∈ l.map SpanL.lo ++ m.map SpanL.hi := List.mem_append.2 (.inl (List.mem_map.2 ⟨s, hs, rfl⟩))
    rcases xGV _ _ _ g hg with h | h | ⟨z, hz, hzg⟩
    · cases h
    · rw [h]
      have : maxL [] s.lo = s.lo := by
        unfold maxL
        split
        · rfl
        · next h3 =>
          have h4 : ble s.lo [] = true := by simpa [ble] using h3
          rcases ble_iff.1 h4 with h5 | h5
          · rw [xBu] at h5; cases h5
          · exact h5.symm
      rw [this]
      exact hsl
    · rcases xIC g.lo s.lo with h | h
      · rw [h, ← hzg]
        obtain ⟨w, hw, hwz⟩ := xIf hz
        exact List.mem_append.2 (.inr (List.mem_map.2 ⟨w, hw, hwz⟩))
      · rw [h]
        exact hsl
end Go.Pu
set_option linter.unusedVariables false
set_option linter.unusedSimpArgs false
namespace Go.Pu
structure MsgL where
  kind : Int
  key : Str
  val : Str
  sp : SpanL
  fr : Str
  to : Str
  n : Int
  deriving DecidableEq
def xAv (m : MsgL) : List SpanL :=
  if m.kind = 1 ∨ m.kind = 2 then [oneL m.key] else if m.kind = 4 then [xAG m.fr, xAG m.to] else if m.kind = 5 then [xAG m.to] else [m.sp]
def xDM (m : MsgL) : List SpanL := if m.kind = 4 ∨ m.kind = 5 then [xAG m.fr] else if m.kind = 6 then [m.sp] else []
def xDQ (m : MsgL) : List SpanL := if m.kind = 6 then [] else xAv m
structure MsgOk (m : MsgL) : Prop where
  k : 1 ≤ m.kind ∧ m.kind ≤ 6
  ap : m.kind = 4 ∨ m.kind = 5 → xAD m.fr m.to = false ∧ xAD m.to m.fr = false
  ne : m.kind = 4 ∨ m.kind = 5 → m.fr ≠ [] ∧ m.to ≠ []
def bkL (m : MsgL) (k : Str) : Option Str :=
  if m.kind = 1 ∨ m.kind = 2 then (if m.key = k then none else some k) else
  if m.kind = 3 then (if hasL m.sp k = true then none else some k) else
  if m.kind = 6 then some k else
  if m.kind = 4 ∧ xAD k m.fr = true then none else
  if xAD k m.to = true then some (m.fr ++ k.drop m.to.length) else some k
def bksL : List MsgL → Str → Option Str
  | [], k => some k
  | m :: r, k => (bkL m k).bind (bksL r)
theorem xIT (a b : List MsgL) (k : Str) : bksL (a ++ b) k = (bksL a k).bind (bksL b) := by
  induction a generalizing k with
  | nil => rfl
  | cons m a ih =>
    rw [List.cons_append, bksL, bksL]
    cases bkL m k with
    | none => rfl
    | some x => exact ih x
def xBV (f t : Str) (s : SpanL) : SpanL := ⟨t ++ s.lo.drop f.length, if xAD s.hi f = true ∧ s.hi ≠ [] then t ++ s.hi.drop f.length else upL t⟩
def xCZ (m : MsgL) : List SpanL := xAG m.to :: (if m.kind = 4 then [xAG m.fr] else [])
def inTo (m : MsgL) (l : List SpanL) : List SpanL := (l.map fun x => xAt x (xAG m.to)).filter fun s => !xAJ s
def xCN (l : List SpanL) (m : MsgL) : List SpanL :=
  if m.kind = 1 ∨ m.kind = 2 then xAw l [oneL m.key] else
  if m.kind = 3 then xAw l [m.sp] else
  if m.kind = 6 then l else
  xAV (xAw l (xCZ m) ++ (inTo m l).map (xBV m.to m.fr))
def xBh (s : SpanL) (r : List MsgL) : List SpanL := r.foldl xCN (xAV [s])
theorem xHr : ∀ {p a x : Str}, Op.bytesLess (p ++ a) x = true → xAD x p = false → ∀ r, Op.bytesLess (p ++ r) x = true
  | [], a, x, h, hb, r => by simp [xAD] at hb
  | c :: p, a, [], h, hb, r => by simp [Op.bytesLess] at h
  | c :: p, a, d :: x, h, hb, r => by
    rw [List.cons_append, blt_cons] at h ⊢
    rcases h with h | ⟨rfl, h⟩
    · exact .inl h
    · refine .inr ⟨rfl, xHr h ?_ r⟩
      cases hx : xAD x p with
      | false => rfl
      | true =>
        obtain ⟨q, rfl⟩ := begins_iff.1 hx
        have : xAD (c :: (p ++ q)) (c :: p) = true := begins_iff.2 ⟨q, rfl⟩
        rw [this] at hb
        cases hb
theorem xBX (p r : Str) : xAD (p ++ r) p = true := begins_iff.2 ⟨r, rfl⟩
theorem begins_le {k p : Str} (h : xAD k p = true) : ble p k = true := by
  obtain ⟨r, rfl⟩ := begins_iff.1 h
  exact xDC p r
theorem xIA {f t : Str} (ht : t ≠ []) {s : SpanL} (hn : xAJ s = false) (hs : ∀ k, hasL s k = true → xAD k f = true) (k : Str) :
    hasL (xBV f t s) k = true ↔ ∃ r, k = t ++ r ∧ hasL s (f ++ r) = true := by
  obtain ⟨a, ha⟩ := begins_iff.1 (hs _ (xDT hn))
  have hd : s.lo.drop f.length = a := by rw [ha]; simp
  by_cases hh : xAD s.hi f = true ∧ s.hi ≠ []
  · obtain ⟨b, hb⟩ := begins_iff.1 hh.1
    have hd2 : s.hi.drop f.length = b := by rw [hb]; simp
    have e : xBV f t s = ⟨t ++ a, t ++ b⟩ := by unfold xBV; rw [if_pos hh, hd, hd2]
    have hne : t ++ b ≠ [] := by simp [ht]
    rw [e, has_iff]
    simp only [hne, false_or]
    constructor
    · rintro ⟨h1, h2⟩
      have hk : xAD k t = true := by
        cases hk : xAD k t with
        | true => rfl
        | false =>
          exfalso
          rcases ble_iff.1 h1 with h3 | h3
          · have := xHr h3 hk b
            rw [xBp this] at h2
            cases h2
          · rw [← h3, xBX] at hk
            cases hk
      obtain ⟨r, rfl⟩ := begins_iff.1 hk
      refine ⟨r, rfl, has_iff.2 ⟨?_, .inr ?_⟩⟩
      · rw [ha, xDG]; rwa [xDG] at h1
      · rw [hb, xEK]; rwa [xEK] at h2
    · rintro ⟨r, rfl, h⟩
      obtain ⟨h1, h2⟩ := has_iff.1 h
      rw [ha, xDG] at h1
      have h2 := h2.resolve_left hh.2
      rw [hb, xEK] at h2
      exact ⟨by rwa [xDG], by rwa [xEK]⟩
  · have e : xBV f t s = ⟨t ++ a, upL t⟩ := by unfold xBV; rw [if_neg hh, hd]
    have hup : ∀ r, s.hi = [] ∨ Op.bytesLess (f ++ r) s.hi = true := by
      intro r
      by_cases h0 : s.hi = []
      · exact .inl h0
      · have hb : xAD s.hi f = false := by
          cases hb : xAD s.hi f with
          | false => rfl
          | true => exact (hh ⟨hb, h0⟩).elim
        have := xBD hn h0
        rw [ha] at this
        exact .inr (xHr this hb r)
    have hp := xAc t k
    have e2 : xAG t = ⟨t, upL t⟩ := rfl
    rw [e, has_iff]
    constructor
    · rintro ⟨h1, h2⟩
      have h3 : hasL (xAG t) k = true := by rw [e2, has_iff]; exact ⟨xBG (xDC t a) h1, h2⟩
      rw [hp] at h3
      obtain ⟨r, rfl⟩ := begins_iff.1 h3
      refine ⟨r, rfl, has_iff.2 ⟨?_, hup r⟩⟩
      rw [ha, xDG]; rwa [xDG] at h1
    · rintro ⟨r, rfl, h⟩
      obtain ⟨h1, h2⟩ := has_iff.1 h
      rw [ha, xDG] at h1
      have h3 : hasL (xAG t) (t ++ r) = true := by rw [xAc]; exact xBX t r
      rw [e2, has_iff] at h3
      exact ⟨by rwa [xDG], h3.2⟩
theorem xHL (m : MsgL) (l : List SpanL) (k : Str) (h : ∃ s ∈ inTo m l, hasL s k = true) : inL l k = true ∧ xAD k m.to = true := by
  obtain ⟨s, hs, hk⟩ := h
  unfold inTo at hs
  rw [List.mem_filter, List.mem_map] at hs
  obtain ⟨⟨x, hx, rfl⟩, _⟩ := hs
  rw [xCH, Bool.and_eq_true, xAc] at hk
  exact ⟨inL_iff.2 ⟨x, hx, hk.1⟩, hk.2⟩
theorem xQd (m : MsgL) (l : List SpanL) (k : Str) : (∃ s ∈ inTo m l, hasL s k = true) ↔ inL l k = true ∧ xAD k m.to = true := by
  refine ⟨xHL m l k, ?_⟩
  rintro ⟨h1, h2⟩
  obtain ⟨x, hx, hk⟩ := inL_iff.1 h1
  have hm : hasL (xAt x (xAG m.to)) k = true := by rw [xCH, Bool.and_eq_true, xAc]; exact ⟨hk, h2⟩
  refine ⟨_, List.mem_filter.2 ⟨List.mem_map.2 ⟨x, hx, rfl⟩, ?_⟩, hm⟩
  cases he : xAJ (xAt x (xAG m.to)) with
  | false => rfl
  | true => rw [xAd he] at hm; cases hm
theorem xHK {m : MsgL} {l : List SpanL} {s : SpanL} (h : s ∈ inTo m l) : xAJ s = false ∧ ∀ k, hasL s k = true → xAD k m.to = true := by
  refine ⟨?_, fun k hk => (xHL m l k ⟨s, h, hk⟩).2⟩
  unfold inTo at h
  rw [List.mem_filter] at h
  simpa using h.2
theorem xOo {m : MsgL} (hf : m.fr ≠ []) (l : List SpanL) (k : Str) : inL ((inTo m l).map (xBV m.to m.fr)) k = true ↔ ∃ r, k = m.fr ++ r ∧ inL l (m.to ++ r) = true := by
  rw [inL_iff]
  constructor
  · rintro ⟨x, hx, hk⟩
    obtain ⟨s, hs, rfl⟩ := List.mem_map.1 hx
    obtain ⟨h1, h2⟩ := xHK hs
    obtain ⟨r, rfl, hr⟩ := (xIA hf h1 h2 k).1 hk
    exact ⟨r, rfl, (xHL m l _ ⟨s, hs, hr⟩).1⟩
  · rintro ⟨r, rfl, hr⟩
    obtain ⟨s, hs, hk⟩ := (xQd m l (m.to ++ r)).2 ⟨hr, xBX _ _⟩
    obtain ⟨h1, h2⟩ := xHK hs
    exact ⟨_, List.mem_map.2 ⟨s, hs, rfl⟩, (xIA hf h1 h2 _).2 ⟨r, rfl, hk⟩⟩
theorem xGM {l : List SpanL} (h : Nrm l) (m : MsgL) : Nrm (xCN l m) := by
  unfold xCN
  split
  · exact xD8 _ _
  · split
    · exact xD8 _ _
    · split
      · exact h
      · exact (xAZ _).1
theorem xJN {m : MsgL} (hm : MsgOk m) (l : List SpanL) (k : Str) : inL (xCN l m) k = true ↔ ∃ x, inL l x = true ∧ bkL m x = some k := by
  unfold xCN bkL
  by_cases h1 : m.kind = 1 ∨ m.kind = 2
  · simp only [if_pos h1]
    rw [xBy, xAT, xFY]
    simp only [inL, List.any_nil, Bool.or_false, Bool.and_eq_true, Bool.not_eq_true', beq_eq_false_iff_ne, ne_eq]
    constructor
    · rintro ⟨g1, g2⟩
      exact ⟨k, g1, by rw [if_neg fun e => g2 e.symm]⟩
    · rintro ⟨x, g1, g2⟩
      split at g2
      · cases g2
      · rename_i hx
        cases g2
        exact ⟨g1, fun e => hx e.symm⟩
  simp only [if_neg h1]
  by_cases h3 : m.kind = 3
  · simp only [if_pos h3]
    rw [xBy, xAT]
    simp only [inL, List.any_nil, Bool.or_false, Bool.and_eq_true, Bool.not_eq_true']
    constructor
    · rintro ⟨g1, g2⟩
      exact ⟨k, g1, by rw [if_neg (by rw [g2]; simp)]⟩
    · rintro ⟨x, g1, g2⟩
      split at g2
      · cases g2
      · rename_i hx
        cases g2
        exact ⟨g1, by simpa using hx⟩
  simp only [if_neg h3]
  by_cases h6 : m.kind = 6
  · simp only [if_pos h6]
    exact ⟨fun h => ⟨k, h, rfl⟩, fun ⟨x, h, e⟩ => by cases e; exact h⟩
  simp only [if_neg h6]
  have hk := hm.k
  have h45 : m.kind = 4 ∨ m.kind = 5 := by omega
  obtain ⟨ap1, ap2⟩ := hm.ap h45
  obtain ⟨ne1, ne2⟩ := hm.ne h45
  have both : ∀ x, xAD x m.fr = true → xAD x m.to = true → False := by
    intro x b1 b2
    obtain ⟨r, rfl⟩ := begins_iff.1 b1
    obtain ⟨q, hq⟩ := begins_iff.1 b2
    rcases Nat.le_total m.fr.length m.to.length with hlen | hlen
    · have : xAD m.to m.fr = true := begins_iff.2 ⟨m.to.drop m.fr.length, by
        have := congrArg (List.take m.fr.length) hq
        rw [List.take_left, List.take_append_of_le_length hlen] at this
        conv => lhs; rw [← List.take_append_drop m.fr.length m.to]
        rw [← this]⟩
      rw [this] at ap2; cases ap2
    · have : xAD m.fr m.to = true := begins_iff.2 ⟨m.fr.drop m.to.length, by
        have := congrArg (List.take m.to.length) hq
        rw [List.take_left, List.take_append_of_le_length hlen] at this
        conv => lhs; rw [← List.take_append_drop m.to.length m.fr]
        rw [this]⟩
      rw [this] at ap1; cases ap1
  rw [(xAZ _).2, xCD, Bool.or_eq_true, xBy, xOo ne1]
  have hg : inL (xCZ m) k = (xAD k m.to || (decide (m.kind = 4) && xAD k m.fr)) := by
    unfold xCZ
    rw [xAT, xAc]
    by_cases h4 : m.kind = 4
    · rw [if_pos h4, xAT, xAc]; simp [inL, h4]
    · rw [if_neg h4]; simp [inL, h4]
  rw [hg]
  simp only [Bool.and_eq_true, Bool.not_eq_true', Bool.or_eq_false_iff]
  constructor
  · rintro (⟨g1, g2, g3⟩ | ⟨r, rfl, g⟩)
    · refine ⟨k, g1, ?_⟩
      rw [if_neg (fun hc => by rw [hc.2, decide_eq_true hc.1] at g3; cases g3), if_neg (by rw [g2]; simp)]
    · refine ⟨m.to ++ r, g, ?_⟩
      rw [if_neg fun hc => both _ hc.2 (xBX _ _), if_pos (xBX _ _)]
      simp
  · rintro ⟨x, g1, g2⟩
    split at g2
    · cases g2
    · rename_i hc
      split at g2
      · rename_i hb
        obtain ⟨r, rfl⟩ := begins_iff.1 hb
        simp only [List.drop_left, Option.some.injEq] at g2
        exact .inr ⟨r, g2.symm, g1⟩
      · rename_i hb
        cases g2
        refine .inl ⟨g1, by simpa using hb, ?_⟩
        by_cases h4 : m.kind = 4
        · rw [decide_eq_true h4, Bool.true_and]
          cases hx : xAD k m.fr with
          | false => rfl
          | true => exact (hc ⟨h4, hx⟩).elim
        · rw [decide_eq_false h4]; rfl
theorem xJU (s : SpanL) (r : List MsgL) : Nrm (xBh s r) := by
  unfold xBh
  have key : ∀ (r : List MsgL) (l : List SpanL), Nrm l → Nrm (r.foldl xCN l) := by
    intro r
    induction r with
    | nil => intro l h; exact h
    | cons m r ih => intro l h; exact ih _ (xGM h m)
  exact key r _ (xAZ _).1
theorem xHy : ∀ (r : List MsgL) (l : List SpanL) (k : Str), (∀ m ∈ r, MsgOk m) → (inL (r.foldl xCN l) k = true ↔ ∃ x, inL l x = true ∧ bksL r x = some k)
  | [], l, k, _ => ⟨fun h => ⟨k, h, rfl⟩, fun ⟨x, h, e⟩ => by cases e; exact h⟩
  | m :: r, l, k, h => by
    rw [List.foldl_cons, xHy r _ k fun x hx => h x (by simp [hx])]
    constructor
    · rintro ⟨x, g1, g2⟩
      obtain ⟨y, g3, g4⟩ := (xJN (h m (by simp)) l x).1 g1
      exact ⟨y, g3, by rw [bksL, g4]; exact g2⟩
    · rintro ⟨y, g1, g2⟩
      rw [bksL] at g2
      obtain ⟨x, g3, g4⟩ := Option.bind_eq_some_iff.1 g2
      exact ⟨x, (xJN (h m (by simp)) l x).2 ⟨y, g1, g3⟩, g4⟩
theorem xBf (s : SpanL) {r : List MsgL} (h : ∀ m ∈ r, MsgOk m) (k : Str) : inL (xBh s r) k = true ↔ ∃ x, hasL s x = true ∧ bksL r x = some k := by
  unfold xBh
  rw [xHy r _ k h]
  have e : ∀ x, inL (xAV [s]) x = hasL s x := fun x => by rw [(xAZ _).2]; simp [inL]
  simp only [e]
end Go.Pu
set_option linter.unusedVariables false
set_option linter.unusedSimpArgs false
namespace Go.Pu
theorem xLJ {x a b : Str} (b1 : xAD x a = true) (b2 : xAD x b = true) : xAD a b = true ∨ xAD b a = true := by
  obtain ⟨r, rfl⟩ := begins_iff.1 b1
  obtain ⟨q, hq⟩ := begins_iff.1 b2
  rcases Nat.le_total a.length b.length with hlen | hlen
  · refine .inr (begins_iff.2 ⟨b.drop a.length, ?_⟩)
    have := congrArg (List.take a.length) hq
    rw [List.take_left, List.take_append_of_le_length hlen] at this
    conv => lhs; rw [← List.take_append_drop a.length b]
    rw [← this]
  · refine .inl (begins_iff.2 ⟨a.drop b.length, ?_⟩)
    have := congrArg (List.take b.length) hq
    rw [List.take_left, List.take_append_of_le_length hlen] at this
    conv => lhs; rw [← List.take_append_drop b.length a]
    rw [this]
theorem bk_inj {m : MsgL} (hm : MsgOk m) (hc : m.kind ≠ 5) {a b k : Str} (ha : bkL m a = some k) (hb : bkL m b = some k) : a = b := by
  unfold bkL at ha hb
  by_cases h1 : m.kind = 1 ∨ m.kind = 2
  · rw [if_pos h1] at ha hb
    split at ha
    · cases ha
    · split at hb
      · cases hb
      · cases ha; cases hb; rfl
  rw [if_neg h1] at ha hb
  by_cases h3 : m.kind = 3
  · rw [if_pos h3] at ha hb
    split at ha
    · cases ha
    · split at hb
      · cases hb
      · cases ha; cases hb; rfl
  rw [if_neg h3] at ha hb
  by_cases h6 : m.kind = 6
  · rw [if_pos h6] at ha hb
    cases ha; cases hb; rfl
  rw [if_neg h6] at ha hb
  have hk := hm.k
  have h4 : m.kind = 4 := by omega
  simp only [h4, true_and] at ha hb
  split at ha
  · cases ha
  · rename_i na
    split at hb
    · cases hb
    · rename_i nb
      split at ha
      · rename_i ta
        obtain ⟨r, rfl⟩ := begins_iff.1 ta
        simp only [List.drop_left, Option.some.injEq] at ha
        split at hb
        · rename_i tb
          obtain ⟨q, rfl⟩ := begins_iff.1 tb
          simp only [List.drop_left, Option.some.injEq] at hb
          rw [← hb, List.append_cancel_left_eq] at ha
          rw [ha]
        · cases hb
          rw [← ha] at nb
          exact (nb (xBX _ _)).elim
      · cases ha
        split at hb
        · rename_i tb
          obtain ⟨q, rfl⟩ := begins_iff.1 tb
          simp only [List.drop_left, Option.some.injEq] at hb
          rw [← hb] at na
          exact (na (xBX _ _)).elim
        · cases hb; rfl
theorem xPJ : ∀ {r : List MsgL}, (∀ m ∈ r, MsgOk m) → (∀ m ∈ r, m.kind ≠ 5) → ∀ {a b k : Str}, bksL r a = some k → bksL r b = some k → a = b
  | [], _, _, a, b, k, ha, hb => by cases ha; cases hb; rfl
  | m :: r, h, hc, a, b, k, ha, hb => by
    rw [bksL] at ha hb
    obtain ⟨x, g1, g2⟩ := Option.bind_eq_some_iff.1 ha
    obtain ⟨y, g3, g4⟩ := Option.bind_eq_some_iff.1 hb
    have := xPJ (fun m hm => h m (by simp [hm])) (fun m hm => hc m (by simp [hm])) g2 g4
    subst this
    exact bk_inj (h m (by simp)) (hc m (by simp)) g1 g3
theorem xOa {l : List SpanL} (h : Nrm l) {b : List Str} (hb : ∀ s ∈ l, s.lo ∈ b) : l.length ≤ b.length := by
  have := xGr (l.map SpanL.lo) b (xKy h) (by
    intro x hx
    obtain ⟨s, hs, rfl⟩ := List.mem_map.1 hx
    exact hb s hs)
  simpa using this
theorem xK1 {l g : List SpanL} {t : SpanL} (h : t ∈ xB5 l g) : xAJ t = false → (∃ x ∈ l, x.lo = t.lo) ∨ ∃ x ∈ g, x.hi = t.lo := by
  intro hne
  unfold xB5 at h
  rw [List.mem_flatMap] at h
  obtain ⟨c, hc, ht⟩ := h
  obtain ⟨x, hx, rfl⟩ := List.mem_map.1 ht
  have hm : xAt c x = ⟨maxL c.lo x.lo, xB7 c.hi x.hi⟩ ∨ xAt c x = xJn := by unfold xAt; split <;> simp
  rcases hm with hm | hm
  · rw [hm]
    simp only
    rcases xIC c.lo x.lo with e | e
    · rw [e]
      rcases xGV _ _ _ _ hc with h1 | h1 | ⟨y, hy, h1⟩
      · cases h1
      · rw [h1] at e ⊢
        left
        refine ⟨x, hx, ?_⟩
        have h2 : ble x.lo [] = true := by
          have := (xG2 (a := c.lo) (b := x.lo) (k := maxL c.lo x.lo)).1 (xCI _)
          rw [h1, e] at this
          exact this.2
        exact xEM h2 (xEL _)
      · right
        obtain ⟨z, hz, e2⟩ := xIf hy
        exact ⟨z, hz, by rw [e2, h1]⟩
    · rw [e]
      exact .inl ⟨x, hx, rfl⟩
  · rw [hm] at hne
    exact absurd hne (by decide)
theorem xQH {l g : List SpanL} {t : SpanL} (h : t ∈ xAw l g) : (∃ x ∈ l, x.lo = t.lo) ∨ ∃ x ∈ g, x.hi = t.lo := by
  unfold xAw at h
  obtain ⟨y, hy, e, hne⟩ := xE6 h
  rw [← e]
  exact xK1 hy hne
theorem xQF (f t : Str) (s : SpanL) : (xBV f t s).lo = t ++ s.lo.drop f.length := rfl
theorem xSh (a b : SpanL) : (xAt a b).lo = maxL a.lo b.lo ∨ xAt a b = xJn := by
  unfold xAt
  split
  · exact .inr rfl
  · exact .inl rfl
theorem xLS {m : MsgL} (hm : MsgOk m) {l : List SpanL} (h : Nrm l) : (xCN l m).length ≤ l.length + 3 := by
  have hn := xGM h m
  unfold xCN at hn ⊢
  split
  · have := xFA l [oneL m.key]
    simp at this
    omega
  · split
    · have := xFA l [m.sp]
      simp at this
      omega
    · split
      · omega
      · rename_i h1 h3 h6
        rw [if_neg h1, if_neg h3, if_neg h6] at hn
        have hk := hm.k
        have h45 : m.kind = 4 ∨ m.kind = 5 := by omega
        refine Nat.le_trans (xOa hn (b := (l.map fun x => if xAD x.lo m.to = true then m.fr ++ x.lo.drop m.to.length else x.lo) ++ [upL m.to, upL m.fr, m.fr]) ?_) (by simp)
        intro s hs
        obtain ⟨y, hy, e, hne⟩ := xE6 hs
        rw [← e]
        rw [List.mem_append] at hy
        rcases hy with hy | hy
        · rcases xQH hy with ⟨x, hx, e1⟩ | ⟨x, hx, e1⟩
          · have hx2 : xAD y.lo m.to = false := by
              have h7 : inL (xAw l (xCZ m)) y.lo = true := inL_iff.2 ⟨y, hy, xDT hne⟩
              rw [xBy, Bool.and_eq_true, xCZ, xAT, xAc] at h7
              have h8 := h7.2
              simp only [Bool.not_eq_true', Bool.or_eq_false_iff] at h8
              exact h8.1
            rw [List.mem_append]
            left
            rw [List.mem_map]
            refine ⟨x, hx, ?_⟩
            rw [e1, if_neg (by rw [hx2]; simp)]
          · rw [List.mem_append]
            right
            rw [← e1]
            unfold xCZ at hx
            split at hx
            · simp at hx
              rcases hx with rfl | rfl
              · simp [xAG]
              · simp [xAG]
            · simp at hx
              subst hx
              simp [xAG]
        · obtain ⟨s2, hs2, rfl⟩ := List.mem_map.1 hy
          obtain ⟨hne2, hbg⟩ := xHK hs2
          have hb2 := hbg _ (xDT hne2)
          unfold inTo at hs2
          rw [List.mem_filter, List.mem_map] at hs2
          obtain ⟨⟨x, hx, rfl⟩, _⟩ := hs2
          rw [xQF, List.mem_append]
          rcases xSh x (xAG m.to) with e2 | e2
          · rw [e2] at hb2 ⊢
            rcases xIC x.lo (xAG m.to).lo with e3 | e3
            · rw [e3] at hb2 ⊢
              left
              rw [List.mem_map]
              exact ⟨x, hx, by rw [if_pos hb2]⟩
            · rw [e3]
              right
              simp [xAG]
          · rw [e2] at hne2
            exact absurd hne2 (by decide)
theorem xNZ (s : SpanL) {r : List MsgL} (h : ∀ m ∈ r, MsgOk m) : (xBh s r).length ≤ 1 + 3 * r.length := by
  unfold xBh
  have key : ∀ (r : List MsgL) (l : List SpanL), Nrm l → (∀ m ∈ r, MsgOk m) → (r.foldl xCN l).length ≤ l.length + 3 * r.length := by
    intro r
    induction r with
    | nil => intro l h _; simp
    | cons m r ih =>
      intro l hl h
      have h1 := ih _ (xGM hl m) fun x hx => h x (by simp [hx])
      have h2 := xLS (h m (by simp)) hl
      simp only [List.foldl_cons, List.length_cons]
      omega
  have h1 := key r _ (xAZ [s]).1 h
  have h2 := xD2 [s]
  simp only [List.length_cons, List.length_nil] at h2
  omega
end Go.Pu
set_option linter.unusedVariables false
set_option linter.unusedSimpArgs false
namespace Go.Pu
theorem cuts_len1 {l : List SpanL} (h : Nrm l) (c : SpanL) : (xFm l c).length ≤ l.length + 1 := by
  have hn := xMQ h c
  have : (xFm l c).length ≤ (l.map SpanL.lo ++ [c.hi]).length := xOa hn fun s hs => by
    unfold xFm at hs
    split at hs
    · exact List.mem_append.2 (.inl (List.mem_map.2 ⟨s, hs, rfl⟩))
    · obtain ⟨y, hy, e, hne⟩ := xE6 hs
      rw [← e]
      obtain ⟨x, hx, hy⟩ := List.mem_flatMap.1 hy
      unfold cutL at hy
      have two : ∀ z : SpanL, y = xAt x z → (z.lo = [] ∨ z.lo = c.hi) → y.lo ∈ l.map SpanL.lo ++ [c.hi] := by
        rintro z rfl hz
        have hm : xAt x z = ⟨maxL x.lo z.lo, xB7 x.hi z.hi⟩ ∨ xAt x z = xJn := by unfold xAt; split <;> simp
        rcases hm with hm | hm
        · rw [hm]
          rcases xIC x.lo z.lo with e2 | e2
          · simp only [e2]
            exact List.mem_append.2 (.inl (List.mem_map.2 ⟨x, hx, rfl⟩))
          · simp only [e2]
            rcases hz with hz | hz
            · rw [hz] at e2 ⊢
              have h2 : ble x.lo [] = true := by
                have := (xG2 (a := x.lo) (b := []) (k := maxL x.lo [])).1 (xCI _)
                rw [e2] at this
                exact this.1
              have h3 := xEM h2 (xEL _)
              exact List.mem_append.2 (.inl (List.mem_map.2 ⟨x, hx, h3⟩))
            · rw [hz]
              simp
        · rw [hm] at hne
          exact absurd hne (by decide)
      rw [List.mem_append] at hy
      rcases hy with hy | hy
      · split at hy
        · cases hy
        · exact two _ (List.mem_singleton.1 hy) (.inl rfl)
      · split at hy
        · cases hy
        · exact two _ (List.mem_singleton.1 hy) (.inr rfl)
  simpa using this
end Go.Pu
set_option linter.unusedVariables false
set_option linter.unusedSimpArgs false
namespace Go.Pu
theorem xMI : ∀ (l : List SpanL) (lo : Str) (out : List SpanL) (t : SpanL), t ∈ xCw lo l out → t ∈ out ∨ t.hi = [] ∨ ∃ x ∈ l, x.lo = t.hi
  | [], lo, out, t, h => by
    rw [xCw] at h
    rcases List.mem_append.1 h with h | h
    · exact .inl h
    · exact .inr (.inl (by rw [List.mem_singleton.1 h]))
  | s :: l, lo, out, t, h => by
    have h2 : t ∈ (if s.lo = [] then out else out ++ [⟨lo, s.lo⟩]) → t ∈ out ∨ s.lo = t.hi := by
      split
      · exact .inl
      · intro h
        rcases List.mem_append.1 h with h | h
        · exact .inl h
        · exact .inr (by rw [List.mem_singleton.1 h])
    rw [xCw] at h
    generalize (if s.lo = [] then out else out ++ [(⟨lo, s.lo⟩ : SpanL)]) = o2 at *
    split at h
    · rcases h2 h with h | h
      · exact .inl h
      · exact .inr (.inr ⟨s, by simp, h⟩)
    · rcases xMI l s.hi o2 t h with h | h | ⟨x, hx, hxt⟩
      · rcases h2 h with h | h
        · exact .inl h
        · exact .inr (.inr ⟨s, by simp, h⟩)
      · exact .inr (.inl h)
      · exact .inr (.inr ⟨x, by simp [hx], hxt⟩)
def SpLen (n : Nat) (l : List SpanL) : Prop := ∀ s ∈ l, s.lo.length ≤ n ∧ s.hi.length ≤ n
theorem SpLen.mono {n m : Nat} (h : n ≤ m) {l : List SpanL} (hl : SpLen n l) : SpLen m l := fun s hs => ⟨Nat.le_trans (hl s hs).1 h, Nat.le_trans (hl s hs).2 h⟩
theorem SpLen.app {n : Nat} {a b : List SpanL} (ha : SpLen n a) (hb : SpLen n b) : SpLen n (a ++ b) := fun s hs => (List.mem_append.1 hs).elim (ha s) (hb s)
theorem xDe {n : Nat} {l : List SpanL} (h : SpLen n l) : SpLen n (xAV l) := by
  intro s hs
  obtain ⟨x, hx, e, _⟩ := xE6 hs
  obtain ⟨y, hy, e2⟩ := xIf hs
  rw [← e, ← e2]
  exact ⟨(h x hx).1, (h y hy).2⟩
theorem xQX (a b : Str) : xB7 a b = a ∨ xB7 a b = b := by unfold xB7; split <;> simp
theorem xFd {n : Nat} (hn : 1 ≤ n) {a b : SpanL} (ha : a.lo.length ≤ n ∧ a.hi.length ≤ n) (hb : b.lo.length ≤ n ∧ b.hi.length ≤ n) : (xAt a b).lo.length ≤ n ∧ (xAt a b).hi.length ≤ n := by
  unfold xAt
  split
  · exact ⟨hn, hn⟩
  · simp only
    constructor
    · rcases xIC a.lo b.lo with e | e <;> rw [e]
      · exact ha.1
      · exact hb.1
    · rcases xQX a.hi b.hi with e | e <;> rw [e]
      · exact ha.2
      · exact hb.2
theorem xNB {n : Nat} {g : List SpanL} (hg : SpLen n g) : SpLen n (xCw [] (xAV g) []) := by
  have h := xDe hg
  intro s hs
  constructor
  · rcases xGV _ _ _ _ hs with h1 | h1 | ⟨x, hx, h1⟩
    · cases h1
    · rw [h1]; simp
    · rw [← h1]; exact (h x hx).2
  · rcases xMI _ _ _ _ hs with h1 | h1 | ⟨x, hx, h1⟩
    · cases h1
    · rw [h1]; simp
    · rw [← h1]; exact (h x hx).1
theorem xEt {n : Nat} (hn : 1 ≤ n) {l g : List SpanL} (hl : SpLen n l) (hg : SpLen n g) : SpLen n (xAw l g) := by
  unfold xAw
  refine xDe fun s hs => ?_
  unfold xB5 at hs
  rw [List.mem_flatMap] at hs
  obtain ⟨c, hc, ht⟩ := hs
  obtain ⟨x, hx, rfl⟩ := List.mem_map.1 ht
  exact xFd hn (xNB hg c hc) (hl x hx)
structure MsgLen (b : Nat) (m : MsgL) : Prop where
  key : m.key.length ≤ b
  lo : m.sp.lo.length ≤ b
  hi : m.sp.hi.length ≤ b
  fr : m.fr.length ≤ b
  to : m.to.length ≤ b
theorem xCP {n : Nat} {p : Str} (h : p.length ≤ n) : (xAG p).lo.length ≤ n ∧ (xAG p).hi.length ≤ n := ⟨h, Nat.le_trans (xKg p) h⟩
theorem xNA {b : Nat} {m : MsgL} (hm : MsgLen b m) : SpLen b (xCZ m) := by
  intro s hs
  unfold xCZ at hs
  split at hs
  · simp at hs
    rcases hs with rfl | rfl
    · exact xCP hm.to
    · exact xCP hm.fr
  · simp at hs
    subst hs
    exact xCP hm.to
theorem xM8 {n : Nat} (hn : 1 ≤ n) {l : List SpanL} (hl : SpLen n l) {m : MsgL} (hm : m.to.length ≤ n) : SpLen n (inTo m l) := by
  intro s hs
  unfold inTo at hs
  rw [List.mem_filter, List.mem_map] at hs
  obtain ⟨⟨x, hx, rfl⟩, _⟩ := hs
  exact xFd hn (hl x hx) (xCP hm)
theorem xJs {n b : Nat} {s : SpanL} (hs : s.lo.length ≤ n ∧ s.hi.length ≤ n) {f t : Str} (ht : t.length ≤ b) : (xBV f t s).lo.length ≤ n + b ∧ (xBV f t s).hi.length ≤ n + b := by
  unfold xBV
  simp only
  constructor
  · simp only [List.length_append, List.length_drop]; omega
  · split
    · simp only [List.length_append, List.length_drop]; omega
    · have := xKg t; omega
theorem xHz {n b : Nat} (hb : b + 1 ≤ n) {l : List SpanL} (hl : SpLen n l) {m : MsgL} (hm : MsgLen b m) : SpLen (n + b) (xCN l m) := by
  unfold xCN
  split
  · refine (xEt (by omega) hl ?_).mono (by omega)
    intro s hs
    simp at hs
    subst hs
    have := hm.key
    unfold oneL
    simp
    omega
  · split
    · refine (xEt (by omega) hl ?_).mono (by omega)
      intro s hs
      simp at hs
      subst hs
      have h1 := hm.lo
      have h2 := hm.hi
      omega
    · split
      · exact hl.mono (by omega)
      · refine xDe (SpLen.app ((xEt (by omega) hl ((xNA hm).mono (by omega))).mono (by omega)) ?_)
        intro s hs
        obtain ⟨x, hx, rfl⟩ := List.mem_map.1 hs
        exact xJs (xM8 (by omega) hl (by have := hm.to; omega) x hx) hm.fr
theorem xKj {b : Nat} : ∀ (r : List MsgL) (n : Nat) (l : List SpanL), b + 1 ≤ n → SpLen n l → (∀ m ∈ r, MsgLen b m) → SpLen (n + b * r.length) (r.foldl xCN l)
  | [], n, l, _, h, _ => by simpa using h
  | m :: r, n, l, hb, h, hm => by
    have := xKj r (n + b) _ (by omega) (xHz hb h (hm m (by simp))) fun x hx => hm x (by simp [hx])
    rw [List.foldl_cons]
    refine this.mono ?_
    rw [List.length_cons, Nat.mul_add]
    omega
end Go.Pu
set_option linter.unusedVariables false
set_option linter.unusedSimpArgs false
namespace Go.Pu
structure RawM where
  a : Nat
  b : Nat
  c : Nat
  d : Nat
  e : Nat
  f : Nat
  deriving DecidableEq
def RawM.ok (r : RawM) : Prop := r.a < 256 ∧ r.b < 256 ∧ r.c < 256 ∧ r.d < 256 ∧ r.e < 256 ∧ r.f < 256
def paths5 : List Str := [[97, 47], [98, 47], [97, 47, 98, 47], [99, 47], [100, 47]]
def xA2 (n : Nat) : Str := (paths5[n % 5]?).getD []
def ends5 : List Str := [[1], [2, 0, 0], [2, 0, 1], [2, 0, 2], [3, 120]]
def endM (n : Nat) : Str := (ends5[n % 5]?).getD []
def keyM (n : Nat) : Str := xA2 (n % 4) ++ endM (n / 4)
def vals5 : List Str := [[], [120], [121, 121], [49, 50, 51, 52, 53, 54, 55, 56, 57, 48], [0, 255]]
def valM (n : Nat) : Str := (vals5[n % 5]?).getD []
def minS (a b : Str) : Str := if Op.bytesLess b a = true then b else a
def spM (x : RawM) : SpanL :=
  if x.e % 4 = 0 then xAG (xA2 x.b) else
  if x.e % 16 = 1 then ⟨keyM x.b, []⟩ else
  if x.e % 16 = 5 then ⟨[], []⟩ else
  if keyM x.b = keyM x.d then oneL (keyM x.b) else ⟨minS (keyM x.b) (keyM x.d), maxL (keyM x.b) (keyM x.d)⟩
def toM (x : RawM) : Str :=
  if xAD (xA2 x.b) (xA2 x.d) = true ∨ xAD (xA2 x.d) (xA2 x.b) = true then (if xA2 x.b = [100, 47] then [99, 47] else [100, 47]) else xA2 x.d
def xAq (x : RawM) : MsgL :=
  if x.a % 6 = 0 then ⟨1, keyM x.b, valM x.c, ⟨[], []⟩, [], [], (x.f % 8 : Nat)⟩ else
  if x.a % 6 = 1 then ⟨2, keyM x.b, [], ⟨[], []⟩, [], [], 0⟩ else
  if x.a % 6 = 2 then ⟨3, [], [], spM x, [], [], 0⟩ else
  if x.a % 6 = 3 then ⟨4, [], [], ⟨[], []⟩, xA2 x.b, toM x, 0⟩ else
  if x.a % 6 = 4 then ⟨5, [], [], ⟨[], []⟩, xA2 x.b, toM x, 0⟩ else ⟨6, [], [], spM x, [], [], (x.f % 8 : Nat)⟩
def xD9 (l : List RawM) (n : Nat) : List MsgL := (l.take n).map xAq
theorem xCg (n : Nat) : xA2 n ∈ paths5 := by
  unfold xA2 paths5
  have : n % 5 < 5 := Nat.mod_lt _ (by omega)
  generalize n % 5 = m at this
  match m, this with
  | 0, _ => simp
  | 1, _ => simp
  | 2, _ => simp
  | 3, _ => simp
  | 4, _ => simp
theorem xOv (n : Nat) : endM n ∈ ends5 := by
  unfold endM ends5
  have : n % 5 < 5 := Nat.mod_lt _ (by omega)
  generalize n % 5 = m at this
  match m, this with
  | 0, _ => simp
  | 1, _ => simp
  | 2, _ => simp
  | 3, _ => simp
  | 4, _ => simp
theorem xC9 {p : Str} (h : p ∈ paths5) : p.length ≤ 4 ∧ p ≠ [] := by
  have : ∀ p ∈ paths5, p.length ≤ 4 ∧ p ≠ [] := by decide
  exact this p h
theorem xK6 (n : Nat) : (keyM n).length ≤ 7 := by
  have h1 := (xC9 (xCg (n % 4))).1
  have h2 : ∀ p ∈ ends5, p.length ≤ 3 := by decide
  have h3 := h2 _ (xOv (n / 4))
  unfold keyM
  simp only [List.length_append]
  omega
theorem xQ1 (x : RawM) : toM x ∈ paths5 := by
  unfold toM
  split
  · split
    · decide
    · decide
  · exact xCg _
theorem xPe (x : RawM) : xAD (xA2 x.b) (toM x) = false ∧ xAD (toM x) (xA2 x.b) = false := by
  have key : ∀ p ∈ paths5, ∀ q ∈ paths5, xAD p (if xAD p q = true ∨ xAD q p = true then (if p = [100, 47] then [99, 47] else [100, 47]) else q) = false ∧ xAD (if xAD p q = true ∨ xAD q p = true then (if p = [100, 47] then [99, 47] else [100, 47]) else q) p = false := by decide
  exact key _ (xCg _) _ (xCg _)
theorem xPj (x : RawM) : xAJ (spM x) = false := by
  unfold spM
  split
  · exact xCW _
  · split
    · simp [xAJ]
    · split
      · simp [xAJ]
      · split
        · exact xE8 _
        · rename_i h
          generalize keyM x.b = a at h
          generalize keyM x.d = b at h
          unfold minS maxL xAJ
          simp only
          rcases xBt a b with h1 | h1 | h1
          · have h2 := xBp h1
            simp [h1, h2, (xDB h1).symm]
          · exact absurd h1 h
          · have h2 := xBp h1
            simp [h1, h2, (xDB h1).symm]
theorem xIv (x : RawM) : MsgOk (xAq x) := by
  have ha := xPe x
  have h1 := (xC9 (xCg x.b)).2
  have h2 := (xC9 (xQ1 x)).2
  unfold xAq
  repeat' split
  all_goals refine ⟨by simp, ?_, ?_⟩
  all_goals first | (intro h; exact ha) | (intro h; exact ⟨h1, h2⟩) | (intro h; simp at h)
theorem xJz (x : RawM) (h : (xAq x).kind = 3 ∨ (xAq x).kind = 6) : xAJ (xAq x).sp = false := by
  have hs := xPj x
  unfold xAq at h ⊢
  repeat' split
  all_goals first | exact hs | simp_all
theorem xM3 {a b : Str} {n : Nat} (ha : a.length ≤ n) (hb : b.length ≤ n) : (minS a b).length ≤ n ∧ (maxL a b).length ≤ n := by
  unfold minS maxL
  constructor <;> split <;> assumption
theorem xQU (x : RawM) : MsgLen 8 (xAq x) := by
  have h1 := (xC9 (xCg x.b)).1
  have h2 := (xC9 (xQ1 x)).1
  have h3 := xK6 x.b
  have h4 := xK6 x.d
  have h5 := xKg (xA2 x.b)
  have h6 := xM3 (n := 8) (a := keyM x.b) (b := keyM x.d) (by omega) (by omega)
  have hs : (spM x).lo.length ≤ 8 ∧ (spM x).hi.length ≤ 8 := by
    unfold spM
    repeat' split
    · exact ⟨by show (xA2 x.b).length ≤ 8; omega, by show (upL (xA2 x.b)).length ≤ 8; omega⟩
    · exact ⟨by simp only; omega, by simp⟩
    · simp
    · exact ⟨by show (keyM x.b).length ≤ 8; omega, by show (keyM x.b ++ [0]).length ≤ 8; simp; omega⟩
    · exact h6
  unfold xAq
  repeat' split
  all_goals (refine ⟨?_, ?_, ?_, ?_, ?_⟩ <;> simp only [List.length_nil] <;> omega)
theorem xOb {l : List RawM} {n : Nat} : ∀ m ∈ xD9 l n, MsgOk m := by
  intro m hm
  obtain ⟨x, _, rfl⟩ := List.mem_map.1 hm
  exact xIv x
theorem xL6 {l : List RawM} {n : Nat} : ∀ m ∈ xD9 l n, MsgLen 8 m := by
  intro m hm
  obtain ⟨x, _, rfl⟩ := List.mem_map.1 hm
  exact xQU x
end Go.Pu
set_option linter.unusedVariables false
set_option linter.unusedSimpArgs false
namespace Go.Pu
def covL (m : MsgL) (d : List SpanL) : Bool := (xAw (xAv m) d).length == 0
def nxtL (m : MsgL) (d : List SpanL) : List SpanL := xAw (d ++ xDQ m) (xDM m)
def xDR : List MsgL → List SpanL → List MsgL
  | [], _ => []
  | m :: r, d => if covL m d = true then xDR r d else m :: xDR r (nxtL m d)
def xOz : List MsgL → List SpanL → List SpanL
  | [], d => d
  | m :: r, d => if covL m d = true then xOz r d else xOz r (nxtL m d)
def xK5 (l : List MsgL) (dead : List SpanL) : List MsgL × List SpanL := ((xDR l.reverse (xAV dead)).reverse, xOz l.reverse (xAV dead))
def xCV (l : List MsgL) : List MsgL := (xK5 l []).1
theorem xJd : xAV [] = [] := rfl
theorem xMb (m : MsgL) : (xAv m).length ≤ 2 := by
  unfold xAv
  repeat' split
  all_goals simp
theorem xOf (m : MsgL) : (xDQ m).length ≤ 2 := by unfold xDQ; split; simp; exact xMb m
theorem xNw (m : MsgL) : (xDM m).length ≤ 1 := by
  unfold xDM
  repeat' split
  all_goals simp
theorem nxt_len (m : MsgL) (d : List SpanL) : (nxtL m d).length ≤ d.length + 3 := by
  have h1 := xFA (d ++ xDQ m) (xDM m)
  have h2 := xOf m
  have h3 := xNw m
  unfold nxtL
  rw [List.length_append] at h1
  omega
theorem cov_iff {m : MsgL} {d : List SpanL} : covL m d = true ↔ ∀ k, inL (xAv m) k = true → inL d k = true := by
  unfold covL
  have e : ((xAw (xAv m) d).length == 0) = true ↔ xAw (xAv m) d = [] := by simp
  rw [e]
  constructor
  · intro h k hk
    have := xBy (xAv m) d k
    rw [h, hk] at this
    cases hd : inL d k with
    | true => rfl
    | false => rw [hd] at this; simp [inL] at this
  · intro h
    refine Nrm.ext (xD8 _ _) ⟨by simp, by simp⟩ fun k => ?_
    rw [xBy]
    cases hw : inL (xAv m) k with
    | false => simp [inL]
    | true => rw [h k hw]; simp [inL]
theorem xE9 (m : MsgL) (d : List SpanL) (k : Str) : inL (nxtL m d) k = ((inL d k || inL (xDQ m) k) && !inL (xDM m) k) := by
  unfold nxtL
  rw [xBy, xCD]
structure MsgW (m : MsgL) : Prop extends MsgOk m where
  w : ∃ k, inL (xAv m) k = true
theorem made_w (x : RawM) : MsgW (xAq x) := by
  refine ⟨xIv x, ?_⟩
  have hk := (xIv x).k
  unfold xAv
  split
  · exact ⟨(xAq x).key, by rw [xAT, xFY]; simp⟩
  · split
    · exact ⟨(xAq x).fr, by rw [xAT, xAc]; simp [begins_iff]⟩
    · split
      · exact ⟨(xAq x).to, by rw [xAT, xAc]; simp [begins_iff]⟩
      · have h := xJz x (by omega)
        exact ⟨(xAq x).sp.lo, by rw [xAT, xDT h]; rfl⟩
theorem xKz {m : MsgL} (h : MsgW m) : covL m [] = false := by
  cases hc : covL m [] with
  | false => rfl
  | true =>
    obtain ⟨k, hk⟩ := h.w
    have := cov_iff.1 hc k hk
    simp [inL] at this
theorem xIy : ∀ (r : List MsgL) (d : List SpanL), (xDR r d).Sublist r
  | [], d => by simp [xDR]
  | m :: r, d => by
    rw [xDR]
    split
    · exact (xIy r d).cons m
    · exact (xIy r _).cons_cons m
theorem xHG : ∀ (r : List MsgL) (d : List SpanL), xDR (xDR r d) d = xDR r d
  | [], d => rfl
  | m :: r, d => by
    rw [xDR]
    cases h : covL m d with
    | true => simp only [if_true]; exact xHG r d
    | false =>
      simp only [Bool.false_eq_true, if_false]
      rw [xDR, h]
      simp only [Bool.false_eq_true, if_false]
      rw [xHG r]
theorem xPx (l : List MsgL) : xCV (xCV l) = xCV l := by
  unfold xCV xK5
  simp only [List.reverse_reverse, xJd]
  rw [xHG]
theorem reduce_sub (l : List MsgL) : (xCV l).Sublist l := by
  have := (xIy l.reverse (xAV [])).reverse
  rw [List.reverse_reverse] at this
  exact this
theorem xDf {l : List MsgL} {m : MsgL} (h : MsgW m) : xCV (l ++ [m]) = (xDR l.reverse (nxtL m [])).reverse ++ [m] := by
  unfold xCV xK5
  simp only [List.reverse_append, List.reverse_cons, List.reverse_nil, List.nil_append, List.singleton_append, xJd]
  rw [xDR, xKz h]
  simp
theorem xMD : ∀ (r : List MsgL) (d : List SpanL), (∀ k, inL d k = true) → xDR r d = []
  | [], d, _ => rfl
  | m :: r, d, h => by
    rw [xDR, if_pos (cov_iff.2 fun k _ => h k)]
    exact xMD r d h
def xCy : MsgL := ⟨3, [], [], ⟨[], []⟩, [], [], 0⟩
theorem xOx : MsgW xCy := ⟨⟨by simp [xCy], by simp [xCy], by simp [xCy]⟩, [], by simp [xAv, xCy, inL, hasL, xAs]⟩
theorem xPV (l : List MsgL) : xCV (l ++ [xCy]) = [xCy] := by
  rw [xDf xOx, xMD]
  · rfl
  · intro k
    rw [xE9]
    have h1 : inL (xDQ xCy) k = true := by simp [xDQ, xAv, xCy, inL, hasL, xBu]
    have h2 : inL (xDM xCy) k = false := by simp [xDM, xCy, inL]
    rw [h1, h2]
    simp
theorem xRB {l : List MsgL} {m : MsgL} (h : MsgW m) (hk : m.kind = 1 ∨ m.kind = 2 ∨ m.kind = 3) : xCV (l ++ [m, m]) = xCV (l ++ [m]) := by
  have e : l ++ [m, m] = (l ++ [m]) ++ [m] := by simp
  rw [e, xDf h, xDf h]
  congr 1
  rw [List.reverse_append]
  simp only [List.reverse_cons, List.reverse_nil, List.nil_append, List.singleton_append]
  rw [xDR, if_pos]
  refine cov_iff.2 fun k hw => ?_
  rw [xE9]
  have h1 : xDQ m = xAv m := by unfold xDQ; rw [if_neg (by omega)]
  have h2 : xDM m = [] := by unfold xDM; rw [if_neg (by omega), if_neg (by omega)]
  rw [h1, h2, hw]
  simp [inL]
def xJC (s d : SpanL) : Bool := !Op.bytesLess s.lo d.lo && (d.hi == [] || (!(s.hi == []) && (Op.bytesLess s.hi d.hi || s.hi == d.hi)))
def xGW (m d : MsgL) : Bool := (xAv m).all fun s => xJC s d.sp
theorem xF7 {s d : SpanL} (hs : xAJ s = false) : xJC s d = true ↔ ∀ k, hasL s k = true → hasL d k = true := by
  unfold xJC
  simp only [Bool.and_eq_true, Bool.not_eq_true', Bool.or_eq_true, beq_iff_eq, beq_eq_false_iff_ne, ne_eq]
  constructor
  · rintro ⟨h1, h2⟩ k hk
    obtain ⟨g1, g2⟩ := has_iff.1 hk
    have h3 : ble d.lo s.lo = true := by simp [ble, h1]
    refine has_iff.2 ⟨xBG h3 g1, ?_⟩
    rcases h2 with h2 | ⟨h2, h4⟩
    · exact .inl h2
    · have g2 := g2.resolve_left h2
      rcases h4 with h4 | h4
      · exact .inr (xAo g2 h4)
      · rw [← h4]; exact .inr g2
  · intro h
    have h1 := (has_iff.1 (h _ (xDT hs))).1
    refine ⟨by simpa [ble] using h1, ?_⟩
    by_cases hd : d.hi = []
    · exact .inl hd
    · refine .inr ?_
      have no : ∀ k, ble d.hi k = true → hasL d k = false := by
        intro k hk
        cases hh : hasL d k with
        | false => rfl
        | true =>
          have := (has_iff.1 hh).2.resolve_left hd
          simp [ble, this] at hk
      have hm : ble d.hi (maxL s.lo d.hi) = true := by
        have := (xG2 (a := s.lo) (b := d.hi) (k := maxL s.lo d.hi)).1 (xCI _)
        exact this.2
      have hm1 : ble s.lo (maxL s.lo d.hi) = true := by
        have := (xG2 (a := s.lo) (b := d.hi) (k := maxL s.lo d.hi)).1 (xCI _)
        exact this.1
      by_cases hsh : s.hi = []
      · have := h (maxL s.lo d.hi) (has_iff.2 ⟨hm1, .inl hsh⟩)
        rw [no _ hm] at this
        cases this
      · refine ⟨hsh, ?_⟩
        rcases xBt s.hi d.hi with h4 | h4 | h4
        · exact .inl h4
        · exact .inr h4
        · have h5 : Op.bytesLess (maxL s.lo d.hi) s.hi = true := by
            rcases xIC s.lo d.hi with e | e <;> rw [e]
            · exact xBD hs hsh
            · exact h4
          have := h (maxL s.lo d.hi) (has_iff.2 ⟨hm1, .inr h5⟩)
          rw [no _ hm] at this
          cases this
theorem xGa (x : RawM) : ∀ s ∈ xAv (xAq x), xAJ s = false := by
  intro s hs
  have hk := (xIv x).k
  unfold xAv at hs
  split at hs
  · rw [List.mem_singleton.1 hs]; exact xE8 _
  · split at hs
    · simp only [List.mem_cons, List.not_mem_nil, or_false] at hs
      rcases hs with rfl | rfl <;> exact xCW _
    · split at hs
      · rw [List.mem_singleton.1 hs]; exact xCW _
      · rw [List.mem_singleton.1 hs]; exact xJz x (by omega)
theorem xS3 (x y : RawM) (hy : (xAq y).kind = 3) : ((xCV [xAq x, xAq y]).length == 1) = xGW (xAq x) (xAq y) := by
  have e : ([xAq x, xAq y] : List MsgL) = [xAq x] ++ [xAq y] := rfl
  rw [e, xDf (made_w y)]
  have hw : xAv (xAq y) = [(xAq y).sp] := by unfold xAv; rw [if_neg (by omega), if_neg (by omega), if_neg (by omega)]
  have hkl : xDQ (xAq y) = [(xAq y).sp] := by unfold xDQ; rw [if_neg (by omega), hw]
  have hrd : xDM (xAq y) = [] := by unfold xDM; rw [if_neg (by omega), if_neg (by omega)]
  have hd : ∀ k, inL (nxtL (xAq y) []) k = hasL (xAq y).sp k := by
    intro k
    rw [xE9, hkl, hrd]
    simp [inL]
  have hc : covL (xAq x) (nxtL (xAq y) []) = xGW (xAq x) (xAq y) := by
    rw [Bool.eq_iff_iff, cov_iff]
    unfold xGW
    rw [List.all_eq_true]
    constructor
    · intro h s hs
      refine (xF7 (xGa x s hs)).2 fun k hk => ?_
      rw [← hd]
      exact h k (inL_iff.2 ⟨s, hs, hk⟩)
    · intro h k hk
      obtain ⟨s, hs, hk⟩ := inL_iff.1 hk
      rw [hd]
      exact (xF7 (xGa x s hs)).1 (h s hs) k hk
  simp only [List.reverse_cons, List.reverse_nil, List.nil_append]
  rw [xDR, hc]
  cases xGW (xAq x) (xAq y) <;> simp [xDR]
end Go.Pu
set_option linter.unusedVariables false
namespace Go.Pu
def xAH (t : List PairL) (k : Str) : Option PairL := t.find? (fun p => p.key == k)
theorem xAF (p : PairL) (t : List PairL) (k : Str) : xAH (p :: t) k = if p.key = k then some p else xAH t k := by
  unfold xAH
  rw [List.find?_cons]
  by_cases h : p.key = k
  · have : (p.key == k) = true := by simpa using h
    rw [if_pos h, this]
  · have : (p.key == k) = false := by simpa using h
    rw [if_neg h, this]
theorem xBW {t : List PairL} {k : Str} {p : PairL} (h : xAH t k = some p) : p.key = k := by
  have := List.find?_some h
  simpa using this
theorem xKF {t : List PairL} {k : Str} {p : PairL} (h : xAH t k = some p) : p ∈ t := List.mem_of_find?_eq_some h
theorem findP_none {t : List PairL} {k : Str} : xAH t k = none ↔ ∀ p ∈ t, p.key ≠ k := by simp [xAH]
theorem Srt.tail {p : PairL} {t : List PairL} (h : Srt (p :: t)) : Srt t := (List.pairwise_cons.1 h).2
theorem Srt.head {p : PairL} {t : List PairL} (h : Srt (p :: t)) {x : PairL} (hx : x ∈ t) : Op.bytesLess p.key x.key = true := (List.pairwise_cons.1 h).1 x hx
theorem Srt.find {t : List PairL} (h : Srt t) {p : PairL} (hp : p ∈ t) : xAH t p.key = some p := by
  induction t with
  | nil => cases hp
  | cons x t ih =>
    rw [xAF]
    rcases List.mem_cons.1 hp with rfl | hp
    · rw [if_pos rfl]
    · rw [if_neg (xDB (h.head hp)), ih h.tail hp]
theorem Srt.below {p : PairL} {t : List PairL} (h : Srt (p :: t)) {k : Str} (hk : ble k p.key = true) : xAH t k = none := by
  refine findP_none.2 (fun x hx e => ?_)
  have h1 := xFq hk (h.head hx)
  rw [e, xAs] at h1
  cases h1
theorem Srt.ext : ∀ {a b : List PairL}, Srt a → Srt b → (∀ k, xAH a k = xAH b k) → a = b
  | [], [], _, _, _ => rfl
  | [], y :: b, _, _, h => by
    have := h y.key
    rw [xAF, if_pos rfl] at this
    cases this
  | x :: a, [], _, _, h => by
    have := h x.key
    rw [xAF, if_pos rfl] at this
    cases this
  | x :: a, y :: b, ha, hb, h => by
    have hxy : x = y := by
      rcases xBt x.key y.key with h1 | h1 | h1
      · have h2 := h x.key
        rw [xAF, if_pos rfl, xAF, if_neg (fun e => xDB h1 e.symm), hb.below (ble_iff.2 (.inl h1))] at h2
        cases h2
      · have h2 := h x.key
        rw [xAF, if_pos rfl, xAF, if_pos h1.symm] at h2
        exact Option.some.inj h2
      · have h2 := h y.key
        rw [xAF, if_neg (fun e => xDB h1 e.symm), ha.below (ble_iff.2 (.inl h1)), xAF, if_pos rfl] at h2
        cases h2
    subst hxy
    rw [Srt.ext ha.tail hb.tail (fun k => ?_)]
    have h2 := h k
    by_cases hk : x.key = k
    · rw [ha.below (by rw [hk]; exact xCI k), hb.below (by rw [hk]; exact xCI k)]
    · rw [xAF, if_neg hk, xAF, if_neg hk] at h2
      exact h2
theorem srt_nil : Srt [] := List.Pairwise.nil
def xAk : List PairL → List PairL → List PairL
  | [], b => b
  | x :: a, [] => x :: a
  | x :: a, y :: b => if Op.bytesLess x.key y.key = true then x :: xAk a (y :: b) else if x.key = y.key then y :: xAk a b else y :: xAk (x :: a) b
termination_by a b => a.length + b.length
theorem xDH (a : List PairL) : xAk a [] = a := by cases a <;> simp [xAk]
theorem xDO (b : List PairL) : xAk [] b = b := by simp [xAk]
theorem xCh (x y : PairL) (a b : List PairL) : xAk (x :: a) (y :: b) = if Op.bytesLess x.key y.key = true then x :: xAk a (y :: b) else if x.key = y.key then y :: xAk a b else y :: xAk (x :: a) b := by
  rw [xAk]
theorem xCM {z : PairL} : ∀ (a b : List PairL), z ∈ xAk a b → z ∈ a ∨ z ∈ b
  | [], b, h => by rw [xDO] at h; exact .inr h
  | x :: a, [], h => by rw [xDH] at h; exact .inl h
  | x :: a, y :: b, h => by
    rw [xCh] at h
    split at h
    · rcases List.mem_cons.1 h with rfl | h
      · exact .inl (by simp)
      · rcases xCM a (y :: b) h with h | h
        · exact .inl (by simp [h])
        · exact .inr h
    · split at h
      · rcases List.mem_cons.1 h with rfl | h
        · exact .inr (by simp)
        · rcases xCM a b h with h | h
          · exact .inl (by simp [h])
          · exact .inr (by simp [h])
      · rcases List.mem_cons.1 h with rfl | h
        · exact .inr (by simp)
        · rcases xCM (x :: a) b h with h | h
          · exact .inl h
          · exact .inr (by simp [h])
termination_by a b => a.length + b.length
theorem xAY : ∀ {a b : List PairL}, Srt a → Srt b → Srt (xAk a b)
  | [], b, _, h => by rw [xDO]; exact h
  | x :: a, [], h, _ => by rw [xDH]; exact h
  | x :: a, y :: b, ha, hb => by
    rw [xCh]
    split
    · next h =>
      refine List.pairwise_cons.2 ⟨fun z hz => ?_, xAY ha.tail hb⟩
      rcases xCM _ _ hz with hz | hz
      · exact ha.head hz
      · rcases List.mem_cons.1 hz with rfl | hz
        · exact h
        · exact xAo h (hb.head hz)
    · next h =>
      split
      · next h2 =>
        refine List.pairwise_cons.2 ⟨fun z hz => ?_, xAY ha.tail hb.tail⟩
        rcases xCM _ _ hz with hz | hz
        · rw [← h2]; exact ha.head hz
        · exact hb.head hz
      · next h2 =>
        have hyx : Op.bytesLess y.key x.key = true := by
          rcases xBt x.key y.key with h3 | h3 | h3
          · exact absurd h3 h
          · exact absurd h3 h2
          · exact h3
        refine List.pairwise_cons.2 ⟨fun z hz => ?_, xAY ha hb.tail⟩
        rcases xCM _ _ hz with hz | hz
        · rcases List.mem_cons.1 hz with rfl | hz
          · exact hyx
          · exact xAo hyx (ha.head hz)
        · exact hb.head hz
termination_by a b => a.length + b.length
theorem xAf (k : Str) : ∀ {a b : List PairL}, Srt a → Srt b → xAH (xAk a b) k = (xAH b k).or (xAH a k)
  | [], b, _, _ => by rw [xDO]; simp [xAH]
  | x :: a, [], _, _ => by rw [xDH]; simp [xAH]
  | x :: a, y :: b, ha, hb => by
    rw [xCh]
    split
    · next h =>
      rw [xAF, xAf k ha.tail hb, xAF x a]
      split
      · next h2 =>
        have : xAH (y :: b) k = none := by
          rw [xAF, if_neg (fun e => xDB h (h2.trans e.symm)), hb.below (by rw [← h2]; exact ble_iff.2 (.inl h))]
        rw [this]; rfl
      · rfl
    · next h =>
      split
      · next h2 =>
        rw [xAF, xAf k ha.tail hb.tail, xAF y b, xAF x a, h2]
        split
        · rfl
        · rfl
      · next h2 =>
        rw [xAF, xAf k ha hb.tail, xAF y b]
        split
        · rfl
        · rfl
termination_by a b => a.length + b.length
theorem xDI : ∀ (a b : List PairL), (xAk a b).length ≤ a.length + b.length
  | [], b => by rw [xDO]; simp
  | x :: a, [] => by rw [xDH]; simp
  | x :: a, y :: b => by
    rw [xCh]
    simp only [List.length_cons]
    split
    · have := xDI a (y :: b)
      simp only [List.length_cons] at this ⊢
      omega
    · split
      · have := xDI a b
        simp only [List.length_cons] at this ⊢
        omega
      · have := xDI (x :: a) b
        simp only [List.length_cons] at this ⊢
        omega
termination_by a b => a.length + b.length
theorem xDw : ∀ (a b : List PairL), (∀ x ∈ a, ∀ y ∈ b, x.key ≠ y.key) → (xAk a b).length = a.length + b.length
  | [], b, _ => by rw [xDO]; simp
  | x :: a, [], _ => by rw [xDH]; simp
  | x :: a, y :: b, h => by
    rw [xCh]
    simp only [List.length_cons]
    split
    · have := xDw a (y :: b) (fun p hp q hq => h p (by simp [hp]) q hq)
      simp only [List.length_cons] at this ⊢
      omega
    · split
      · next h2 => exact absurd h2 (h x (by simp) y (by simp))
      · have := xDw (x :: a) b (fun p hp q hq => h p hp q (by simp [hq]))
        simp only [List.length_cons] at this ⊢
        omega
termination_by a b => a.length + b.length
theorem xRn {a b c : List PairL} (ha : Srt a) (hb : Srt b) (hc : Srt c) : xAk (xAk a b) c = xAk a (xAk b c) := by
  refine Srt.ext (xAY (xAY ha hb) hc) (xAY ha (xAY hb hc)) (fun k => ?_)
  rw [xAf k (xAY ha hb) hc, xAf k ha hb, xAf k ha (xAY hb hc), xAf k hb hc]
  cases xAH c k <;> rfl
theorem union_self {a : List PairL} (ha : Srt a) : xAk a a = a := by
  refine Srt.ext (xAY ha ha) ha (fun k => ?_)
  rw [xAf k ha ha]
  cases xAH a k <;> rfl
def xJf (a b : List PairL) : List PairL := b.filter (fun p => !(xAH a p.key).isSome)
theorem xEQ {a b : List PairL} (h : Srt b) : Srt (xJf a b) := h.filter _
theorem xBO {t : List PairL} (h : Srt t) (f : PairL → Bool) (k : Str) : xAH (t.filter f) k = (xAH t k).filter f := by
  induction t with
  | nil => rfl
  | cons x t ih =>
    rw [List.filter_cons, xAF]
    by_cases hk : x.key = k
    · rw [if_pos hk]
      split
      · next h2 => rw [xAF, if_pos hk, Option.filter, if_pos h2]
      · next h2 =>
        rw [ih h.tail, h.below (by rw [hk]; exact xCI k), Option.filter, Option.filter, if_neg h2]
    · rw [if_neg hk]
      split
      · rw [xAF, if_neg hk, ih h.tail]
      · rw [ih h.tail]
theorem xKE {a b : List PairL} (hb : Srt b) (k : Str) : xAH (xJf a b) k = if (xAH a k).isSome = true then none else xAH b k := by
  rw [xJf, xBO hb]
  cases h : xAH b k with
  | none => simp
  | some p =>
    have := xBW h
    simp only [Option.filter_some, this]
    cases xAH a k <;> simp
theorem xSI {a b : List PairL} : ∀ x ∈ a, ∀ y ∈ xJf a b, x.key ≠ y.key := by
  intro x hx y hy e
  obtain ⟨_, h2⟩ := List.mem_filter.1 hy
  have h3 : xAH a y.key = none := by simpa using h2
  exact findP_none.1 h3 x hx e
theorem rest_comm {a b : List PairL} (ha : Srt a) (hb : Srt b) : xAk a (xJf a b) = xAk (xJf a b) a := by
  refine Srt.ext (xAY ha (xEQ hb)) (xAY (xEQ hb) ha) (fun k => ?_)
  rw [xAf k ha (xEQ hb), xAf k (xEQ hb) ha, xKE hb]
  cases xAH a k <;> simp
theorem rest_union {a b : List PairL} (ha : Srt a) (hb : Srt b) : (xAk a b).length = a.length + (xJf a b).length := by
  have h1 : (xAk a b).map PairL.key = (xAk a (xJf a b)).map PairL.key := by
    have key : ∀ {s t : List PairL}, Srt s → Srt t → (∀ k, (xAH s k).isSome = (xAH t k).isSome) → s.map PairL.key = t.map PairL.key := by
      intro s t hs ht h
      have f1 : ∀ {u : List PairL}, Srt u → Srt (u.map (fun p => ⟨p.key, [], 0⟩)) := by
        intro u hu
        unfold Srt
        rw [List.pairwise_map]
        exact hu
      have f2 : ∀ (u : List PairL) (k : Str), xAH (u.map (fun p => (⟨p.key, [], 0⟩ : PairL))) k = if (xAH u k).isSome = true then some ⟨k, [], 0⟩ else none := by
        intro u k
        induction u with
        | nil => simp [xAH]
        | cons x u ih =>
          rw [List.map_cons, xAF, xAF]
          by_cases hk : x.key = k
          · rw [if_pos hk, if_pos hk]; simp [hk]
          · rw [if_neg hk, if_neg hk, ih]
      have f3 := Srt.ext (f1 hs) (f1 ht) (fun k => by rw [f2, f2, h k])
      have f4 := congrArg (List.map PairL.key) f3
      simpa [List.map_map, Function.comp_def] using f4
    refine key (xAY ha hb) (xAY ha (xEQ hb)) (fun k => ?_)
    rw [xAf k ha hb, xAf k ha (xEQ hb), xKE hb]
    cases xAH a k <;> cases xAH b k <;> rfl
  have h2 := congrArg List.length h1
  rw [List.length_map, List.length_map, xDw _ _ xSI] at h2
  exact h2
end Go.Pu
set_option linter.unusedVariables false
namespace Go.Pu
def lbN (t : List PairL) (k : Str) : Nat := (t.takeWhile (fun p => Op.bytesLess p.key k)).length
theorem xHD (p : PairL) (t : List PairL) (k : Str) : lbN (p :: t) k = if Op.bytesLess p.key k = true then lbN t k + 1 else 0 := by
  unfold lbN
  rw [List.takeWhile_cons]
  split <;> simp [*]
theorem xM6 (k : Str) : ∀ t : List PairL, lbN t k ≤ t.length
  | [] => Nat.le_refl _
  | p :: t => by
    have := xM6 k t
    rw [xHD, List.length_cons]
    split <;> omega
theorem xHC {t : List PairL} (h : Srt t) (k : Str) : ∀ {m : Nat} {p : PairL}, t[m]? = some p → (Op.bytesLess p.key k = true ↔ m < lbN t k) := by
  induction t with
  | nil => intro m p hp; simp at hp
  | cons x t ih =>
    intro m p hp
    rw [xHD]
    cases m with
    | zero =>
      obtain rfl : x = p := by simpa using hp
      split <;> simp [*]
    | succ m =>
      have hp' : t[m]? = some p := by simpa using hp
      split
      · rw [ih h.tail hp']; omega
      · next hx =>
        have hmem : p ∈ t := List.mem_of_getElem? hp'
        constructor
        · intro h2
          exact absurd (xAo (h.head hmem) h2) hx
        · intro h2; omega
theorem xMB {t : List PairL} (h : Srt t) (k : Str) : (match t[lbN t k]? with | some p => decide (p.key = k) | none => false) = (xAH t k).isSome := by
  induction t with
  | nil => simp [xAH]
  | cons x t ih =>
    rw [xHD, xAF]
    by_cases hx : Op.bytesLess x.key k = true
    · rw [if_pos hx, if_neg (xDB hx), List.getElem?_cons_succ]
      exact ih h.tail
    · rw [if_neg hx]
      simp only [List.getElem?_cons_zero]
      by_cases hk : x.key = k
      · rw [if_pos hk]; simp [hk]
      · rw [if_neg hk, h.below (by simpa [ble] using hx)]
        simp [hk]
theorem xSq {t : List PairL} (h : Srt t) {a b : Str} (hab : ble a b = true) : lbN t a ≤ lbN t b := by
  rcases Nat.lt_or_ge (lbN t b) (lbN t a) with h1 | h1
  · have h2 : lbN t b < t.length := Nat.lt_of_lt_of_le h1 (xM6 a t)
    obtain ⟨p, hp⟩ : ∃ p, t[lbN t b]? = some p := ⟨_, List.getElem?_eq_getElem h2⟩
    have h3 := (xHC h a hp).2 h1
    have h4 := (xHC h b hp).1 (xAg h3 hab)
    omega
  · exact h1
def xAX (t : List PairL) (s : SpanL) : Nat × Nat := if xAJ s = true then (0, 0) else (lbN t s.lo, if s.hi = [] then t.length else lbN t s.hi)
def xAh (t : List PairL) (s : SpanL) : List PairL := t.filter (fun p => hasL s p.key)
def xAx (t : List PairL) (s : SpanL) : List PairL := t.filter (fun p => !hasL s p.key)
theorem xHk {t : List PairL} (h : Srt t) (s : SpanL) : (xAX t s).1 ≤ (xAX t s).2 ∧ (xAX t s).2 ≤ t.length := by
  unfold xAX
  split
  · simp
  · next he =>
    have he : xAJ s = false := by simpa using he
    dsimp only
    split
    · exact ⟨xM6 _ _, Nat.le_refl _⟩
    · next hh => exact ⟨xSq h (ble_iff.2 (.inl (xBD he hh))), xM6 _ _⟩
theorem xGC {t : List PairL} (h : Srt t) (s : SpanL) : (∀ p ∈ t.take (xAX t s).1, hasL s p.key = false) ∧ (∀ p ∈ (t.drop (xAX t s).1).take ((xAX t s).2 - (xAX t s).1), hasL s p.key = true) ∧ ∀ p ∈ t.drop (xAX t s).2, hasL s p.key = false := by
  unfold xAX
  split
  · next he => refine ⟨by simp, by simp, fun p _ => xAd he p.key⟩
  · next he =>
    have he : xAJ s = false := by simpa using he
    dsimp only
    refine ⟨?_, ?_, ?_⟩
    · intro p hp
      obtain ⟨m, hm⟩ := List.mem_iff_getElem?.1 hp
      rw [List.getElem?_take] at hm
      split at hm
      · next hml =>
        have h1 := (xHC h s.lo hm).2 hml
        simp [hasL, h1]
      · cases hm
    · intro p hp
      obtain ⟨m, hm⟩ := List.mem_iff_getElem?.1 hp
      have key : ∀ n : Nat, ((t.drop (lbN t s.lo)).take n)[m]? = some p → m < n ∧ t[lbN t s.lo + m]? = some p := by
        intro n hm
        rw [List.getElem?_take] at hm
        split at hm
        · next hml => rw [List.getElem?_drop] at hm; exact ⟨hml, hm⟩
        · cases hm
      obtain ⟨hml, hm⟩ := key _ hm
      have h1 : ¬ Op.bytesLess p.key s.lo = true := fun h2 => by have := (xHC h s.lo hm).1 h2; omega
      have h1' : Op.bytesLess p.key s.lo = false := by simpa using h1
      refine has_iff.2 ⟨by simp [ble, h1'], ?_⟩
      by_cases hh : s.hi = []
      · exact .inl hh
      · rw [if_neg hh] at hml
        exact .inr ((xHC h s.hi hm).2 (by omega))
    · intro p hp
      obtain ⟨m, hm⟩ := List.mem_iff_getElem?.1 hp
      rw [List.getElem?_drop] at hm
      by_cases hh : s.hi = []
      · rw [if_pos hh] at hm
        have := (List.getElem?_eq_some_iff.1 hm).1
        omega
      · rw [if_neg hh] at hm
        have h1 : ¬ Op.bytesLess p.key s.hi = true := fun h2 => by have := (xHC h s.hi hm).1 h2; omega
        have h1' : Op.bytesLess p.key s.hi = false := by simpa using h1
        have h2 : (s.hi == []) = false := by simpa using hh
        simp only [hasL, h1', h2, Bool.or_self, Bool.and_false]
theorem xGB {t : List PairL} (s : SpanL) (h : Srt t) : t = t.take (xAX t s).1 ++ ((t.drop (xAX t s).1).take ((xAX t s).2 - (xAX t s).1) ++ t.drop (xAX t s).2) := by
  obtain ⟨h1, h2⟩ := xHk h s
  have e : t.drop (xAX t s).2 = (t.drop (xAX t s).1).drop ((xAX t s).2 - (xAX t s).1) := by
    rw [List.drop_drop]; congr 1; omega
  rw [e, List.take_append_drop, List.take_append_drop]
theorem xP0 {t : List PairL} (h : Srt t) (s : SpanL) : (t.drop (xAX t s).1).take ((xAX t s).2 - (xAX t s).1) = xAh t s := by
  obtain ⟨h1, h2, h3⟩ := xGC h s
  have e := xGB s h
  generalize (xAX t s).1 = a at *
  generalize (xAX t s).2 = b at *
  unfold xAh
  conv => rhs; rw [e]
  rw [List.filter_append, List.filter_append, List.filter_eq_nil_iff.2 (fun p hp => by simp [h1 p hp]), List.filter_eq_self.2 h2, List.filter_eq_nil_iff.2 (fun p hp => by simp [h3 p hp])]
  simp
theorem xS1 {t : List PairL} (h : Srt t) (s : SpanL) : t.take (xAX t s).1 ++ t.drop (xAX t s).2 = xAx t s := by
  obtain ⟨h1, h2, h3⟩ := xGC h s
  have e := xGB s h
  generalize (xAX t s).1 = a at *
  generalize (xAX t s).2 = b at *
  unfold xAx
  conv => rhs; rw [e]
  rw [List.filter_append, List.filter_append, List.filter_eq_self.2 (fun p hp => by simp [h1 p hp]), List.filter_eq_nil_iff.2 (fun p hp => by simp [h2 p hp]), List.filter_eq_self.2 (fun p hp => by simp [h3 p hp])]
  simp
theorem xB4 {t : List PairL} (h : Srt t) (s : SpanL) : Srt (xAh t s) := h.filter _
theorem xBP {t : List PairL} (h : Srt t) (s : SpanL) : Srt (xAx t s) := h.filter _
theorem xPW (t : List PairL) (s : SpanL) : (xAh t s).length + (xAx t s).length = t.length := by
  unfold xAh xAx
  induction t with
  | nil => rfl
  | cons x t ih =>
    rw [List.filter_cons, List.filter_cons]
    cases hasL s x.key <;> simp <;> omega
theorem xNO {t : List PairL} (h : Srt t) (s : SpanL) : xAk (xAh t s) (xAx t s) = t := by
  refine Srt.ext (xAY (xB4 h s) (xBP h s)) h (fun k => ?_)
  rw [xAf k (xB4 h s) (xBP h s), xAh, xAx, xBO h, xBO h]
  cases hf : xAH t k with
  | none => rfl
  | some p =>
    simp only [Option.filter_some]
    cases hasL s p.key <;> rfl
theorem xPz (t : List PairL) (s : SpanL) : xAh (xAx t s) s = [] := by
  unfold xAh xAx
  rw [List.filter_filter, List.filter_eq_nil_iff]
  intro p _
  cases hasL s p.key <;> simp
theorem xSK (t : List PairL) (s u : SpanL) : xAh (xAh t s) u = xAh (xAh t u) s := by
  unfold xAh
  rw [List.filter_filter, List.filter_filter]
  congr 1
  funext p
  rw [Bool.and_comm]
theorem drop_drop (t : List PairL) (s u : SpanL) : xAx (xAx t s) u = xAx (xAx t u) s := by
  unfold xAx
  rw [List.filter_filter, List.filter_filter]
  congr 1
  funext p
  rw [Bool.and_comm]
def mvP (f t : Str) (p : PairL) : PairL := ⟨t ++ p.key.drop f.length, p.val, p.stamp⟩
def srcL (t : List PairL) (f : Str) : List PairL := t.filter (fun p => xAD p.key f)
def xBb (t : List PairL) (f to : Str) : List PairL := (srcL t f).map (mvP f to)
theorem xJh (t : List PairL) (f : Str) : xAh t (xAG f) = srcL t f := by
  unfold xAh srcL
  congr 1
  funext p
  rw [xAc]
theorem xEP {t : List PairL} {f : Str} {p : PairL} (h : p ∈ srcL t f) : xAD p.key f = true := (List.mem_filter.1 h).2
theorem xRw {t : List PairL} (h : Srt t) (f : Str) : Srt (srcL t f) := h.filter _
theorem xGx {t : List PairL} (h : Srt t) (f to : Str) : Srt (xBb t f to) := by
  unfold xBb Srt
  rw [List.pairwise_map]
  refine List.Pairwise.imp_of_mem ?_ (xRw h f)
  intro a b ha hb hab
  obtain ⟨r1, h1⟩ := begins_iff.1 (xEP ha)
  obtain ⟨r2, h2⟩ := begins_iff.1 (xEP hb)
  simp only [mvP]
  rw [h1, h2] at hab ⊢
  rw [xEK] at hab ⊢
  rw [List.drop_left, List.drop_left]
  exact hab
theorem moved_back {t : List PairL} (f to : Str) : xBb (xBb t f to) to f = srcL t f := by
  have h1 : srcL (xBb t f to) to = xBb t f to := by
    unfold srcL
    refine List.filter_eq_self.2 (fun p hp => ?_)
    obtain ⟨q, _, rfl⟩ := List.mem_map.1 hp
    exact begins_iff.2 ⟨_, rfl⟩
  rw [xBb, h1, xBb, List.map_map]
  refine (List.map_congr_left (fun p hp => ?_)).trans (List.map_id _)
  obtain ⟨r, hr⟩ := begins_iff.1 (xEP hp)
  obtain ⟨k, v, st⟩ := p
  simp only [mvP, Function.comp_def, id]
  dsimp only at hr
  rw [hr]
  simp
end Go.Pu
set_option linter.unusedVariables false
namespace Go.Pu
theorem xB9 {p : PairL} {t : List PairL} (h : Srt t) (k : Str) : xAH (putL t p) k = if p.key = k then some p else xAH t k := by
  rw [xFX]
  induction t with
  | nil => rw [insL, xAF]
  | cons x t ih =>
    rw [insL]
    split
    · next hx =>
      rw [xAF, ih h.tail, xAF]
      by_cases hk : x.key = k
      · rw [if_pos hk, if_pos hk, if_neg (fun e => xDB hx (hk.trans e.symm))]
      · rw [if_neg hk, if_neg hk]
    · next hx =>
      rw [xAF]
      by_cases hk : p.key = k
      · rw [if_pos hk, if_pos hk]
      · rw [if_neg hk, if_neg hk, xBO h]
        cases hf : xAH (x :: t) k with
        | none => rfl
        | some y =>
          have := xBW hf
          rw [Option.filter_some, if_pos]
          simpa [this] using fun e => hk e.symm
theorem xJ8 {t : List PairL} (h : Srt t) {k : Str} (hf : (xAH t k).isSome = true) : ∃ p, t[lbN t k]? = some p ∧ xAH t k = some p ∧ p.key = k := by
  have h1 := xMB h k
  rw [hf] at h1
  cases hg : t[lbN t k]? with
  | none => rw [hg] at h1; cases h1
  | some p =>
    rw [hg] at h1
    have hk : p.key = k := by simpa using h1
    exact ⟨p, rfl, by rw [← hk]; exact h.find (List.mem_of_getElem? hg), hk⟩
theorem xJi {p : PairL} {t : List PairL} (h : Srt t) (hf : (xAH t p.key).isSome = true) : t.set (lbN t p.key) p = putL t p := by
  rw [xFX]
  induction t with
  | nil => cases hf
  | cons x t ih =>
    rw [xHD, insL]
    by_cases hx : Op.bytesLess x.key p.key = true
    · rw [if_pos hx, if_pos hx, List.set_cons_succ, ih h.tail]
      rw [xAF, if_neg (xDB hx)] at hf
      exact hf
    · rw [if_neg hx, if_neg hx, List.set_cons_zero]
      have hk : x.key = p.key := by
        rw [xAF] at hf
        by_cases hk : x.key = p.key
        · exact hk
        · rw [if_neg hk, h.below (by simpa [ble] using hx)] at hf
          cases hf
      have hne : ∀ y ∈ t, (!(y.key == p.key)) = true := fun y hy => by
        have := xDB (h.head hy)
        rw [hk] at this
        simpa using fun e => this e.symm
      rw [List.filter_cons, if_neg (by simp [hk]), List.filter_eq_self.2 hne]
theorem xN4 {p : PairL} {t : List PairL} (h : Srt t) (hf : (xAH t p.key).isSome = false) : t.take (lbN t p.key) ++ p :: t.drop (lbN t p.key) = putL t p := by
  rw [xFX]
  induction t with
  | nil => simp [insL]
  | cons x t ih =>
    rw [xHD, insL]
    by_cases hx : Op.bytesLess x.key p.key = true
    · rw [if_pos hx, if_pos hx, List.take_succ_cons, List.drop_succ_cons, List.cons_append, ih h.tail]
      rw [xAF, if_neg (xDB hx)] at hf
      exact hf
    · rw [if_neg hx, if_neg hx, List.take_zero, List.drop_zero, List.nil_append]
      have h1 : xAH (x :: t) p.key = none := by simpa using hf
      have h2 := findP_none.1 h1
      rw [List.filter_eq_self.2 (fun y hy => by simpa using h2 y hy)]
def delT (t : List PairL) (k : Str) : List PairL := t.filter (fun p => !(p.key == k))
theorem xQi (t : List PairL) (k : Str) : xAx t (oneL k) = delT t k := by
  unfold xAx delT
  refine List.filter_congr (fun p _ => ?_)
  rw [xFY]
theorem xLB {t : List PairL} (h : Srt t) (k : Str) : Srt (delT t k) := h.filter _
theorem xS2 (t : List PairL) (k : Str) : (delT t k).length ≤ t.length := List.length_filter_le ..
theorem xI7 {t : List PairL} (h : Srt t) (k x : Str) : xAH (delT t k) x = if k = x then none else xAH t x := by
  rw [delT, xBO h]
  cases hf : xAH t x with
  | none => simp
  | some p =>
    have := xBW hf
    subst this
    by_cases hk : k = p.key
    · simp [hk]
    · rw [if_neg hk, Option.filter_some, if_pos]
      simpa using fun e => hk e.symm
theorem put_put {p q : PairL} {t : List PairL} (h : Srt t) (hk : p.key = q.key) : putL (putL t p) q = putL t q := by
  refine Srt.ext (xBC (xBC h)) (xBC h) (fun k => ?_)
  rw [xB9 (xBC h), xB9 h, xB9 h, hk]
  by_cases h1 : q.key = k <;> simp [h1]
theorem put_comm {p q : PairL} {t : List PairL} (h : Srt t) (hk : p.key ≠ q.key) : putL (putL t p) q = putL (putL t q) p := by
  refine Srt.ext (xBC (xBC h)) (xBC (xBC h)) (fun k => ?_)
  rw [xB9 (xBC h), xB9 h, xB9 (xBC h), xB9 h]
  by_cases h1 : q.key = k
  · have h2 : p.key ≠ k := fun e => hk (e.trans h1.symm)
    simp [h1, h2]
  · simp [h1]
theorem del_put {p : PairL} {t : List PairL} (h : Srt t) : delT (putL t p) p.key = delT t p.key := by
  refine Srt.ext (xLB (xBC h) _) (xLB h _) (fun k => ?_)
  rw [xI7 (xBC h), xI7 h, xB9 h]
  by_cases h1 : p.key = k <;> simp [h1]
theorem xP1 (b : List PairL) : ∀ {a : List PairL}, Srt a → Srt (b.foldl putL a) := by
  induction b with
  | nil => intro a h; exact h
  | cons x b ih => intro a h; exact ih (xBC h)
theorem xOs {b : List PairL} (hb : Srt b) : ∀ {a : List PairL}, Srt a → ∀ k, xAH (b.foldl putL a) k = (xAH b k).or (xAH a k) := by
  induction b with
  | nil => intro a _ k; simp [xAH]
  | cons x b ih =>
    intro a ha k
    rw [List.foldl_cons, ih hb.tail (xBC ha), xB9 ha, xAF]
    by_cases hk : x.key = k
    · rw [if_pos hk, if_pos hk, hb.below (by rw [hk]; exact xCI k)]; rfl
    · rw [if_neg hk, if_neg hk]
theorem xFW {a b : List PairL} (ha : Srt a) (hb : Srt b) : b.foldl putL a = xAk a b :=
  Srt.ext (xP1 b ha) (xAY ha hb) (fun k => by rw [xOs hb ha, xAf k ha hb])
end Go.Pu
set_option linter.unusedVariables false
set_option linter.unusedSimpArgs false
namespace Go.Pu
structure FolL where
  key : Str
  known : Bool
  has : Bool
  val : Str
  std : Bool
  st : Int
  deriving DecidableEq
def xBd (f : FolL) (n : Int) : FolL := if f.std = true then f else { f with std := true, st := n }
def xAl (f : FolL) (m : MsgL) : FolL :=
  if m.kind = 1 then (if m.key = f.key then { xBd f m.n with known := true, has := true, val := m.val } else f) else
  if m.kind = 2 then (if m.key = f.key then { f with known := true } else f) else
  if m.kind = 3 then (if hasL m.sp f.key = true then { f with known := true } else f) else
  if m.kind = 6 then (if hasL m.sp f.key = true then xBd f m.n else f) else
  if m.kind = 4 ∧ xAD f.key m.fr = true then { f with known := true } else
  if xAD f.key m.to = true then { f with key := m.fr ++ f.key.drop m.to.length } else f
def xAO : FolL → List MsgL → FolL
  | f, [] => f
  | f, m :: r => if f.known = true then f else xAO (xAl f m) r
theorem xAS {f : FolL} (h : f.known = true) (r : List MsgL) : xAO f r = f := by
  cases r with
  | nil => rfl
  | cons m r => rw [xAO, if_pos h]
theorem xA8 {f : FolL} (h : f.known = false) (m : MsgL) (r : List MsgL) : xAO f (m :: r) = xAO (xAl f m) r := by rw [xAO, if_neg (by rw [h]; simp)]
theorem xFL : ∀ (a b : List MsgL) (f : FolL), xAO f (a ++ b) = xAO (xAO f a) b
  | [], b, f => rfl
  | m :: a, b, f => by
    cases h : f.known with
    | true => rw [xAS h, xAS h, xAS h]
    | false => rw [List.cons_append, xA8 h, xA8 h, xFL a b]
structure FoundL where
  known : Bool
  has : Bool
  pair : PairL
  key : Str
  std : Bool
  st : Int
  deriving DecidableEq
def xLr : PairL := ⟨[], [], 0⟩
def xBn (k : Str) (f : FolL) : FoundL :=
  if f.known = true ∧ f.has = false then ⟨true, false, xLr, [], false, 0⟩ else
  if f.known = true then ⟨true, true, ⟨k, f.val, f.st⟩, [], false, 0⟩ else ⟨false, false, ⟨k, [], 0⟩, f.key, f.std, f.st⟩
def fol0 (k : Str) : FolL := ⟨k, false, false, [], false, 0⟩
def keyL (k : Str) (l : List MsgL) : FoundL := xBn k (xAO (fol0 k) l.reverse)
def xLP (f : FoundL) (p : PairL) (has : Bool) : PairL × Bool :=
  if f.known = true then (f.pair, f.has) else if has = false then (xLr, false) else (⟨f.pair.key, p.val, if f.std = true then f.st else p.stamp⟩, true)
theorem xCi (f : FolL) (n : Int) : (xBd f n).key = f.key ∧ (xBd f n).known = f.known ∧ (xBd f n).has = f.has ∧ (xBd f n).val = f.val := by unfold xBd; split <;> simp
theorem xHm {f : FolL} {m : MsgL} {k : Str} (h : bkL m f.key = some k) : (xAl f m).key = k ∧ (xAl f m).known = f.known ∧ (xAl f m).has = f.has ∧ (xAl f m).val = f.val := by
  unfold bkL at h
  unfold xAl
  by_cases h1 : m.kind = 1
  · simp only [h1, true_or, if_true] at h ⊢
    split at h
    · cases h
    · rename_i hk
      cases h
      rw [if_neg hk]
      simp
  · by_cases h2 : m.kind = 2
    · simp only [h2, or_true, if_true] at h
      simp only [h2, if_true, if_neg (show ¬ (2 : Int) = 1 by decide)]
      split at h
      · cases h
      · rename_i hk
        cases h
        rw [if_neg hk]
        simp
    · rw [if_neg (by simp [h1, h2])] at h
      rw [if_neg h1, if_neg h2]
      by_cases h3 : m.kind = 3
      · rw [if_pos h3] at h ⊢
        split at h
        · cases h
        · rename_i hk
          cases h
          rw [if_neg hk]
          simp
      · rw [if_neg h3] at h ⊢
        by_cases h6 : m.kind = 6
        · rw [if_pos h6] at h ⊢
          cases h
          split
          · exact xCi f m.n
          · simp
        · rw [if_neg h6] at h ⊢
          split at h
          · cases h
          · rename_i h4
            rw [if_neg h4]
            split at h
            · rename_i h5
              rw [if_pos h5]
              cases h
              simp
            · rename_i h5
              rw [if_neg h5]
              cases h
              simp
theorem xFR {f : FolL} {m : MsgL} (h : bkL m f.key = none) : (xAl f m).known = true := by
  unfold bkL at h
  unfold xAl
  by_cases h1 : m.kind = 1
  · simp only [h1, true_or, if_true] at h ⊢
    split at h
    · rename_i hk
      rw [if_pos hk]
    · cases h
  · by_cases h2 : m.kind = 2
    · simp only [h2, or_true, if_true] at h
      simp only [h2, if_true, if_neg (show ¬ (2 : Int) = 1 by decide)]
      split at h
      · rename_i hk
        rw [if_pos hk]
      · cases h
    · rw [if_neg (by simp [h1, h2])] at h
      rw [if_neg h1, if_neg h2]
      by_cases h3 : m.kind = 3
      · rw [if_pos h3] at h ⊢
        split at h
        · rename_i hk
          rw [if_pos hk]
        · cases h
      · rw [if_neg h3] at h ⊢
        by_cases h6 : m.kind = 6
        · rw [if_pos h6] at h; cases h
        · rw [if_neg h6] at h ⊢
          split at h
          · rename_i h4
            rw [if_pos h4]
          · split at h <;> cases h
theorem xE0 : ∀ (r : List MsgL) (f : FolL), f.known = false → (xAO f r).known = (bksL r f.key).isNone ∧ ∀ k, bksL r f.key = some k → (xAO f r).key = k
  | [], f, h => ⟨by simp [xAO, bksL, h], fun k hk => by simp [bksL] at hk; exact hk⟩
  | m :: r, f, h => by
    rw [xA8 h, bksL]
    cases hb : bkL m f.key with
    | none =>
      have := xFR hb
      rw [xAS this]
      exact ⟨by simp [this], fun k hk => by simp at hk⟩
    | some k =>
      obtain ⟨e1, e2, _⟩ := xHm hb
      have := xE0 r (xAl f m) (by rw [e2, h])
      rw [e1] at this
      exact this
theorem xHE {k : Str} {l : List MsgL} : (keyL k l).known = (bksL l.reverse k).isNone := by
  have h := (xE0 l.reverse (fol0 k) rfl).1
  have e : (keyL k l).known = (xAO (fol0 k) l.reverse).known := by
    unfold keyL xBn
    cases h1 : (xAO (fol0 k) l.reverse).known <;> cases h2 : (xAO (fol0 k) l.reverse).has <;> simp
  rw [e, h]
  rfl
theorem xK7 {k x : Str} {l : List MsgL} (h : bksL l.reverse k = some x) : (keyL k l).key = x ∧ (keyL k l).known = false := by
  obtain ⟨h1, h2⟩ := xE0 l.reverse (fol0 k) rfl
  have h3 := h2 x h
  rw [show (fol0 k).key = k from rfl, h] at h1
  have h4 : (xAO (fol0 k) l.reverse).known = false := h1
  have e : keyL k l = ⟨false, false, ⟨k, [], 0⟩, (xAO (fol0 k) l.reverse).key, (xAO (fol0 k) l.reverse).std, (xAO (fol0 k) l.reverse).st⟩ := by
    unfold keyL xBn
    rw [if_neg (by rw [h4]; simp), if_neg (by rw [h4]; simp)]
  rw [e]
  exact ⟨h3, rfl⟩
def xEY (s : Bool) (n : Int) (f : FolL) : FolL := if s = true then { f with std := true, st := n } else f
theorem xMg (s : Bool) (n : Int) (f : FolL) (k : Int) : xBd (xEY s n f) k = xEY s n (xBd f k) := by
  obtain ⟨a1, a2, a3, a4, a5, a6⟩ := f
  unfold xEY xBd
  cases s <;> cases a5 <;> simp
theorem xPN (s : Bool) (n : Int) (f : FolL) (m : MsgL) : xAl (xEY s n f) m = xEY s n (xAl f m) := by
  have e : (xEY s n f).key = f.key := by unfold xEY; split <;> rfl
  unfold xAl
  rw [e, xMg]
  cases s
  · simp [xEY]
  · simp only [xEY, if_true]
    repeat' split
    all_goals rfl
theorem xHS (s : Bool) (n : Int) : ∀ (r : List MsgL) (f : FolL), xAO (xEY s n f) r = xEY s n (xAO f r)
  | [], f => rfl
  | m :: r, f => by
    have e : (xEY s n f).known = f.known := by unfold xEY; split <;> rfl
    cases h : f.known with
    | true => rw [xAS h, xAS (by rw [e, h])]
    | false => rw [xA8 h, xA8 (by rw [e, h]), xPN, xHS s n r]
theorem xEE : ∀ (r : List MsgL) (f : FolL), f.known = false → f.has = false → f.val = [] → (xAO f r).known = false → (xAO f r).has = false ∧ (xAO f r).val = []
  | [], f, _, h2, h3, _ => ⟨h2, h3⟩
  | m :: r, f, h1, h2, h3, h4 => by
    rw [xA8 h1] at h4 ⊢
    cases hb : bkL m f.key with
    | none =>
      rw [xAS (xFR hb), xFR hb] at h4
      cases h4
    | some k =>
      obtain ⟨e1, e2, e3, e4⟩ := xHm hb
      exact xEE r _ (e2.trans h1) (e3.trans h2) (e4.trans h3) h4
theorem xHT : ∀ (r : List MsgL) (f : FolL), (f.std = false → f.st = 0) → ((xAO f r).std = false → (xAO f r).st = 0)
  | [], f, h => h
  | m :: r, f, h => by
    cases hk : f.known with
    | true => rw [xAS hk]; exact h
    | false =>
      rw [xA8 hk]
      refine xHT r _ ?_
      have hs : (xBd f m.n).std = false → (xBd f m.n).st = 0 := by
        unfold xBd
        split
        · exact h
        · intro h; cases h
      unfold xAl
      repeat' split
      all_goals first | exact h | exact hs
def xRP (k : Str) (late : FoundL) (early : FoundL) : FoundL :=
  let w := early
  let w := if early.known = false ∨ early.has = true then { w with pair := { w.pair with key := k } } else w
  let w := if early.known = false ∧ late.std = true then { w with std := true, st := late.st } else w
  if early.has = true ∧ late.std = true then { w with pair := { w.pair with stamp := late.st } } else w
theorem key_parts (k : Str) (a b : List MsgL) : keyL k (a ++ b) = if (keyL k b).known = true then keyL k b else xRP k (keyL k b) (keyL (keyL k b).key a) := by
  have e : keyL k (a ++ b) = xBn k (xAO (xAO (fol0 k) b.reverse) a.reverse) := by
    unfold keyL
    rw [List.reverse_append, xFL]
  rw [e]
  generalize hF : xAO (fol0 k) b.reverse = F
  have hb : keyL k b = xBn k F := by unfold keyL; rw [hF]
  rw [hb]
  have fr := xEE b.reverse (fol0 k) rfl rfl rfl
  rw [hF] at fr
  have s0 := xHT b.reverse (fol0 k) (fun _ => rfl)
  rw [hF] at s0
  cases hk : F.known with
  | true =>
    have : (xBn k F).known = true := by unfold xBn; cases hh : F.has <;> simp [hk, hh]
    rw [if_pos this, xAS hk]
  | false =>
    have e2 : xBn k F = ⟨false, false, ⟨k, [], 0⟩, F.key, F.std, F.st⟩ := by unfold xBn; simp [hk]
    rw [e2]
    simp only [Bool.false_eq_true, if_false]
    have e3 : F = xEY F.std F.st (fol0 F.key) := by
      obtain ⟨h1, h2⟩ := fr hk
      obtain ⟨a1, a2, a3, a4, a5, a6⟩ := F
      simp only at h1 h2 hk s0
      subst h1 h2 hk
      cases a5
      · rw [s0 rfl]; rfl
      · rfl
    have e4 : xAO F a.reverse = xEY F.std F.st (xAO (fol0 F.key) a.reverse) := by
      conv => lhs; rw [e3]
      exact xHS _ _ _ _
    rw [e4]
    unfold keyL
    generalize xAO (fol0 F.key) a.reverse = G
    obtain ⟨a1, a2, a3, a4, a5, a6⟩ := G
    unfold xRP xEY xBn
    cases a2 <;> cases a3 <;> cases F.std <;> simp [xLr]
end Go.Pu
set_option linter.unusedVariables false
set_option linter.unusedSimpArgs false
namespace Go.Pu
def xCo (m : MsgL) (p : PairL) : PairL := if hasL m.sp p.key = true then { p with stamp := m.n } else p
def xCd (t : List PairL) (m : MsgL) : List PairL := xAk (xAx t (xAG m.to)) (xBb t m.fr m.to)
def xC2 (t : List PairL) (m : MsgL) : List PairL :=
  if m.kind = 1 then putL t ⟨m.key, m.val, m.n⟩ else
  if m.kind = 2 then delT t m.key else
  if m.kind = 3 then xAx t m.sp else
  if m.kind = 6 then t.map (xCo m) else
  if m.kind = 4 then xAx (xCd t m) (xAG m.fr) else xCd t m
def allT (t : List PairL) (l : List MsgL) : List PairL := l.foldl xC2 t
theorem xFU (m : MsgL) (p : PairL) : (xCo m p).key = p.key := by unfold xCo; split <;> rfl
theorem xML {g : PairL → PairL} (hg : ∀ p, (g p).key = p.key) : ∀ (t : List PairL) (k : Str), xAH (t.map g) k = (xAH t k).map g
  | [], k => rfl
  | p :: t, k => by
    rw [List.map_cons, xAF, xAF, hg]
    split
    · rfl
    · exact xML hg t k
theorem xSi {g : PairL → PairL} (hg : ∀ p, (g p).key = p.key) {t : List PairL} (h : Srt t) : Srt (t.map g) := by
  unfold Srt at *
  rw [List.pairwise_map]
  exact h.imp fun {a b} hab => by rw [hg, hg]; exact hab
theorem xFP {t : List PairL} (h : Srt t) (m : MsgL) : Srt (xCd t m) := xAY (xBP h _) (xGx h _ _)
theorem xHn {t : List PairL} (h : Srt t) (m : MsgL) : Srt (xC2 t m) := by
  unfold xC2
  repeat' split
  · exact xBC h
  · exact xLB h _
  · exact xBP h _
  · exact xSi (xFU m) h
  · exact xBP (xFP h m) _
  · exact xFP h m
theorem xBS : ∀ (l : List MsgL) {t : List PairL}, Srt t → Srt (allT t l)
  | [], t, h => h
  | m :: l, t, h => xBS l (xHn h m)
theorem xIM (f to : Str) : ∀ (t : List PairL) (r : Str), xAH (xBb t f to) (to ++ r) = (xAH t (f ++ r)).map (mvP f to)
  | [], r => rfl
  | p :: t, r => by
    have ih := xIM f to t r
    unfold xBb srcL at ih ⊢
    rw [List.filter_cons]
    cases hb : xAD p.key f with
    | true =>
      obtain ⟨q, hq⟩ := begins_iff.1 hb
      simp only [if_true]
      rw [List.map_cons, xAF, xAF]
      have e : (mvP f to p).key = to ++ q := by unfold mvP; simp only; rw [hq]; simp
      rw [e, hq]
      by_cases h : q = r
      · subst h; simp
      · rw [if_neg (by simpa using h), if_neg (by simpa using h)]
        exact ih
    | false =>
      simp only [Bool.false_eq_true, if_false]
      rw [ih, xAF, if_neg]
      intro e
      rw [e, xBX] at hb
      cases hb
theorem xEj {f to k : Str} (h : xAD k to = false) (t : List PairL) : xAH (xBb t f to) k = none := by
  rw [findP_none]
  intro p hp e
  unfold xBb at hp
  obtain ⟨q, hq, rfl⟩ := List.mem_map.1 hp
  rw [← e] at h
  have : xAD (mvP f to q).key to = true := xBX _ _
  rw [this] at h
  cases h
theorem xCl {t : List PairL} (h : Srt t) (s : SpanL) (k : Str) : xAH (xAx t s) k = if hasL s k = true then none else xAH t k := by
  unfold xAx
  rw [xBO h]
  cases hf : xAH t k with
  | none => simp
  | some p =>
    have := xBW hf
    rw [Option.filter_some, this]
    cases hasL s k <;> simp
theorem xE1 {t : List PairL} (h : Srt t) (s : SpanL) (k : Str) : xAH (xAh t s) k = if hasL s k = true then xAH t k else none := by
  unfold xAh
  rw [xBO h]
  cases hf : xAH t k with
  | none => simp
  | some p =>
    have := xBW hf
    rw [Option.filter_some, this]
theorem xNC {t : List PairL} (h : Srt t) {m : MsgL} (k : Str) : xAH (xCd t m) k = if xAD k m.to = true then (xAH t (m.fr ++ k.drop m.to.length)).map (mvP m.fr m.to) else xAH t k := by
  unfold xCd
  rw [xAf k (xBP h _) (xGx h _ _), xCl h, xAc]
  cases hb : xAD k m.to with
  | true =>
    obtain ⟨r, rfl⟩ := begins_iff.1 hb
    rw [xIM]
    simp
  | false =>
    rw [xEj hb]
    simp
def effP (m : MsgL) (k : Str) (f : Str → Option PairL) : Option PairL :=
  match bkL m k with
  | none => if m.kind = 1 then some ⟨k, m.val, m.n⟩ else none
  | some x => (f x).map fun p => ⟨k, p.val, if m.kind = 6 ∧ hasL m.sp k = true then m.n else p.stamp⟩
theorem find_eta {t : List PairL} {k : Str} : (xAH t k).map (fun p => (⟨k, p.val, p.stamp⟩ : PairL)) = xAH t k := by
  cases h : xAH t k with
  | none => rfl
  | some p => have := xBW h; subst this; rfl
theorem xCm {t : List PairL} (h : Srt t) {m : MsgL} (hm : MsgOk m) (k : Str) : xAH (xC2 t m) k = effP m k (xAH t) := by
  unfold xC2 effP bkL
  by_cases h1 : m.kind = 1
  · simp only [h1, true_or, if_true]
    rw [xB9 h]
    by_cases hk : m.key = k
    · rw [if_pos hk, if_pos hk]; subst hk; rfl
    · rw [if_neg hk, if_neg hk]
      simp only [show ¬ ((1 : Int) = 6) by decide, false_and, if_false]
      exact find_eta.symm
  · by_cases h2 : m.kind = 2
    · simp only [h2, or_true, if_true, show ¬ ((2 : Int) = 1) by decide, if_false]
      rw [xI7 h]
      by_cases hk : m.key = k
      · rw [if_pos hk, if_pos hk]
      · rw [if_neg hk, if_neg hk]
        simp only [show ¬ ((2 : Int) = 6) by decide, false_and, if_false]
        exact find_eta.symm
    · simp only [h1, h2, or_self, if_false]
      by_cases h3 : m.kind = 3
      · simp only [h3, if_true]
        rw [xCl h]
        cases hk : hasL m.sp k with
        | true => simp
        | false =>
          simp only [Bool.false_eq_true, if_false, show ¬ ((3 : Int) = 6) by decide, false_and]
          exact find_eta.symm
      · simp only [h3, if_false]
        by_cases h6 : m.kind = 6
        · simp only [h6, if_true, true_and]
          rw [xML (xFU m)]
          cases hf : xAH t k with
          | none => rfl
          | some p =>
            have := xBW hf
            subst this
            simp only [Option.map_some, xCo]
            split <;> rfl
        · simp only [h6, if_false, false_and]
          have hk := hm.k
          have h45 : m.kind = 4 ∨ m.kind = 5 := by omega
          obtain ⟨ap1, ap2⟩ := hm.ap h45
          have mv : ∀ r, (xAH t (m.fr ++ r)).map (mvP m.fr m.to) = (xAH t (m.fr ++ r)).map fun p => ⟨m.to ++ r, p.val, p.stamp⟩ := by
            intro r
            cases hf : xAH t (m.fr ++ r) with
            | none => rfl
            | some p =>
              have := xBW hf
              simp [mvP, this]
          have cl : xAH (xCd t m) k = (if xAD k m.to = true then some (m.fr ++ k.drop m.to.length) else some k).elim none fun x => (xAH t x).map fun p => (⟨k, p.val, p.stamp⟩ : PairL) := by
            rw [xNC h]
            split
            · rename_i hb
              obtain ⟨r, rfl⟩ := begins_iff.1 hb
              simp only [List.drop_left, Option.elim_some]
              exact mv r
            · exact find_eta.symm
          by_cases h4 : m.kind = 4
          · simp only [h4, if_true, true_and]
            rw [xCl (xFP h m), xAc]
            cases hb : xAD k m.fr with
            | true => simp
            | false =>
              simp only [Bool.false_eq_true, if_false]
              rw [cl]
              cases xAD k m.to <;> rfl
          · simp only [h4, if_false, false_and]
            rw [cl]
            cases xAD k m.to <;> rfl
end Go.Pu
set_option linter.unusedVariables false
set_option linter.unusedSimpArgs false
namespace Go.Pu
def xNz (t : List PairL) (m : MsgL) : List PairL :=
  (xBb t m.fr m.to).foldl putL (if m.kind = 4 then xAx (xAx t (xAG m.to)) (xAG m.fr) else xAx t (xAG m.to))
def xKr (t : List PairL) (m : MsgL) : List PairL :=
  if m.kind = 1 then putL t ⟨m.key, m.val, m.n⟩ else
  if m.kind = 2 then delT t m.key else
  if m.kind = 3 then xAx t m.sp else
  if m.kind = 6 then t.map (xCo m) else xNz t m
theorem xN0 {t : List PairL} (h : Srt t) {m : MsgL} (hm : MsgOk m) : xKr t m = xC2 t m := by
  unfold xKr xC2
  by_cases h1 : m.kind = 1
  · rw [if_pos h1, if_pos h1]
  rw [if_neg h1, if_neg h1]
  by_cases h2 : m.kind = 2
  · rw [if_pos h2, if_pos h2]
  rw [if_neg h2, if_neg h2]
  by_cases h3 : m.kind = 3
  · rw [if_pos h3, if_pos h3]
  rw [if_neg h3, if_neg h3]
  by_cases h6 : m.kind = 6
  · rw [if_pos h6, if_pos h6]
  rw [if_neg h6, if_neg h6]
  have hk := hm.k
  obtain ⟨ap1, ap2⟩ := hm.ap (by omega)
  have hmv := xGx h m.fr m.to
  unfold xNz xCd
  by_cases h4 : m.kind = 4
  · rw [if_pos h4, if_pos h4]
    have hd1 := xBP h (xAG m.to)
    have hd2 := xBP hd1 (xAG m.fr)
    rw [xFW hd2 hmv]
    refine Srt.ext (xAY hd2 hmv) (xBP (xAY hd1 hmv) _) fun k => ?_
    rw [xAf k hd2 hmv, xCl (xAY hd1 hmv), xAf k hd1 hmv, xCl hd1, xAc]
    cases hb : xAD k m.fr with
    | false => simp
    | true =>
      simp only [if_true, Option.or_none]
      refine xEj ?_ t
      cases hc : xAD k m.to with
      | false => rfl
      | true => 
        rcases xLJ hb hc with h5 | h5
        · rw [ap1] at h5; cases h5
        · rw [ap2] at h5; cases h5
  · rw [if_neg h4, if_neg h4, xFW (xBP h _) hmv]
def rallT (t : List PairL) (l : List MsgL) : List PairL := l.foldl xKr t
theorem xSL : ∀ (l : List MsgL) {t : List PairL}, Srt t → (∀ m ∈ l, MsgOk m) → rallT t l = allT t l
  | [], t, _, _ => rfl
  | m :: l, t, h, hm => by
    unfold rallT allT
    rw [List.foldl_cons, List.foldl_cons, xN0 h (hm m (by simp))]
    exact xSL l (xHn h m) fun x hx => hm x (by simp [hx])
end Go.Pu
set_option linter.unusedVariables false
set_option linter.unusedSimpArgs false
namespace Go.Pu
theorem xMZ {k x : Str} : ∀ (r : List MsgL) {t : List PairL} {k x : Str}, Srt t → (∀ m ∈ r, MsgOk m) → bksL r k = some x → (xAH (allT t r.reverse) k).isSome = (xAH t x).isSome
  | [], t, k, x, h, _, e => by cases e; rfl
  | m :: r, t, k, x, h, hm, e => by
    rw [bksL] at e
    obtain ⟨y, e1, e2⟩ := Option.bind_eq_some_iff.1 e
    have h1 : allT t (m :: r).reverse = xC2 (allT t r.reverse) m := by
      unfold allT
      rw [List.reverse_cons, List.foldl_append]
      rfl
    rw [h1, xCm (xBS _ h) (hm m (by simp)), effP, e1]
    simp only [Option.isSome_map]
    exact xMZ (k := k) (x := x) r h (fun m' h' => hm m' (by simp [h'])) e2
theorem isSome_mem {t : List PairL} {k : Str} : (xAH t k).isSome = true ↔ ∃ p ∈ t, p.key = k := by
  constructor
  · intro h
    obtain ⟨p, hp⟩ := Option.isSome_iff_exists.1 h
    exact ⟨p, xKF hp, xBW hp⟩
  · rintro ⟨p, hp, hk⟩
    cases h : xAH t k with
    | some q => rfl
    | none => exact absurd hk (findP_none.1 h p hp)
def xRU (s : SpanL) (l : List MsgL) (k : Str) : Bool := (xAh (allT [⟨k, [104, 101, 114, 101], 1⟩] l) s).any fun p => !(keyL p.key l).known && (keyL p.key l).key == k
theorem xSy (s : SpanL) {l : List MsgL} (hl : ∀ m ∈ l, MsgOk m) (k : Str) : xRU s l k = inL (xBh s l.reverse) k := by
  have hr : ∀ m ∈ l.reverse, MsgOk m := fun m hm => hl m (List.mem_reverse.1 hm)
  have key : ∀ x, (!(keyL x l).known && (keyL x l).key == k) = true ↔ bksL l.reverse x = some k := by
    intro x
    rw [Bool.and_eq_true, Bool.not_eq_true', xHE]
    cases hb : bksL l.reverse x with
    | none => simp
    | some y =>
      rw [(xK7 hb).1]
      simp
  rw [Bool.eq_iff_iff, xBf s hr k, xRU, List.any_eq_true]
  constructor
  · rintro ⟨p, hp, h⟩
    unfold xAh at hp
    rw [List.mem_filter] at hp
    exact ⟨p.key, hp.2, (key _).1 h⟩
  · rintro ⟨x, hx, hb⟩
    have h1 := xMZ (k := x) (x := k) l.reverse (t := [⟨k, [104, 101, 114, 101], 1⟩]) (List.pairwise_singleton _ _) hr hb
    rw [List.reverse_reverse] at h1
    have h2 : (xAH [(⟨k, [104, 101, 114, 101], 1⟩ : PairL)] k).isSome = true := by rw [xAF, if_pos rfl]; rfl
    rw [h2] at h1
    obtain ⟨p, hp, hk⟩ := isSome_mem.1 h1
    refine ⟨p, ?_, ?_⟩
    · unfold xAh
      rw [List.mem_filter, hk]
      exact ⟨hp, hx⟩
    · rw [hk]
      exact (key x).2 hb
end Go.Pu
set_option linter.unusedVariables false
set_option linter.unusedSimpArgs false
namespace Go.Pu
def xKc (k : Str) (f : FolL) (o : Option PairL) : Option PairL := o.map fun p => ⟨k, p.val, if f.std = true then f.st else p.stamp⟩
def xMy (k : Str) (f : FolL) (t : List PairL) : Option PairL := if f.known = true then (if f.has = true then some ⟨k, f.val, f.st⟩ else none) else xKc k f (xAH t f.key)
theorem xLd (k : Str) : ∀ (r : List MsgL) (f : FolL) {t : List PairL}, Srt t → (∀ m ∈ r, MsgOk m) → f.known = false → f.has = false → xKc k f (xAH (allT t r.reverse) f.key) = xMy k (xAO f r) t
  | [], f, t, h, _, hk, _ => by
    unfold xMy xAO
    rw [if_neg (by rw [hk]; simp)]
    rfl
  | m :: r, f, t, h, hm, hk, hh => by
    have h1 : allT t (m :: r).reverse = xC2 (allT t r.reverse) m := by
      unfold allT
      rw [List.reverse_cons, List.foldl_append]
      rfl
    have hmk := hm m (by simp)
    have hs := xBS r.reverse h
    rw [h1, xCm hs hmk, xA8 hk]
    unfold effP
    cases hb : bkL m f.key with
    | none =>
      have hkn := xFR hb
      rw [xAS hkn]
      unfold xMy
      rw [if_pos hkn]
      by_cases k1 : m.kind = 1
      · have e : xAl f m = { xBd f m.n with known := true, has := true, val := m.val } := by
          unfold bkL at hb
          unfold xAl
          simp only [k1, true_or, if_true] at hb ⊢
          split at hb
          · rename_i e
            rw [if_pos e]
          · cases hb
        rw [e, if_pos k1]
        simp only [if_true, xKc, Option.map_some]
        unfold xBd
        cases hst : f.std <;> simp
      · have e : (xAl f m).has = false := by
          unfold xAl
          rw [if_neg k1]
          repeat' split
          all_goals first | exact hh | (rw [(xCi f m.n).2.2.1]; exact hh)
        rw [e, if_neg k1]
        simp [xKc]
    | some x =>
      obtain ⟨e1, e2, e3, e4⟩ := xHm hb
      have ih := xLd k r (xAl f m) h (fun m' h' => hm m' (by simp [h'])) (e2.trans hk) (e3.trans hh)
      rw [← ih, e1]
      unfold xKc
      simp only [Option.map_map]
      congr 1
      funext p
      simp only [Function.comp]
      by_cases k6 : m.kind = 6
      · have e5 : xAl f m = if hasL m.sp f.key = true then xBd f m.n else f := by unfold xAl; simp [k6]
        have e6 : x = f.key := by unfold bkL at hb; simp [k6] at hb; exact hb.symm
        rw [e5]
        unfold xBd
        cases hc : hasL m.sp f.key <;> cases hst : f.std <;> simp [k6, hst]
      · have e5 : (xAl f m).std = f.std ∧ (xAl f m).st = f.st := by
          unfold bkL at hb
          unfold xAl
          by_cases k1 : m.kind = 1
          · simp only [k1, true_or, if_true] at hb ⊢
            split at hb
            · cases hb
            · rename_i hne
              rw [if_neg hne]; exact ⟨rfl, rfl⟩
          · rw [if_neg k1]
            repeat' split
            all_goals first | exact ⟨rfl, rfl⟩ | (rename_i h6 _; exact absurd h6 k6)
        rw [e5.1, e5.2]
        simp [k6]
theorem xIh (k : Str) {l : List MsgL} {t : List PairL} (h : Srt t) (hm : ∀ m ∈ l, MsgOk m) : xAH (allT t l) k = xMy k (xAO (fol0 k) l.reverse) t := by
  have := xLd k l.reverse (fol0 k) h (fun m h' => hm m (List.mem_reverse.1 h')) rfl rfl
  rw [← this, List.reverse_reverse]
  have e : (fol0 k).key = k := rfl
  rw [e]
  unfold xKc
  cases hf : xAH (allT t l) k with
  | none => rfl
  | some p =>
    have := xBW hf
    subst this
    rfl
end Go.Pu
set_option linter.unusedVariables false
set_option linter.unusedSimpArgs false
namespace Go.Pu
theorem xGZ (t : List PairL) (m : MsgL) (r : List MsgL) : allT t (m :: r).reverse = xC2 (allT t r.reverse) m := by
  unfold allT
  rw [List.reverse_cons, List.foldl_append]
  rfl
theorem xTD (t : List PairL) (a b : List MsgL) : allT t (a ++ b) = allT (allT t a) b := List.foldl_append
theorem xKI {m : MsgL} {k : Str} {f g : Str → Option PairL} (h : ∀ x, bkL m k = some x → f x = g x) : effP m k f = effP m k g := by
  unfold effP
  cases hb : bkL m k with
  | none => rfl
  | some x => simp only; rw [h x hb]
theorem xMW {m : MsgL} (hm : MsgOk m) {k x : Str} (h : bkL m k = some x) : inL (xDM m) x = true ∨ (x = k ∧ inL (xDQ m) k = false) := by
  unfold bkL at h
  unfold xDM xDQ xAv
  by_cases h1 : m.kind = 1 ∨ m.kind = 2
  · rw [if_pos h1] at h
    right
    have h6 : ¬ m.kind = 6 := by omega
    split at h
    · cases h
    · cases h
      rename_i hk
      refine ⟨rfl, ?_⟩
      rw [if_neg h6, if_pos h1]
      simp only [inL, List.any_cons, List.any_nil, Bool.or_false, xFY]
      exact beq_eq_false_iff_ne.2 (fun e => hk e.symm)
  rw [if_neg h1] at h
  by_cases h3 : m.kind = 3
  · rw [if_pos h3] at h
    right
    split at h
    · cases h
    · cases h
      rename_i hk
      refine ⟨rfl, ?_⟩
      rw [if_neg (by omega), if_neg h1, if_neg (by omega), if_neg (by omega)]
      simpa [inL] using hk
  rw [if_neg h3] at h
  by_cases h6 : m.kind = 6
  · rw [if_pos h6] at h
    right
    cases h
    refine ⟨rfl, ?_⟩
    rw [if_pos h6]; rfl
  rw [if_neg h6] at h
  have h45 (hk : 1 ≤ m.kind ∧ m.kind ≤ 6) : m.kind = 4 ∨ m.kind = 5 := by omega
  have h45 := h45 hm.k
  split at h
  · cases h
  rename_i h4
  split at h
  · cases h
    left
    rw [if_pos h45]
    simp [inL, xAc, xBX]
  · cases h
    right
    refine ⟨rfl, ?_⟩
    rename_i hto
    rw [if_neg h6, if_neg h1]
    by_cases hk4 : m.kind = 4
    · rw [if_pos hk4]
      have : xAD k m.fr = false := by
        cases hb : xAD k m.fr with
        | false => rfl
        | true => exact absurd ⟨hk4, hb⟩ h4
      simp [inL, xAc, this, hto]
    · rw [if_neg hk4, if_pos (by omega)]
      simp [inL, xAc, hto]
theorem xLA {m : MsgL} (hm : MsgOk m) {k : Str} (hw : inL (xAv m) k = false) {t : List PairL} : effP m k (xAH t) = xAH t k := by
  have hk := hm.k
  unfold xAv at hw
  unfold effP bkL
  by_cases h1 : m.kind = 1 ∨ m.kind = 2
  · rw [if_pos h1] at hw ⊢
    simp only [inL, List.any_cons, List.any_nil, Bool.or_false, xFY, beq_eq_false_iff_ne] at hw
    rw [if_neg (fun e => hw e.symm)]
    simp only [show ¬ m.kind = 6 by omega, false_and, if_false]
    exact find_eta
  rw [if_neg h1] at hw ⊢
  by_cases h3 : m.kind = 3
  · rw [if_neg (by omega), if_neg (by omega)] at hw
    simp only [inL, List.any_cons, List.any_nil, Bool.or_false] at hw
    rw [if_pos h3, if_neg (by simp [hw])]
    simp only [show ¬ m.kind = 6 by omega, false_and, if_false]
    exact find_eta
  rw [if_neg h3]
  by_cases h6 : m.kind = 6
  · rw [if_neg (by omega), if_neg (by omega)] at hw
    simp only [inL, List.any_cons, List.any_nil, Bool.or_false] at hw
    rw [if_pos h6]
    simp only [hw, Bool.false_eq_true, and_false, if_false]
    exact find_eta
  rw [if_neg h6]
  by_cases h4 : m.kind = 4
  · rw [if_pos h4] at hw
    simp only [inL, List.any_cons, List.any_nil, Bool.or_false, Bool.or_eq_false_iff, xAc] at hw
    rw [if_neg (by simp [hw.1]), if_neg (by simp [hw.2])]
    simp only [h6, false_and, if_false]
    exact find_eta
  · rw [if_neg h4, if_pos (by omega)] at hw
    simp only [inL, List.any_cons, List.any_nil, Bool.or_false, xAc] at hw
    rw [if_neg (by simp [h4]), if_neg (by simp [hw])]
    simp only [h6, false_and, if_false]
    exact find_eta
theorem xEO : ∀ (r : List MsgL) (d : List SpanL) {t u : List PairL}, Srt t → Srt u → (∀ m ∈ r, MsgOk m) → (∀ k, inL (xOz r d) k = false → xAH t k = xAH u k) →
    ∀ k, inL d k = false → xAH (allT t r.reverse) k = xAH (allT u r.reverse) k
  | [], d, t, u, _, _, _, h, k, hk => h k hk
  | m :: r, d, t, u, ht, hu, hm, h, k, hk => by
    have hmo := hm m (by simp)
    have hr : ∀ x ∈ r, MsgOk x := fun x hx => hm x (by simp [hx])
    rw [xGZ, xGZ, xCm (xBS _ ht) hmo, xCm (xBS _ hu) hmo]
    rw [xOz] at h
    by_cases hc : covL m d = true
    · rw [if_pos hc] at h
      have hw : inL (xAv m) k = false := by
        cases hw : inL (xAv m) k with
        | false => rfl
        | true => rw [cov_iff.1 hc k hw] at hk; cases hk
      rw [xLA hmo hw, xLA hmo hw]
      exact xEO r d ht hu hr h k hk
    · rw [if_neg hc] at h
      refine xKI fun x hx => xEO r _ ht hu hr h x ?_
      rw [xE9]
      rcases xMW hmo hx with h1 | ⟨rfl, h1⟩
      · rw [h1]; simp
      · rw [hk, h1]; rfl
theorem xEU : ∀ (r : List MsgL) (d : List SpanL) {t : List PairL}, Srt t → (∀ m ∈ r, MsgOk m) → ∀ k, inL d k = false → xAH (allT t r.reverse) k = xAH (allT t (xDR r d).reverse) k
  | [], d, t, _, _, k, hk => rfl
  | m :: r, d, t, ht, hm, k, hk => by
    have hmo := hm m (by simp)
    have hr : ∀ x ∈ r, MsgOk x := fun x hx => hm x (by simp [hx])
    rw [xGZ, xCm (xBS _ ht) hmo, xDR]
    by_cases hc : covL m d = true
    · rw [if_pos hc]
      have hw : inL (xAv m) k = false := by
        cases hw : inL (xAv m) k with
        | false => rfl
        | true => rw [cov_iff.1 hc k hw] at hk; cases hk
      rw [xLA hmo hw]
      exact xEU r d ht hr k hk
    · rw [if_neg hc, xGZ, xCm (xBS _ ht) hmo]
      refine xKI fun x hx => xEU r _ ht hr x ?_
      rw [xE9]
      rcases xMW hmo hx with h1 | ⟨rfl, h1⟩
      · rw [h1]; simp
      · rw [hk, h1]; rfl
theorem reduce_all {t : List PairL} (ht : Srt t) {l : List MsgL} (hl : ∀ m ∈ l, MsgOk m) : allT t (xCV l) = allT t l := by
  refine Srt.ext (xBS _ ht) (xBS _ ht) fun k => ?_
  have h := xEU l.reverse (xAV []) ht (fun m hm => hl m (List.mem_reverse.1 hm)) k (by rfl)
  rw [List.reverse_reverse] at h
  exact h.symm
def outT (t : List PairL) (d : List SpanL) : List PairL := t.filter fun p => !inL d p.key
def inT (t : List PairL) (d : List SpanL) : List PairL := t.filter fun p => inL d p.key
theorem xI6 {t : List PairL} (h : Srt t) (d : List SpanL) (k : Str) : xAH (outT t d) k = if inL d k = true then none else xAH t k := by
  unfold outT
  rw [xBO h]
  cases hf : xAH t k with
  | none => simp
  | some p =>
    have := xBW hf
    rw [Option.filter_some, this]
    cases inL d k <;> simp
theorem xSz {t : List PairL} (h : Srt t) (d : List SpanL) (k : Str) : xAH (inT t d) k = if inL d k = true then xAH t k else none := by
  unfold inT
  rw [xBO h]
  cases hf : xAH t k with
  | none => simp
  | some p =>
    have := xBW hf
    rw [Option.filter_some, this]
theorem xIl {t : List PairL} (h : Srt t) (d : List SpanL) : Srt (outT t d) := h.filter _
theorem xRS {t : List PairL} (h : Srt t) (d : List SpanL) : Srt (inT t d) := h.filter _
theorem live_out {t : List PairL} (ht : Srt t) {l : List MsgL} (hl : ∀ m ∈ l, MsgOk m) (d : List SpanL) : outT (allT t l) d = outT (allT t (xK5 l d).1) d := by
  refine Srt.ext (xIl (xBS _ ht) _) (xIl (xBS _ ht) _) fun k => ?_
  rw [xI6 (xBS _ ht), xI6 (xBS _ ht)]
  split
  · rfl
  · rename_i hk
    have h := xEU l.reverse (xAV d) ht (fun m hm => hl m (List.mem_reverse.1 hm)) k (by rw [(xAZ d).2]; simpa using hk)
    rw [List.reverse_reverse] at h
    exact h
def xOE (t u : List PairL) (d : List SpanL) : List PairL := xAk (outT t d) (inT u d)
theorem xOD {t u : List PairL} (ht : Srt t) (hu : Srt u) (d : List SpanL) : Srt (xOE t u d) := xAY (xIl ht d) (xRS hu d)
theorem live_other {t u : List PairL} (ht : Srt t) (hu : Srt u) {l : List MsgL} (hl : ∀ m ∈ l, MsgOk m) : allT t l = allT (xOE t u (xK5 l []).2) l := by
  have ho := xOD ht hu (xK5 l []).2
  refine Srt.ext (xBS _ ht) (xBS _ ho) fun k => ?_
  have h := xEO l.reverse (xAV []) ht ho (fun m hm => hl m (List.mem_reverse.1 hm)) (fun k hk => ?_) k (by rfl)
  · rw [List.reverse_reverse] at h
    exact h
  · have hk' : inL (xK5 l []).2 k = false := hk
    unfold xOE
    rw [xAf k (xIl ht _) (xRS hu _), xSz hu, xI6 ht, hk']
    simp
end Go.Pu
set_option linter.unusedVariables false
set_option linter.unusedSimpArgs false
namespace Go.Pu
theorem xMv {l : List SpanL} (h : Nrm l) : xAV l = l := Nrm.ext (xAZ l).1 h (xAZ l).2
theorem xQE {s : Str} : xAV [⟨s, []⟩] = [⟨s, []⟩] := by
  refine xMv ⟨fun t ht => ?_, by simp⟩
  rw [List.mem_singleton.1 ht]
  rfl
theorem spans_no {s : Str} : xBh ⟨s, []⟩ [].reverse = [⟨s, []⟩] := xQE
def xKJ : MsgL := ⟨3, [], [], ⟨[], []⟩, [], [], 0⟩
def putM (s : Str) (n : Int) : MsgL := ⟨1, s, [118], ⟨[], []⟩, [], [], n⟩
theorem xQj : MsgOk xKJ := ⟨by decide, by intro h; exact absurd h (by decide), by intro h; exact absurd h (by decide)⟩
theorem dropM_len : MsgLen 8 xKJ := ⟨by decide, by decide, by decide, by decide, by decide⟩
theorem putM_ok (s : Str) (n : Int) : MsgOk (putM s n) := ⟨by simp [putM], by intro h; exact absurd h (by simp [putM]), by intro h; exact absurd h (by simp [putM])⟩
theorem putM_len {s : Str} (h : s.length ≤ 60) (n : Int) : MsgLen 60 (putM s n) := ⟨h, by simp [putM], by simp [putM], by simp [putM], by simp [putM]⟩
theorem key_none (s : Str) : keyL s [] = ⟨false, false, ⟨s, [], 0⟩, s, false, 0⟩ := rfl
theorem key_drop (s : Str) (l : List MsgL) : keyL s (l ++ [xKJ]) = ⟨true, false, xLr, [], false, 0⟩ := by
  unfold keyL
  rw [List.reverse_append, List.reverse_singleton, List.singleton_append, xA8 rfl]
  have h : xAl (fol0 s) xKJ = { fol0 s with known := true } := by
    unfold xAl
    simp [xKJ, fol0, hasL]
    exact xBu _
  rw [h, xAS rfl]
  rfl
theorem key_put (s : Str) (n : Int) (l : List MsgL) : keyL s (l ++ [putM s n]) = ⟨true, true, ⟨s, [118], n⟩, [], false, 0⟩ := by
  unfold keyL
  rw [List.reverse_append, List.reverse_singleton, List.singleton_append, xA8 rfl]
  have h : xAl (fol0 s) (putM s n) = ⟨s, true, true, [118], true, n⟩ := by
    unfold xAl
    simp [putM, fol0, xBd]
  rw [h, xAS rfl]
  rfl
theorem xSe {l : List SpanL} (h : Nrm l) (hk : ∀ k, inL l k = false) : l = [] := Nrm.ext h ⟨(fun s hs => by cases hs), List.Pairwise.nil⟩ fun k => by rw [hk]; rfl
theorem spans_drop {l : List MsgL} (h : ∀ m ∈ l, MsgOk m) (s : SpanL) : xBh s (l ++ [xKJ]).reverse = [] := by
  refine xSe (xJU _ _) fun k => ?_
  rw [Bool.eq_false_iff]
  intro hk
  rw [xBf s (fun m hm => by
    rcases List.mem_append.1 (List.mem_reverse.1 hm) with hm | hm
    · exact h m hm
    · rw [List.mem_singleton.1 hm]; exact xQj)] at hk
  obtain ⟨x, _, hx⟩ := hk
  rw [List.reverse_append, List.reverse_singleton, List.singleton_append] at hx
  have : bkL xKJ x = none := by
    unfold bkL
    simp [xKJ, hasL]
    exact xBu _
  unfold bksL at hx
  rw [this] at hx
  cases hx
theorem xSr {l : List MsgL} (h : ∀ m ∈ l, MsgOk m) (s : SpanL) {k : Str} (hf : (keyL k l).known = false) (hk : hasL s k = true) : inL (xBh s l.reverse) (keyL k l).key = true := by
  rw [xHE] at hf
  cases hx : bksL l.reverse k with
  | none => rw [hx] at hf; cases hf
  | some x =>
    rw [(xK7 hx).1, xBf s fun m hm => h m (List.mem_reverse.1 hm)]
    exact ⟨k, hk, hx⟩
theorem keys_out {l : List MsgL} (h : ∀ m ∈ l, MsgOk m) (s : SpanL) {k : Str} (hf : (keyL k l).known = false) (hk : hasL s k = false) (hc : (l.any fun m => m.kind == 5) = false) : inL (xBh s l.reverse) (keyL k l).key = false := by
  rw [xHE] at hf
  cases hx : bksL l.reverse k with
  | none => rw [hx] at hf; cases hf
  | some x =>
    rw [(xK7 hx).1, Bool.eq_false_iff]
    intro hin
    rw [xBf s fun m hm => h m (List.mem_reverse.1 hm)] at hin
    obtain ⟨y, hy, hyx⟩ := hin
    have := xPJ (r := l.reverse) (fun m hm => h m (List.mem_reverse.1 hm)) (fun m hm h5 => by
      have := List.any_eq_false.1 hc m (List.mem_reverse.1 hm)
      simp [h5] at this) hyx hx
    rw [this, hk] at hy
    cases hy
theorem xRz {a b : List MsgL} (ha : ∀ m ∈ a, MsgOk m) (hb : ∀ m ∈ b, MsgOk m) (s : SpanL) : xBh s (a ++ b).reverse = xAV ((xBh s b.reverse).flatMap fun x => xBh x a.reverse) := by
  refine Nrm.ext (xJU _ _) (xAZ _).1 fun k => ?_
  rw [(xAZ _).2, Bool.eq_iff_iff, xBf s (fun m hm => by
    rcases List.mem_append.1 (List.mem_reverse.1 hm) with hm | hm
    · exact ha m hm
    · exact hb m hm)]
  have hra : ∀ m ∈ a.reverse, MsgOk m := fun m hm => ha m (List.mem_reverse.1 hm)
  have hrb : ∀ m ∈ b.reverse, MsgOk m := fun m hm => hb m (List.mem_reverse.1 hm)
  unfold inL
  rw [List.any_eq_true, List.reverse_append]
  constructor
  · rintro ⟨x, hx, hk⟩
    rw [xIT] at hk
    cases hy : bksL b.reverse x with
    | none => rw [hy] at hk; cases hk
    | some y =>
      rw [hy] at hk
      have h1 := (xBf s hrb y).2 ⟨x, hx, hy⟩
      obtain ⟨u, hu, huy⟩ := List.any_eq_true.1 h1
      have h2 := (xBf u hra k).2 ⟨y, huy, hk⟩
      obtain ⟨v, hv, hvk⟩ := List.any_eq_true.1 h2
      exact ⟨v, List.mem_flatMap.2 ⟨u, hu, hv⟩, hvk⟩
  · rintro ⟨v, hv, hvk⟩
    obtain ⟨u, hu, hv⟩ := List.mem_flatMap.1 hv
    obtain ⟨y, hy, hyk⟩ := (xBf u hra k).1 (List.any_eq_true.2 ⟨v, hv, hvk⟩)
    obtain ⟨x, hx, hxy⟩ := (xBf s hrb y).1 (List.any_eq_true.2 ⟨u, hu, hy⟩)
    refine ⟨x, hx, ?_⟩
    rw [xIT, hxy]
    exact hyk
end Go.Pu
set_option linter.unusedVariables false
set_option linter.unusedSimpArgs false
namespace Go.Pu
def zeroP : PairL := ⟨[], [], 0⟩
theorem xNx {l : List MsgL} {t : List PairL} (h : Srt t) (hm : ∀ m ∈ l, MsgOk m) (k : Str) :
    xLP (keyL k l) ((xAH t (keyL k l).key).getD zeroP) (xAH t (keyL k l).key).isSome = ((xAH (allT t l) k).getD zeroP, (xAH (allT t l) k).isSome) := by
  rw [xIh k h hm]
  unfold keyL
  generalize xAO (fol0 k) l.reverse = f
  obtain ⟨fk, kn, fh, fv, fs, fst⟩ := f
  cases kn with
  | true =>
    cases fh with
    | true => rfl
    | false => rfl
  | false =>
    have e : xBn k ⟨fk, false, fh, fv, fs, fst⟩ = ⟨false, false, ⟨k, [], 0⟩, fk, fs, fst⟩ := by unfold xBn; simp
    have e2 : xMy k ⟨fk, false, fh, fv, fs, fst⟩ t = (xAH t fk).map fun p => ⟨k, p.val, if fs = true then fst else p.stamp⟩ := rfl
    rw [e, e2]
    simp only
    cases xAH t fk with
    | none => rfl
    | some p => rfl
def xJv (x : List PairL) (y : List PairL) (b : List SpanL) : List PairL := b.foldl (fun y s => xAk (xAx y s) (xAh x s)) y
theorem xLu {x : List PairL} (hx : Srt x) : ∀ (b : List SpanL) {y : List PairL}, Srt y → Srt (xJv x y b)
  | [], y, h => h
  | s :: b, y, h => xLu hx b (xAY (xBP h s) (xB4 hx s))
theorem xJu {x : List PairL} (hx : Srt x) (k : Str) : ∀ (b : List SpanL) {y : List PairL}, Srt y → xAH (xJv x y b) k = if inL b k = true then xAH x k else xAH y k
  | [], y, h => by rw [show inL [] k = false from rfl]; rfl
  | s :: b, y, h => by
    have hu := xAY (xBP h s) (xB4 hx s)
    have ih := xJu hx k b hu
    rw [xAf k (xBP h s) (xB4 hx s), xCl h, xE1 hx] at ih
    have e : inL (s :: b) k = (hasL s k || inL b k) := by unfold inL; rw [List.any_cons]
    rw [e]
    show xAH (xJv x (xAk (xAx y s) (xAh x s)) b) k = _
    rw [ih]
    cases hasL s k <;> cases inL b k <;> cases xAH x k <;> simp
theorem xOP {x y : List PairL} {b : List SpanL} {i : Nat} {s : SpanL} (h : b[i]? = some s) : xJv x y (b.take (i + 1)) = xAk (xAx (xJv x y (b.take i)) s) (xAh x s) := by
  unfold xJv
  rw [List.take_add_one, h, List.foldl_append]
  rfl
theorem xOM {x y : List PairL} (hx : Srt x) (hy : Srt y) {l : List MsgL} (hm : ∀ m ∈ l, MsgOk m) (s : SpanL) : xAh (allT (xJv x y (xBh s l.reverse)) l) s = xAh (allT x l) s := by
  have hz := xLu hx (xBh s l.reverse) hy
  refine Srt.ext (xB4 (xBS l hz) s) (xB4 (xBS l hx) s) fun k => ?_
  rw [xE1 (xBS l hz), xE1 (xBS l hx)]
  split
  · rename_i hk
    rw [xIh k hz hm, xIh k hx hm]
    unfold xMy
    cases hf : (xAO (fol0 k) l.reverse).known with
    | true => rfl
    | false =>
      have hkn : (keyL k l).known = false := by unfold keyL xBn; simp [hf]
      have hke : (keyL k l).key = (xAO (fol0 k) l.reverse).key := by unfold keyL xBn; simp [hf]
      have hin := xSr hm s hkn hk
      rw [hke] at hin
      unfold xKc
      rw [xJu hx _ _ hy, if_pos hin]
  · rfl
end Go.Pu
