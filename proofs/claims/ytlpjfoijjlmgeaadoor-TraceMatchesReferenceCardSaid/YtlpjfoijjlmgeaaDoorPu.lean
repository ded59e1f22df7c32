/- The order of texts, and sorted tables: plain Lean. -/
import GoSem.Op.String
import Derived.Sort.AssemblyPlain
set_option linter.unusedVariables false
namespace Go.Pu
abbrev Str := List UInt8
theorem xCC (a : Str) : Op.bytesLess a [] = false := by cases a <;> rfl
theorem xAm : ∀ a : Str, Op.bytesLess a a = false
  | [] => rfl
  | x :: a => by
    simp only [Op.bytesLess, Op.bytesLess, Bool.or_eq_false_iff, decide_eq_false_iff_not, Bool.and_eq_false_iff]
    exact ⟨UInt8.lt_irrefl x, .inr (xAm a)⟩
theorem blt_cons {x y : UInt8} {a b : Str} : Op.bytesLess (x :: a) (y :: b) = true ↔ x < y ∨ (x = y ∧ Op.bytesLess a b = true) := by
  simp [Op.bytesLess, Op.bytesLess]
theorem xAk : ∀ {a b c : Str}, Op.bytesLess a b = true → Op.bytesLess b c = true → Op.bytesLess a c = true
  | _, _, [], _, h => by rw [xCC] at h; cases h
  | _, [], _ :: _, h, _ => by rw [xCC] at h; cases h
  | [], _ :: _, _ :: _, _, _ => rfl
  | x :: a, y :: b, z :: c, h1, h2 => by
    rw [blt_cons] at h1 h2 ⊢
    rcases h1 with h1 | ⟨rfl, h1⟩
    · rcases h2 with h2 | ⟨rfl, h2⟩
      · exact .inl (UInt8.lt_trans h1 h2)
      · exact .inl h1
    · rcases h2 with h2 | ⟨rfl, h2⟩
      · exact .inl h2
      · exact .inr ⟨rfl, xAk h1 h2⟩
theorem xBn : ∀ (a b : Str), Op.bytesLess a b = true ∨ a = b ∨ Op.bytesLess b a = true
  | [], [] => .inr (.inl rfl)
  | [], _ :: _ => .inl rfl
  | _ :: _, [] => .inr (.inr rfl)
  | x :: a, y :: b => by
    rw [blt_cons, blt_cons]
    by_cases h : x < y
    · exact .inl (.inl h)
    · by_cases h' : y < x
      · exact .inr (.inr (.inl h'))
      · have e : x = y := UInt8.le_antisymm (UInt8.not_lt.1 h') (UInt8.not_lt.1 h)
        subst e
        rcases xBn a b with h1 | h1 | h1
        · exact .inl (.inr ⟨rfl, h1⟩)
        · exact .inr (.inl (by rw [h1]))
        · exact .inr (.inr (.inr ⟨rfl, h1⟩))
theorem xBj {a b : Str} (h : Op.bytesLess a b = true) : Op.bytesLess b a = false := by
  cases h' : Op.bytesLess b a with
  | false => rfl
  | true => have := xAk h h'; rw [xAm] at this; cases this
theorem xCz {a b : Str} (h : Op.bytesLess a b = true) : a ≠ b := by
  intro e; subst e; rw [xAm] at h; cases h
theorem xMl {a b : Str} (h : Op.bytesLess a b = false) (hne : a ≠ b) : Op.bytesLess b a = true := by
  rcases xBn a b with h1 | h1 | h1
  · rw [h] at h1; cases h1
  · exact absurd h1 hne
  · exact h1
def ble (a b : Str) : Bool := !Op.bytesLess b a
theorem ble_iff {a b : Str} : ble a b = true ↔ Op.bytesLess a b = true ∨ a = b := by
  unfold ble
  constructor
  · intro h
    have h : Op.bytesLess b a = false := by simpa using h
    rcases xBn a b with h1 | h1 | h1
    · exact .inl h1
    · exact .inr h1
    · rw [h] at h1; cases h1
  · rintro (h | rfl)
    · simp [xBj h]
    · simp [xAm]
theorem xB4 (a : Str) : ble a a = true := ble_iff.2 (.inr rfl)
theorem xA3 {a b c : Str} (h1 : ble a b = true) (h2 : ble b c = true) : ble a c = true := by
  rw [ble_iff] at *
  rcases h1 with h1 | rfl
  · rcases h2 with h2 | rfl
    · exact .inl (xAk h1 h2)
    · exact .inl h1
  · exact h2
theorem xDK {a b c : Str} (h1 : ble a b = true) (h2 : Op.bytesLess b c = true) : Op.bytesLess a c = true := by
  rw [ble_iff] at h1
  rcases h1 with h1 | rfl
  · exact xAk h1 h2
  · exact h2
theorem xAa {a b c : Str} (h1 : Op.bytesLess a b = true) (h2 : ble b c = true) : Op.bytesLess a c = true := by
  rw [ble_iff] at h2
  rcases h2 with h2 | rfl
  · exact xAk h1 h2
  · exact h1
theorem xQm {a : Str} : Op.bytesLess [] a = true ↔ a ≠ [] := by cases a <;> simp [Op.bytesLess, Op.bytesLess]
theorem xFc (a : Str) : ble [] a = true := by simp [ble, xCC]
structure PairL where
  key : Str
  val : Str
  stamp : Int
  deriving DecidableEq
def Srt (t : List PairL) : Prop := t.Pairwise fun a b => Op.bytesLess a.key b.key = true
def xDq : List PairL → Bool
  | a :: b :: r => Op.bytesLess a.key b.key && xDq (b :: r)
  | _ => true
theorem xKX : ∀ {t : List PairL}, xDq t = true ↔ Srt t
  | [] => by simp [xDq, Srt]
  | [a] => by simp [xDq, Srt]
  | a :: b :: r => by
    rw [xDq, Bool.and_eq_true, xKX (t := b :: r)]
    unfold Srt
    rw [List.pairwise_cons (a := a)]
    constructor
    · rintro ⟨h1, h2⟩
      refine ⟨fun c hc => ?_, h2⟩
      rcases List.mem_cons.1 hc with rfl | hc
      · exact h1
      · exact xAk h1 ((List.pairwise_cons.1 h2).1 c hc)
    · rintro ⟨h1, h2⟩
      exact ⟨h1 b (by simp), h2⟩
def xBM (p : PairL) (s : List PairL × Bool) (x : PairL) : List PairL × Bool :=
  let s1 := if (!s.2 && !(Op.bytesLess x.key p.key)) = true then (s.1 ++ [p], true) else s
  (if (!(x.key == p.key)) = true then s1.1 ++ [x] else s1.1, s1.2)
def putL (t : List PairL) (p : PairL) : List PairL :=
  let s := t.foldl (xBM p) ([], false)
  if s.2 = true then s.1 else s.1 ++ [p]
def insL (p : PairL) : List PairL → List PairL
  | [] => [p]
  | x :: r => if Op.bytesLess x.key p.key = true then x :: insL p r else p :: (x :: r).filter fun y => !(y.key == p.key)
theorem putT (p : PairL) : ∀ (l o : List PairL), l.foldl (xBM p) (o, true) = (o ++ l.filter (fun y => !(y.key == p.key)), true)
  | [], o => by simp
  | x :: l, o => by
    rw [List.foldl_cons]
    have : xBM p (o, true) x = (o ++ [x].filter (fun y => !(y.key == p.key)), true) := by
      simp only [xBM, Bool.not_true, Bool.false_and, Bool.false_eq_true, if_false, List.filter_cons, List.filter_nil]
      split <;> simp
    rw [this, putT p l, List.append_assoc, ← List.filter_append]
    rfl
theorem putF (p : PairL) : ∀ (l o : List PairL), (if (l.foldl (xBM p) (o, false)).2 = true then (l.foldl (xBM p) (o, false)).1 else (l.foldl (xBM p) (o, false)).1 ++ [p]) = o ++ insL p l
  | [], o => by simp [insL]
  | x :: l, o => by
    rw [List.foldl_cons, insL]
    by_cases h : Op.bytesLess x.key p.key = true
    · have hne : (x.key == p.key) = false := by simpa using xCz h
      have : xBM p (o, false) x = (o ++ [x], false) := by
        simp [xBM, h, xCz h]
      rw [this, putF p l, if_pos h, List.append_assoc]
      rfl
    · have h' : Op.bytesLess x.key p.key = false := by simpa using h
      have : xBM p (o, false) x = (o ++ [p] ++ [x].filter (fun y => !(y.key == p.key)), true) := by
        simp only [xBM, Bool.not_false, h', Bool.and_self, if_true, List.filter_cons, List.filter_nil]
        split <;> simp
      rw [this, putT, if_neg h]
      simp only [if_true]
      rw [List.append_assoc, List.append_assoc, ← List.filter_append]
      rfl
theorem xFL (t : List PairL) (p : PairL) : putL t p = insL p t := by
  have := putF p t []
  simpa [putL] using this
theorem xI3 {p y : PairL} : ∀ {t : List PairL}, y ∈ insL p t → y = p ∨ y ∈ t
  | [], h => by simp [insL] at h; exact .inl h
  | x :: r, h => by
    rw [insL] at h
    split at h
    · rcases List.mem_cons.1 h with rfl | h
      · exact .inr (by simp)
      · rcases xI3 h with h | h
        · exact .inl h
        · exact .inr (List.mem_cons_of_mem _ h)
    · rcases List.mem_cons.1 h with rfl | h
      · exact .inl rfl
      · exact .inr (List.mem_filter.1 h).1
theorem xLp {p : PairL} : ∀ {t : List PairL}, Srt t → Srt (insL p t)
  | [], _ => by simp [insL, Srt]
  | x :: r, h => by
    obtain ⟨h1, h2⟩ := List.pairwise_cons.1 h
    rw [insL]
    split
    · rename_i hx
      refine List.pairwise_cons.2 ⟨fun y hy => ?_, xLp h2⟩
      rcases xI3 hy with rfl | hy
      · exact hx
      · exact h1 y hy
    · rename_i hx
      have hx : Op.bytesLess x.key p.key = false := by simpa using hx
      refine List.pairwise_cons.2 ⟨fun y hy => ?_, h.filter _⟩
      obtain ⟨hy1, hy2⟩ := List.mem_filter.1 hy
      have hne : y.key ≠ p.key := by simpa using hy2
      rcases List.mem_cons.1 hy1 with rfl | hy1
      · exact xMl hx hne
      · have := h1 y hy1
        rcases xBn p.key y.key with h3 | h3 | h3
        · exact h3
        · exact absurd h3.symm hne
        · have := xAk this h3
          rw [hx] at this; cases this
theorem xLq {p : PairL} : ∀ t : List PairL, (insL p t).length ≤ t.length + 1
  | [] => by simp [insL]
  | x :: r => by
    rw [insL]
    split
    · have := xLq (p := p) r; simp; omega
    · simp only [List.length_cons]
      have := List.length_filter_le (fun y : PairL => !(y.key == p.key)) (x :: r)
      simp at this ⊢
      omega
theorem xPG (t : List PairL) (p : PairL) : (putL t p).length ≤ t.length + 1 := by rw [xFL]; exact xLq t
theorem xA8 {t : List PairL} {p : PairL} (h : Srt t) : Srt (putL t p) := by rw [xFL]; exact xLp h
theorem xA5 {α : Type} {l : List α} {i : Nat} {x : α} (h : l[i]? = some x) : l.drop i = x :: l.drop (i + 1) := by
  have hl := (List.getElem?_eq_some_iff.1 h).1
  rw [List.drop_eq_getElem_cons hl]
  congr 1
  exact (List.getElem?_eq_some_iff.1 h).2
theorem xQH {xs : List PairL} {i : Nat} {a b : PairL} (ha : xs[i]? = some a) (hb : xs[i + 1]? = some b) : xDq (xs.drop i) = (Op.bytesLess a.key b.key && xDq (xs.drop (i + 1))) := by
  rw [xA5 ha, xA5 hb, xDq]
end Go.Pu
set_option linter.unusedVariables false
namespace Go.Pu
structure SpanL where
  lo : Str
  hi : Str
  deriving DecidableEq
def hasL (s : SpanL) (k : Str) : Bool := !(Op.bytesLess k s.lo) && (s.hi == [] || Op.bytesLess k s.hi)
def xAI (s : SpanL) : Bool := !(s.hi == []) && (Op.bytesLess s.hi s.lo || s.hi == s.lo)
def xD9 (a b : Str) : Int := if Op.bytesLess a b = true then -1 else if a = b then 0 else 1
def xEZ (e f : Str) : Int := if e = f then 0 else if e = [] then 1 else if f = [] then -1 else xD9 e f
def xB2 (a b : Str) : Str := if xEZ b a < 0 then b else a
def maxL (a b : Str) : Str := if Op.bytesLess a b = true then b else a
def xHl : SpanL := ⟨[97], [97]⟩
def xAd (a b : SpanL) : SpanL := if xAI ⟨maxL a.lo b.lo, xB2 a.hi b.hi⟩ = true then xHl else ⟨maxL a.lo b.lo, xB2 a.hi b.hi⟩
def xOQ (a b : SpanL) : Bool := xAI b || (hasL a b.lo && decide (xEZ a.hi b.hi ≥ 0))
def xC5 (a b : Str) : Bool := !(a == []) && (b == [] || Op.bytesLess a b)
def xLM (a b : SpanL) : SpanL :=
  let s : SpanL := ⟨maxL a.lo b.lo, if xC5 b.hi a.hi = true then b.hi else a.hi⟩
  if xAI s = true then xHl else s
def xLO (a b : SpanL) : Bool := xAI b || (!xAI a && (Op.bytesLess a.lo b.lo || a.lo == b.lo) && !xC5 a.hi b.hi)
def xAD (k p : Str) : Bool := decide (k.length ≥ p.length) && (k.take p.length == p)
def xCo (k f t : Str) : Str × Bool := if xAD k f = true then (t ++ k.drop f.length, true) else ([], false)
def oneL (k : Str) : SpanL := ⟨k, k ++ [0]⟩
def xBZ (p : Str) : Nat → Nat
  | 0 => 0
  | n + 1 => if p[n]? = some 255 then xBZ p n else n + 1
def upL (p : Str) : Str :=
  match xBZ p p.length with
  | 0 => []
  | n + 1 => p.take n ++ [p.getD n 0 + 1]
def xAE (p : Str) : SpanL := ⟨p, upL p⟩
theorem xJN (p : Str) : ∀ n, xBZ p n ≤ n
  | 0 => Nat.le_refl _
  | n + 1 => by
    rw [xBZ]
    split
    · exact Nat.le_succ_of_le (xJN p n)
    · exact Nat.le_refl _
theorem has_iff {s : SpanL} {k : Str} : hasL s k = true ↔ ble s.lo k = true ∧ (s.hi = [] ∨ Op.bytesLess k s.hi = true) := by
  simp [hasL, ble]
theorem empty_iff {s : SpanL} : xAI s = true ↔ s.hi ≠ [] ∧ ble s.hi s.lo = true := by
  simp only [xAI, Bool.and_eq_true, Bool.not_eq_true', Bool.or_eq_true, beq_iff_eq, beq_eq_false_iff_ne, ble_iff]
theorem xAY {s : SpanL} (h : xAI s = true) (k : Str) : hasL s k = false := by
  cases hk : hasL s k with
  | false => rfl
  | true =>
    obtain ⟨h1, h2⟩ := empty_iff.1 h
    obtain ⟨h3, h4⟩ := has_iff.1 hk
    rcases h4 with h4 | h4
    · exact absurd h4 h1
    · have := xAa h4 (xA3 h2 h3)
      rw [xAm] at this; cases this
theorem xDE {s : SpanL} (h : xAI s = false) : hasL s s.lo = true := by
  refine has_iff.2 ⟨xB4 _, ?_⟩
  by_cases he : s.hi = []
  · exact .inl he
  · right
    cases hb : Op.bytesLess s.lo s.hi with
    | true => rfl
    | false =>
      have : xAI s = true := empty_iff.2 ⟨he, by simp [ble, hb]⟩
      rw [h] at this; cases this
def elt (a b : Str) : Prop := a ≠ [] ∧ (b = [] ∨ Op.bytesLess a b = true)
theorem less_iff {a b : Str} : xC5 a b = true ↔ elt a b := by simp [xC5, elt]
theorem xKD {a b : Str} : xD9 a b < 0 ↔ Op.bytesLess a b = true := by
  unfold xD9
  split
  · rename_i h; simp [h]
  · rename_i h
    split <;> simp [h]
theorem xOT {a b : Str} : xD9 a b = 0 ↔ a = b := by
  unfold xD9
  split
  · rename_i h
    constructor
    · intro h'; simp at h'
    · intro e; subst e; rw [xAm] at h; cases h
  · split
    · rename_i h; simp [h]
    · rename_i h; simp [h]
theorem cmpEnd_lt {a b : Str} : xEZ a b < 0 ↔ elt a b := by
  unfold xEZ elt
  split
  · rename_i h
    subst h
    simp
    intro h; exact ⟨h, xAm a⟩
  · rename_i h
    split
    · rename_i h1; simp [h1]
    · rename_i h1
      split
      · rename_i h2; simp [h1, h2]
      · rename_i h2; simp [h1, h2, xKD]
theorem cmpEnd_eq {a b : Str} : xEZ a b = 0 ↔ a = b := by
  unfold xEZ
  split
  · rename_i h; simp [h]
  · rename_i h
    split
    · simp [h]
    · split
      · simp [h]
      · rw [xOT]
theorem xE6 (a b : Str) : xB2 a b = if xC5 b a = true then b else a := by
  unfold xB2
  by_cases h : elt b a
  · rw [if_pos (cmpEnd_lt.2 h), if_pos (less_iff.2 h)]
  · rw [if_neg (fun h' => h (cmpEnd_lt.1 h')), if_neg (fun h' => h (less_iff.1 h'))]
theorem xIq (a b : SpanL) : xAd a b = xLM a b := by
  unfold xAd xLM
  rw [xE6]
theorem xOG (a b : Str) : elt a b ∨ a = b ∨ elt b a := by
  unfold elt
  by_cases ha : a = []
  · by_cases hb : b = []
    · exact .inr (.inl (ha.trans hb.symm))
    · exact .inr (.inr ⟨hb, .inl ha⟩)
  · by_cases hb : b = []
    · exact .inl ⟨ha, .inl hb⟩
    · rcases xBn a b with h | h | h
      · exact .inl ⟨ha, .inr h⟩
      · exact .inr (.inl h)
      · exact .inr (.inr ⟨hb, .inr h⟩)
theorem xHP {a b : Str} (h : elt a b) : ¬ elt b a := by
  rintro ⟨h1, h2⟩
  obtain ⟨h3, h4⟩ := h
  rcases h4 with h4 | h4
  · exact h1 h4
  · rcases h2 with h2 | h2
    · exact h3 h2
    · rw [xBj h4] at h2; cases h2
theorem xQQ {a : Str} : ¬ elt a a := fun h => xHP h h
theorem covers_ref (a b : SpanL) : xOQ a b = xLO a b := by
  unfold xOQ xLO
  cases hb : xAI b with
  | true => rfl
  | false =>
    simp only [Bool.false_or]
    have key : decide (xEZ a.hi b.hi ≥ 0) = !xC5 a.hi b.hi := by
      rw [Bool.eq_iff_iff]
      simp only [decide_eq_true_eq, Bool.not_eq_true']
      constructor
      · intro h
        cases hl : xC5 a.hi b.hi with
        | false => rfl
        | true => have := cmpEnd_lt.2 (less_iff.1 hl); omega
      · intro h
        have : ¬ xEZ a.hi b.hi < 0 := fun h' => by rw [less_iff.2 (cmpEnd_lt.1 h')] at h; cases h
        omega
    rw [key]
    cases hl : xC5 a.hi b.hi with
    | true => simp
    | false =>
      simp only [Bool.not_false, Bool.and_true]
      rw [Bool.eq_iff_iff, has_iff, Bool.and_eq_true, Bool.not_eq_true', Bool.or_eq_true, beq_iff_eq, ← ble_iff]
      constructor
      · rintro ⟨h1, h2⟩
        refine ⟨?_, h1⟩
        cases he : xAI a with
        | false => rfl
        | true =>
          have := xAY he b.lo
          rw [has_iff.2 ⟨h1, h2⟩] at this; cases this
      · rintro ⟨h1, h2⟩
        refine ⟨h2, ?_⟩
        by_cases ha : a.hi = []
        · exact .inl ha
        · right
          have hbl := (has_iff.1 (xDE hb)).2
          have hn : ¬ elt a.hi b.hi := fun h => by rw [less_iff.2 h] at hl; cases hl
          rcases hbl with hbl | hbl
          · exact absurd ⟨ha, .inl hbl⟩ hn
          · rcases xBn a.hi b.hi with h | h | h
            · exact absurd ⟨ha, .inr h⟩ hn
            · rw [h]; exact hbl
            · exact xAk hbl h
theorem xGt {a b k : Str} : ble (maxL a b) k = true ↔ ble a k = true ∧ ble b k = true := by
  unfold maxL
  split
  · rename_i h
    exact ⟨fun h' => ⟨xA3 (ble_iff.2 (.inl h)) h', h'⟩, fun h' => h'.2⟩
  · rename_i h
    have h : ble b a = true := by simp [ble, h]
    exact ⟨fun h' => ⟨h', xA3 h h'⟩, fun h' => h'.1⟩
theorem xNx {a b k : Str} : (xB2 a b = [] ∨ Op.bytesLess k (xB2 a b) = true) ↔ (a = [] ∨ Op.bytesLess k a = true) ∧ (b = [] ∨ Op.bytesLess k b = true) := by
  rw [xE6]
  split
  · rename_i h
    obtain ⟨h1, h2⟩ := less_iff.1 h
    constructor
    · rintro (h3 | h3)
      · exact absurd h3 h1
      · refine ⟨?_, .inr h3⟩
        rcases h2 with h2 | h2
        · exact .inl h2
        · exact .inr (xAk h3 h2)
    · exact fun h => h.2
  · rename_i h
    have h : ¬ elt b a := fun h' => h (less_iff.2 h')
    constructor
    · intro h3
      refine ⟨h3, ?_⟩
      by_cases hb : b = []
      · exact .inl hb
      · right
        rcases h3 with h3 | h3
        · exact absurd ⟨hb, .inl h3⟩ h
        · rcases xBn b a with h4 | h4 | h4
          · exact absurd ⟨hb, .inr h4⟩ h
          · rw [h4]; exact h3
          · exact xAk h3 h4
    · exact fun h => h.1
theorem xCE (a b : SpanL) (k : Str) : hasL (xAd a b) k = (hasL a k && hasL b k) := by
  have key : hasL ⟨maxL a.lo b.lo, xB2 a.hi b.hi⟩ k = (hasL a k && hasL b k) := by
    rw [Bool.eq_iff_iff, Bool.and_eq_true, has_iff, has_iff, has_iff]
    simp only
    rw [xGt, xNx]
    constructor
    · rintro ⟨⟨h1, h2⟩, h3, h4⟩; exact ⟨⟨h1, h3⟩, h2, h4⟩
    · rintro ⟨⟨h1, h2⟩, h3, h4⟩; exact ⟨⟨h1, h3⟩, h2, h4⟩
  unfold xAd
  split
  · rename_i h
    rw [← key, xAY h]
    exact xAY (s := xHl) (by decide) k
  · exact key
theorem xPY (a b : Str) : maxL a b = maxL b a := by
  unfold maxL
  rcases xBn a b with h | h | h
  · rw [if_pos h, if_neg (by simp [xBj h])]
  · subst h; rfl
  · rw [if_neg (by simp [xBj h]), if_pos h]
theorem xMa (a b : Str) : xB2 a b = xB2 b a := by
  rw [xE6, xE6]
  rcases xOG a b with h | h | h
  · rw [if_neg (fun h' => xHP h (less_iff.1 h')), if_pos (less_iff.2 h)]
  · subst h; rfl
  · rw [if_pos (less_iff.2 h), if_neg (fun h' => xHP h (less_iff.1 h'))]
theorem meet_comm (a b : SpanL) : xAd a b = xAd b a := by
  unfold xAd
  rw [xPY a.lo, xMa a.hi]
theorem meet_empty {a b : SpanL} (h : xAI (xAd a b) = true) : xAd a b = xHl := by
  unfold xAd at h ⊢
  split
  · rfl
  · rename_i h1
    rw [if_neg h1] at h
    exact absurd h h1
theorem xFM (k x : Str) : hasL (oneL k) x = (x == k) := by
  rw [Bool.eq_iff_iff, has_iff, beq_iff_eq]
  simp only [oneL]
  constructor
  · rintro ⟨h1, h2 | h2⟩
    · simp at h2
    · -- k ≤ x < k ++ [0]
      have key : ∀ k x : Str, ble k x = true → Op.bytesLess x (k ++ [0]) = true → x = k := by
        intro k
        induction k with
        | nil =>
          intro x h1 h2
          cases x with
          | nil => rfl
          | cons a x =>
            rw [List.nil_append, blt_cons] at h2
            rcases h2 with h2 | ⟨_, h2⟩
            · exact absurd h2 (UInt8.not_lt.2 (UInt8.le_iff_toNat_le.2 (by simp)))
            · rw [xCC] at h2; cases h2
        | cons b k ih =>
          intro x h1 h2
          cases x with
          | nil =>
            rw [ble_iff] at h1
            rcases h1 with h1 | h1
            · rw [xCC] at h1; cases h1
            · cases h1
          | cons a x =>
            rw [List.cons_append, blt_cons] at h2
            have h1' : ¬ (a < b ∨ a = b ∧ Op.bytesLess x k = true) := by
              intro h
              have h3 := blt_cons.2 h
              have h4 : Op.bytesLess (a :: x) (b :: k) = false := by simpa [ble] using h1
              rw [h4] at h3; cases h3
            rcases h2 with h2 | ⟨rfl, h2⟩
            · exact absurd (.inl h2) h1'
            · have : ble k x = true := by
                simp only [ble, Bool.not_eq_true']
                cases hx : Op.bytesLess x k with
                | false => rfl
                | true => exact absurd (.inr ⟨rfl, hx⟩) h1'
              rw [ih x this h2]
      exact key k x h1 h2
  · rintro rfl
    refine ⟨xB4 _, .inr ?_⟩
    induction x with
    | nil => rfl
    | cons a x ih => exact blt_cons.2 (.inr ⟨rfl, ih⟩)
end Go.Pu
set_option linter.unusedVariables false
namespace Go.Pu
theorem begins_iff {k p : Str} : xAD k p = true ↔ ∃ r, k = p ++ r := by
  simp only [xAD, Bool.and_eq_true, decide_eq_true_eq, beq_iff_eq]
  constructor
  · rintro ⟨h1, h2⟩
    refine ⟨k.drop p.length, ?_⟩
    have := List.take_append_drop p.length k
    rw [h2] at this
    exact this.symm
  · rintro ⟨r, rfl⟩
    simp
theorem xEA {p a b : Str} : Op.bytesLess (p ++ a) (p ++ b) = Op.bytesLess a b := by
  induction p with
  | nil => rfl
  | cons x p ih =>
    rw [Bool.eq_iff_iff, List.cons_append, List.cons_append, blt_cons, ih]
    simp [UInt8.lt_irrefl]
theorem xC6 {p a b : Str} : ble (p ++ a) (p ++ b) = ble a b := by simp [ble, xEA]
theorem xC0 (p r : Str) : ble p (p ++ r) = true := by
  have := xC6 (p := p) (a := []) (b := r)
  rw [List.append_nil] at this
  rw [this]; exact xFc r
theorem xGT (p : Str) : ∀ n, n ≤ p.length → (∀ i, xBZ p n ≤ i → i < n → p[i]? = some 255) ∧ (∀ m, xBZ p n = m + 1 → p[m]? ≠ some 255)
  | 0, _ => ⟨fun i _ h => by omega, fun m h => by cases h⟩
  | n + 1, hn => by
    obtain ⟨h1, h2⟩ := xGT p n (by omega)
    by_cases h : p[n]? = some 255
    · have e : xBZ p (n + 1) = xBZ p n := by rw [xBZ, if_pos h]
      rw [e]
      refine ⟨fun i hi hl => ?_, h2⟩
      by_cases he : i = n
      · subst he; exact h
      · exact h1 i hi (by omega)
    · have e : xBZ p (n + 1) = n + 1 := by rw [xBZ, if_neg h]
      rw [e]
      refine ⟨fun i hi hl => by omega, fun m hm => ?_⟩
      have : m = n := by omega
      subst this; exact h
theorem lt_up {c : UInt8} (h : c ≠ 255) : c < c + 1 := by
  rw [UInt8.lt_iff_toNat_lt]
  have h1 : c.toNat ≠ 255 := fun e => h (UInt8.toNat_inj.1 e)
  have h2 : c.toNat < 256 := c.toNat_lt
  rw [UInt8.toNat_add]
  simp
  omega
theorem up_le {c x : UInt8} (h : c ≠ 255) (hx : x < c + 1) : x ≤ c := by
  rw [UInt8.lt_iff_toNat_lt, UInt8.toNat_add] at hx
  rw [UInt8.le_iff_toNat_le]
  have h1 : c.toNat ≠ 255 := fun e => h (UInt8.toNat_inj.1 e)
  have h2 : c.toNat < 256 := c.toNat_lt
  simp at hx
  omega
theorem le_255 (x : UInt8) : x ≤ 255 := by
  rw [UInt8.le_iff_toNat_le]
  have := x.toNat_lt
  show x.toNat ≤ 255
  omega
theorem xFd : ∀ (p k : Str), (∀ c ∈ p, c = 255) → ble p k = true → xAD k p = true
  | [], k, _, _ => begins_iff.2 ⟨k, rfl⟩
  | c :: p, k, h, hk => by
    cases k with
    | nil =>
      rw [ble_iff] at hk
      rcases hk with hk | hk
      · rw [xCC] at hk; cases hk
      · cases hk
    | cons x k =>
      have hc : c = 255 := h c (by simp)
      subst hc
      have hx : ¬ (x < 255 ∨ x = 255 ∧ Op.bytesLess k p = true) := by
        intro h'
        have := blt_cons.2 h'
        simp [ble, this] at hk
      have hxe : x = 255 := UInt8.le_antisymm (le_255 x) (UInt8.not_lt.1 (fun h' => hx (.inl h')))
      subst hxe
      have : ble p k = true := by
        simp only [ble, Bool.not_eq_true']
        cases hb : Op.bytesLess k p with
        | false => rfl
        | true => exact absurd (.inr ⟨rfl, hb⟩) hx
      obtain ⟨r, rfl⟩ := begins_iff.1 (xFd p k (fun c hc => h c (by simp [hc])) this)
      exact begins_iff.2 ⟨r, rfl⟩
theorem xOd {a : Str} {c : UInt8} {q : Str} (hc : c ≠ 255) (hq : ∀ x ∈ q, x = 255) (k : Str) : (ble (a ++ c :: q) k = true ∧ Op.bytesLess k (a ++ [c + 1]) = true) ↔ xAD k (a ++ c :: q) = true := by
  constructor
  · rintro ⟨h1, h2⟩
    have ha : ∀ (a k : Str), ble (a ++ c :: q) k = true → Op.bytesLess k (a ++ [c + 1]) = true → ∃ r, k = a ++ r := by
      intro a
      induction a with
      | nil => intro k _ _; exact ⟨k, rfl⟩
      | cons x a ih =>
        intro k h1 h2
        cases k with
        | nil =>
          rw [ble_iff] at h1
          rcases h1 with h1 | h1
          · rw [xCC] at h1; cases h1
          · cases h1
        | cons y k =>
          rw [List.cons_append, blt_cons] at h2
          have h1' : ¬ (y < x ∨ y = x ∧ Op.bytesLess k (a ++ c :: q) = true) := by
            intro h'
            have := blt_cons.2 h'
            rw [List.cons_append] at h1
            simp [ble, this] at h1
          have hxy : y = x := by
            rcases h2 with h2 | ⟨h2, _⟩
            · exact absurd (.inl h2) h1'
            · exact h2
          subst hxy
          have h2' : Op.bytesLess k (a ++ [c + 1]) = true := by
            rcases h2 with h2 | ⟨_, h2⟩
            · exact absurd h2 (UInt8.lt_irrefl _)
            · exact h2
          have : ble (a ++ c :: q) k = true := by
            simp only [ble, Bool.not_eq_true']
            cases hb : Op.bytesLess k (a ++ c :: q) with
            | false => rfl
            | true => exact absurd (.inr ⟨rfl, hb⟩) h1'
          obtain ⟨r, rfl⟩ := ih k this h2'
          exact ⟨r, rfl⟩
    obtain ⟨r, rfl⟩ := ha a k h1 h2
    rw [xC6] at h1
    rw [xEA] at h2
    cases r with
    | nil =>
      rw [ble_iff] at h1
      rcases h1 with h1 | h1
      · rw [xCC] at h1; cases h1
      · cases h1
    | cons y r =>
      rw [blt_cons] at h2
      have hyc : y ≤ c := by
        rcases h2 with h2 | ⟨_, h2⟩
        · exact up_le hc h2
        · rw [xCC] at h2; cases h2
      have h1' : ¬ (y < c ∨ y = c ∧ Op.bytesLess r q = true) := by
        intro h'
        have := blt_cons.2 h'
        simp [ble, this] at h1
      have hye : y = c := UInt8.le_antisymm hyc (UInt8.not_lt.1 (fun h' => h1' (.inl h')))
      subst hye
      have : ble q r = true := by
        simp only [ble, Bool.not_eq_true']
        cases hb : Op.bytesLess r q with
        | false => rfl
        | true => exact absurd (.inr ⟨rfl, hb⟩) h1'
      obtain ⟨s, rfl⟩ := begins_iff.1 (xFd q r hq this)
      exact begins_iff.2 ⟨s, by simp⟩
  · intro h
    obtain ⟨r, rfl⟩ := begins_iff.1 h
    refine ⟨xC0 _ _, ?_⟩
    rw [List.append_assoc, xEA, List.cons_append]
    exact blt_cons.2 (.inl (lt_up hc))
theorem xGS (p : Str) : (upL p = [] ∧ ∀ c ∈ p, c = 255) ∨ ∃ a c q, p = a ++ c :: q ∧ c ≠ 255 ∧ (∀ x ∈ q, x = 255) ∧ upL p = a ++ [c + 1] := by
  obtain ⟨h1, h2⟩ := xGT p p.length (Nat.le_refl _)
  have hle := xJN p p.length
  unfold upL
  cases hs : xBZ p p.length with
  | zero =>
    left
    refine ⟨rfl, fun c hc => ?_⟩
    obtain ⟨i, hi⟩ := List.mem_iff_getElem?.1 hc
    have := h1 i (by omega) (List.getElem?_eq_some_iff.1 hi).1
    rw [hi] at this
    simpa using this
  | succ n =>
    right
    have hn : n < p.length := by omega
    have hg : p[n]? = some p[n] := List.getElem?_eq_getElem hn
    refine ⟨p.take n, p[n], p.drop (n + 1), ?_, ?_, ?_, ?_⟩
    · rw [← List.drop_eq_getElem_cons hn, List.take_append_drop]
    · intro e
      rw [e] at hg
      exact h2 n hs hg
    · intro x hx
      obtain ⟨i, hi⟩ := List.mem_iff_getElem?.1 hx
      rw [List.getElem?_drop] at hi
      have := h1 (n + 1 + i) (by omega) (List.getElem?_eq_some_iff.1 hi).1
      rw [hi] at this
      simpa using this
    · simp only [List.getD, hg, Option.getD_some]
theorem xAX (p k : Str) : hasL (xAE p) k = xAD k p := by
  rw [Bool.eq_iff_iff, has_iff]
  simp only [xAE]
  rcases xGS p with ⟨h1, h2⟩ | ⟨a, c, q, rfl, hc, hq, hu⟩
  · rw [h1]
    constructor
    · rintro ⟨h3, _⟩; exact xFd p k h2 h3
    · intro h
      obtain ⟨r, rfl⟩ := begins_iff.1 h
      exact ⟨xC0 _ _, .inl rfl⟩
  · rw [hu, ← xOd hc hq k]
    constructor
    · rintro ⟨h3, h4 | h4⟩
      · simp at h4
      · exact ⟨h3, h4⟩
    · rintro ⟨h3, h4⟩; exact ⟨h3, .inr h4⟩
theorem xCQ (p : Str) : xAI (xAE p) = false := by
  cases h : xAI (xAE p) with
  | false => rfl
  | true =>
    have := xAY h p
    rw [xAX, begins_iff.2 ⟨[], by simp⟩] at this
    cases this
theorem xEz (p : Str) : xAI (oneL p) = false := by
  cases h : xAI (oneL p) with
  | false => rfl
  | true =>
    have := xAY h p
    rw [xFM] at this
    simp at this
theorem xKS (p : Str) : (upL p).length ≤ p.length := by
  rcases xGS p with ⟨h1, _⟩ | ⟨a, c, q, rfl, _, _, hu⟩
  · rw [h1]; simp
  · rw [hu]; simp
theorem moved_app (f x t : Str) : xCo (f ++ x) f t = (t ++ x, true) := by
  have : xAD (f ++ x) f = true := begins_iff.2 ⟨x, rfl⟩
  simp [xCo, this]
theorem moved_not {k f t : Str} (h : xAD k f = false) : xCo k f t = ([], false) := by simp [xCo, h]
end Go.Pu
set_option linter.unusedVariables false
set_option linter.unusedSimpArgs false
namespace Go.Pu
theorem xEB {a b : Str} (h1 : ble a b = true) (h2 : ble b a = true) : a = b := by
  rcases ble_iff.1 h1 with h | h
  · rw [ble, Bool.not_eq_true', h] at h2; cases h2
  · exact h
def insI (s : SpanL) : List SpanL → List SpanL → Bool → List SpanL × Bool
  | [], o, d => (o, d)
  | y :: l, o, d => if d = false ∧ Op.bytesLess s.lo y.lo = true then insI s l (o ++ [s] ++ [y]) true else insI s l (o ++ [y]) d
def insS (l : List SpanL) (s : SpanL) : List SpanL :=
  if (insI s l [] (xAI s)).2 = false then (insI s l [] (xAI s)).1 ++ [s] else (insI s l [] (xAI s)).1
def xIZ (l : List SpanL) : List SpanL := l.foldl insS []
def xB8 (out : List SpanL) (s : SpanL) : List SpanL :=
  match out[out.length - 1]? with
  | none => out ++ [s]
  | some x => if x.hi ≠ [] ∧ Op.bytesLess x.hi s.lo = true then out ++ [s] else if xC5 x.hi s.hi = true then out.set (out.length - 1) ⟨x.lo, s.hi⟩ else out
def xKm (l : List SpanL) : List SpanL := l.foldl xB8 []
def xAP (l : List SpanL) : List SpanL := xKm (xIZ l)
theorem xI4 (s : SpanL) : ∀ (l o : List SpanL) (d : Bool), (insI s l o d).1.length = o.length + l.length + (if d = false ∧ (insI s l o d).2 = true then 1 else 0)
  | [], o, d => by cases d <;> simp [insI]
  | y :: l, o, d => by
    unfold insI
    split
    · rename_i h
      have h2 : ∀ (l o : List SpanL), (insI s l o true).2 = true := by
        intro l
        induction l with
        | nil => intro o; rfl
        | cons z l ih => intro o; unfold insI; rw [if_neg (by simp)]; exact ih _
      have := xI4 s l (o ++ [s] ++ [y]) true
      rw [h2, h.1]
      simp at this ⊢
      omega
    · have := xI4 s l (o ++ [y]) d
      simp only [List.length_append, List.length_cons, List.length_nil] at this ⊢
      omega
theorem xI1 (l : List SpanL) (s : SpanL) : (insS l s).length ≤ l.length + 1 := by
  have := xI4 s l [] (xAI s)
  unfold insS
  generalize insI s l [] (xAI s) = r at this
  generalize xAI s = d at this
  obtain ⟨r1, r2⟩ := r
  cases r2 <;> cases d <;> simp at this ⊢ <;> omega
theorem xGU (out : List SpanL) (s : SpanL) : (xB8 out s).length ≤ out.length + 1 := by
  unfold xB8
  split
  · simp
  · split
    · simp
    · split
      · simp
      · omega
theorem xNh (l : List SpanL) : (xKm l).length ≤ l.length := by
  have key : ∀ (l o : List SpanL), (l.foldl xB8 o).length ≤ o.length + l.length := by
    intro l
    induction l with
    | nil => intro o; exact Nat.le_refl _
    | cons s l ih =>
      intro o
      have := xGU o s
      have := ih (xB8 o s)
      simp only [List.foldl_cons, List.length_cons] at this ⊢
      omega
  have := key l []
  simpa [xKm] using this
def Lo (l : List SpanL) : Prop := l.Pairwise (fun a b => ble a.lo b.lo = true)
theorem xDa (s : SpanL) : ∀ (l o : List SpanL) (d : Bool), insI s l o d = (o ++ (insI s l [] d).1, (insI s l [] d).2)
  | [], o, d => by simp [insI]
  | y :: l, o, d => by
    unfold insI
    split
    · rw [xDa s l (o ++ [s] ++ [y]), xDa s l ([] ++ [s] ++ [y])]; simp
    · rw [xDa s l (o ++ [y]), xDa s l ([] ++ [y])]; simp
def insP (s : SpanL) : List SpanL → List SpanL
  | [] => [s]
  | y :: l => if Op.bytesLess s.lo y.lo = true then s :: y :: l else y :: insP s l
theorem xG7 (s : SpanL) : ∀ (l : List SpanL), insI s l [] true = (l, true)
  | [] => rfl
  | y :: l => by
    unfold insI
    rw [if_neg (by simp), xDa, xG7 s l]; simp
theorem xRw (l : List SpanL) (s : SpanL) : insS l s = if xAI s = true then l else insP s l := by
  unfold insS
  cases he : xAI s with
  | true => rw [xG7]; simp
  | false =>
    have key : ∀ l : List SpanL, (if (insI s l [] false).2 = false then (insI s l [] false).1 ++ [s] else (insI s l [] false).1) = insP s l := by
      intro l
      induction l with
      | nil => simp [insI, insP]
      | cons y l ih =>
        have hI : insI s (y :: l) [] false = if Op.bytesLess s.lo y.lo = true then (s :: y :: l, true) else (y :: (insI s l [] false).1, (insI s l [] false).2) := by
          rw [insI]
          by_cases h : Op.bytesLess s.lo y.lo = true
          · rw [if_pos ⟨rfl, h⟩, if_pos h, xDa, xG7]; simp
          · rw [if_neg (by simp [h]), if_neg h, xDa]; simp
        rw [hI, insP]
        by_cases h : Op.bytesLess s.lo y.lo = true
        · rw [if_pos h, if_pos h]; simp
        · rw [if_neg h, if_neg h, ← ih]
          cases h2 : (insI s l [] false).2 <;> simp [h2]
    simpa using key l
theorem insP_mem {s x : SpanL} : ∀ {l : List SpanL}, x ∈ insP s l ↔ x = s ∨ x ∈ l
  | [] => by simp [insP]
  | y :: l => by
    unfold insP
    split
    · simp
    · simp only [List.mem_cons, insP_mem (l := l)]
      constructor
      · rintro (h | h | h)
        · exact .inr (.inl h)
        · exact .inl h
        · exact .inr (.inr h)
      · rintro (h | h | h)
        · exact .inr (.inl h)
        · exact .inl h
        · exact .inr (.inr h)
theorem xN7 {s : SpanL} : ∀ {l : List SpanL}, Lo l → Lo (insP s l)
  | [], _ => by simp [insP, Lo]
  | y :: l, h => by
    unfold insP
    obtain ⟨h1, h2⟩ := List.pairwise_cons.1 h
    split
    · rename_i hb
      refine List.pairwise_cons.2 ⟨fun z hz => ?_, h⟩
      have hsy : ble s.lo y.lo = true := ble_iff.2 (.inl hb)
      rcases List.mem_cons.1 hz with rfl | hz
      · exact hsy
      · exact xA3 hsy (h1 z hz)
    · rename_i hb
      refine List.pairwise_cons.2 ⟨fun z hz => ?_, xN7 h2⟩
      rcases insP_mem.1 hz with rfl | hz
      · simp [ble, hb]
      · exact h1 z hz
theorem xFJ (l : List SpanL) : Lo (xIZ l) ∧ (∀ s ∈ xIZ l, xAI s = false) ∧ ∀ s, s ∈ xIZ l ↔ s ∈ l ∧ xAI s = false := by
  have key : ∀ (l o : List SpanL), Lo o → (∀ s ∈ o, xAI s = false) → Lo (l.foldl insS o) ∧ (∀ s ∈ l.foldl insS o, xAI s = false) ∧ ∀ s, s ∈ l.foldl insS o ↔ s ∈ o ∨ (s ∈ l ∧ xAI s = false) := by
    intro l
    induction l with
    | nil => intro o h1 h2; exact ⟨h1, h2, fun s => by simp⟩
    | cons x l ih =>
      intro o h1 h2
      have hx := xRw o x
      cases he : xAI x with
      | true =>
        rw [he, if_pos rfl] at hx
        obtain ⟨g1, g2, g3⟩ := ih o h1 h2
        rw [List.foldl_cons, hx]
        refine ⟨g1, g2, fun s => (g3 s).trans ?_⟩
        constructor
        · rintro (h | ⟨h, h'⟩)
          · exact .inl h
          · exact .inr ⟨by simp [h], h'⟩
        · rintro (h | ⟨h, h'⟩)
          · exact .inl h
          · rcases List.mem_cons.1 h with rfl | h
            · rw [he] at h'; cases h'
            · exact .inr ⟨h, h'⟩
      | false =>
        rw [he, if_neg (by simp)] at hx
        obtain ⟨g1, g2, g3⟩ := ih (insP x o) (xN7 h1) (fun s hs => by rcases insP_mem.1 hs with rfl | hs; exact he; exact h2 s hs)
        rw [List.foldl_cons, hx]
        refine ⟨g1, g2, fun s => (g3 s).trans ?_⟩
        rw [insP_mem]
        constructor
        · rintro ((h | h) | ⟨h, h'⟩)
          · subst h; exact .inr ⟨by simp, he⟩
          · exact .inl h
          · exact .inr ⟨by simp [h], h'⟩
        · rintro (h | ⟨h, h'⟩)
          · exact .inl (.inr h)
          · rcases List.mem_cons.1 h with rfl | h
            · exact .inl (.inl rfl)
            · exact .inr ⟨h, h'⟩
  obtain ⟨h1, h2, h3⟩ := key l [] List.Pairwise.nil (by simp)
  exact ⟨h1, h2, fun s => (h3 s).trans (by simp)⟩
def inL (l : List SpanL) (k : Str) : Bool := l.any (fun s => hasL s k)
theorem inL_iff {l : List SpanL} {k : Str} : inL l k = true ↔ ∃ s ∈ l, hasL s k = true := by simp [inL]
def sep (a b : SpanL) : Prop := a.hi ≠ [] ∧ Op.bytesLess a.hi b.lo = true
structure Nrm (l : List SpanL) : Prop where
  ne : ∀ s ∈ l, xAI s = false
  pw : l.Pairwise sep
theorem Nrm.tail {s : SpanL} {l : List SpanL} (h : Nrm (s :: l)) : Nrm l := ⟨fun t ht => h.ne t (by simp [ht]), (List.pairwise_cons.1 h.pw).2⟩
theorem xA9 {s : SpanL} (h : xAI s = false) (hh : s.hi ≠ []) : Op.bytesLess s.lo s.hi = true := by
  have := (has_iff.1 (xDE h)).2
  rcases this with h1 | h1
  · exact absurd h1 hh
  · exact h1
theorem Nrm.above {s : SpanL} {l : List SpanL} (h : Nrm (s :: l)) {k : Str} (hk : inL l k = true) : s.hi ≠ [] ∧ Op.bytesLess s.hi k = true := by
  obtain ⟨t, ht, hk⟩ := inL_iff.1 hk
  obtain ⟨h1, h2⟩ := (List.pairwise_cons.1 h.pw).1 t ht
  exact ⟨h1, xAa h2 (has_iff.1 hk).1⟩
theorem xAU {s : SpanL} {l : List SpanL} {k : Str} : inL (s :: l) k = (hasL s k || inL l k) := by simp [inL]
theorem Nrm.ext : ∀ {l m : List SpanL}, Nrm l → Nrm m → (∀ k, inL l k = inL m k) → l = m
  | [], [], _, _, _ => rfl
  | [], t :: m, _, h, hk => by
    have := hk t.lo
    rw [xAU, xDE (h.ne t (by simp))] at this
    simp [inL] at this
  | s :: l, [], h, _, hk => by
    have := hk s.lo
    rw [xAU, xDE (h.ne s (by simp))] at this
    simp [inL] at this
  | s :: l, t :: m, h, g, hk => by
    have least : ∀ {s : SpanL} {l : List SpanL}, Nrm (s :: l) → ∀ {k : Str}, inL (s :: l) k = true → ble s.lo k = true := by
      intro s l h k hk
      rw [xAU, Bool.or_eq_true] at hk
      rcases hk with hk | hk
      · exact (has_iff.1 hk).1
      · obtain ⟨h1, h2⟩ := h.above hk
        exact ble_iff.2 (.inl (xAk (xA9 (h.ne s (by simp)) h1) h2))
    have hlo : s.lo = t.lo := by
      have h1 := least h (k := t.lo) (by rw [hk, xAU, xDE (g.ne t (by simp))]; rfl)
      have h2 := least g (k := s.lo) (by rw [← hk, xAU, xDE (h.ne s (by simp))]; rfl)
      exact xEB h1 h2
    have ends : ∀ {s t : SpanL} {l m : List SpanL}, Nrm (s :: l) → Nrm (t :: m) → (∀ k, inL (s :: l) k = inL (t :: m) k) → s.lo = t.lo → ¬ elt s.hi t.hi := by
      intro s t l m h g hk hlo he
      have hs := xA9 (h.ne s (by simp)) he.1
      have h1 : hasL t s.hi = true := has_iff.2 ⟨ble_iff.2 (.inl (hlo ▸ hs)), he.2⟩
      have h2 := hk s.hi
      rw [xAU (s := t), h1, xAU] at h2
      have h3 : hasL s s.hi = false := by
        cases h4 : hasL s s.hi with
        | false => rfl
        | true =>
          rcases (has_iff.1 h4).2 with h5 | h5
          · exact absurd h5 he.1
          · rw [xAm] at h5; cases h5
      rw [h3] at h2
      have h4 : inL l s.hi = true := by simpa using h2
      have := (h.above h4).2
      rw [xAm] at this; cases this
    have hhi : s.hi = t.hi := by
      rcases xOG s.hi t.hi with e | e | e
      · exact absurd e (ends h g hk hlo)
      · exact e
      · exact absurd e (ends g h (fun k => (hk k).symm) hlo.symm)
    have hst : s = t := by cases s; cases t; simp_all
    subst hst
    rw [Nrm.ext h.tail g.tail (fun k => ?_)]
    have := hk k
    rw [xAU, xAU] at this
    cases hs : hasL s k with
    | false => rw [hs] at this; simpa using this
    | true =>
      have no : ∀ {l : List SpanL}, Nrm (s :: l) → inL l k = false := by
        intro l h
        cases hl : inL l k with
        | false => rfl
        | true =>
          obtain ⟨h1, h2⟩ := h.above hl
          rcases (has_iff.1 hs).2 with h3 | h3
          · exact absurd h3 h1
          · rw [xBj h2] at h3; cases h3
      rw [no h, no g]
theorem xDp (o : List SpanL) (x s : SpanL) : xB8 (o ++ [x]) s = if x.hi ≠ [] ∧ Op.bytesLess x.hi s.lo = true then o ++ [x] ++ [s] else if xC5 x.hi s.hi = true then o ++ [⟨x.lo, s.hi⟩] else o ++ [x] := by
  unfold xB8
  simp
theorem xFN : ∀ (l o : List SpanL), Nrm o → Lo l → (∀ s ∈ l, xAI s = false) → (∀ x ∈ o, ∀ s ∈ l, ble x.lo s.lo = true) → Nrm (l.foldl xB8 o) ∧ ∀ k, inL (l.foldl xB8 o) k = (inL o k || inL l k)
  | [], o, h, _, _, _ => ⟨h, fun k => by simp [inL]⟩
  | s :: l, o, h, hl, hne, hb => by
    obtain ⟨hl1, hl2⟩ := List.pairwise_cons.1 hl
    have hse := hne s (by simp)
    have go : ∀ o', Nrm o' → (∀ x ∈ o', ∀ t ∈ l, ble x.lo t.lo = true) → (∀ k, inL o' k = (inL o k || hasL s k)) → xB8 o s = o' → Nrm ((s :: l).foldl xB8 o) ∧ ∀ k, inL ((s :: l).foldl xB8 o) k = (inL o k || inL (s :: l) k) := by
      intro o' h1 h2 h3 h4
      obtain ⟨g1, g2⟩ := xFN l o' h1 hl2 (fun t ht => hne t (by simp [ht])) h2
      rw [List.foldl_cons, h4]
      refine ⟨g1, fun k => ?_⟩
      rw [g2, h3, xAU, Bool.or_assoc]
    rcases List.eq_nil_or_concat o with rfl | ⟨p, x, rfl⟩
    · exact go [s] ⟨by simpa using hse, by simp⟩ (by simpa using hl1) (fun k => by simp [inL]) rfl
    · rw [List.concat_eq_append] at *
      have hxs := hb x (by simp) s (by simp)
      have hxe := h.ne x (by simp)
      have hpx : ∀ y ∈ p, sep y x := fun y hy => (List.pairwise_append.1 h.pw).2.2 y hy x (by simp)
      have hpp := (List.pairwise_append.1 h.pw).1
      have inA : ∀ (q : List SpanL) (y : SpanL) (k : Str), inL (q ++ [y]) k = (inL q k || hasL y k) := by intro q y k; simp [inL]
      by_cases h1 : x.hi ≠ [] ∧ Op.bytesLess x.hi s.lo = true
      · refine go (p ++ [x] ++ [s]) ⟨fun t ht => ?_, ?_⟩ (fun y hy t ht => ?_) (fun k => by rw [inA]) (by rw [xDp, if_pos h1])
        · rcases List.mem_append.1 ht with ht | ht
          · exact h.ne t ht
          · rw [List.mem_singleton.1 ht]; exact hse
        · refine List.pairwise_append.2 ⟨h.pw, by simp, fun y hy t ht => ?_⟩
          rw [List.mem_singleton.1 ht]
          rcases List.mem_append.1 hy with hy | hy
          · obtain ⟨g1, g2⟩ := hpx y hy
            exact ⟨g1, xAa g2 hxs⟩
          · rw [List.mem_singleton.1 hy]; exact h1
        · rcases List.mem_append.1 hy with hy | hy
          · exact hb y hy t (by simp [ht])
          · rw [List.mem_singleton.1 hy]; exact hl1 t ht
      · -- s begins in x or at its end
        have hin : x.hi = [] ∨ ble s.lo x.hi = true := by
          by_cases hx : x.hi = []
          · exact .inl hx
          · right
            have : ¬ Op.bytesLess x.hi s.lo = true := fun h' => h1 ⟨hx, h'⟩
            simp [ble, this]
        by_cases h2 : xC5 x.hi s.hi = true
        · have he := less_iff.1 h2
          have hx0 := he.1
          have hsx : ble s.lo x.hi = true := by rcases hin with h' | h'; exact absurd h' hx0; exact h'
          have hxlt := xA9 hxe hx0
          have hnew : xAI ⟨x.lo, s.hi⟩ = false := by
            cases h' : xAI ⟨x.lo, s.hi⟩ with
            | false => rfl
            | true =>
              obtain ⟨g1, g2⟩ := empty_iff.1 h'
              rcases he.2 with h'' | h''
              · exact absurd h'' g1
              · have := xAa (xAk hxlt h'') g2
                rw [xAm] at this; cases this
          refine go (p ++ [⟨x.lo, s.hi⟩]) ⟨fun t ht => ?_, ?_⟩ (fun y hy t ht => ?_) (fun k => ?_) (by rw [xDp, if_neg h1, if_pos h2])
          · rcases List.mem_append.1 ht with ht | ht
            · exact h.ne t (by simp [ht])
            · rw [List.mem_singleton.1 ht]; exact hnew
          · refine List.pairwise_append.2 ⟨hpp, by simp, fun y hy t ht => ?_⟩
            rw [List.mem_singleton.1 ht]
            exact hpx y hy
          · rcases List.mem_append.1 hy with hy | hy
            · exact hb y (by simp [hy]) t (by simp [ht])
            · rw [List.mem_singleton.1 hy]; exact hb x (by simp) t (by simp [ht])
          · rw [inA, inA, Bool.or_assoc]
            congr 1
            rw [Bool.eq_iff_iff, Bool.or_eq_true, has_iff, has_iff, has_iff]
            simp only
            constructor
            · rintro ⟨g1, g2⟩
              cases hk : Op.bytesLess k x.hi with
              | true => exact .inl ⟨g1, .inr rfl⟩
              | false => exact .inr ⟨xA3 hsx (by simp [ble, hk]), g2⟩
            · rintro (⟨g1, g2⟩ | ⟨g1, g2⟩)
              · refine ⟨g1, ?_⟩
                rcases g2 with g2 | g2
                · exact absurd g2 hx0
                · rcases he.2 with h' | h'
                  · exact .inl h'
                  · exact .inr (xAk g2 h')
              · exact ⟨xA3 hxs g1, g2⟩
        · have hne2 : ¬ elt x.hi s.hi := fun h' => h2 (less_iff.2 h')
          refine go (p ++ [x]) h (fun y hy t ht => hb y hy t (by simp [ht])) (fun k => ?_) (by rw [xDp, if_neg h1, if_neg h2])
          have : hasL s k = true → hasL x k = true := by
            rw [has_iff, has_iff]
            rintro ⟨g1, g2⟩
            refine ⟨xA3 hxs g1, ?_⟩
            by_cases hx : x.hi = []
            · exact .inl hx
            · right
              rcases g2 with g2 | g2
              · exact absurd ⟨hx, .inl g2⟩ hne2
              · rcases xBn x.hi s.hi with h' | h' | h'
                · exact absurd ⟨hx, .inr h'⟩ hne2
                · rw [h']; exact g2
                · exact xAk g2 h'
          rw [inA]
          cases hs : hasL s k with
          | false => simp
          | true => rw [this hs]; simp
theorem xAp (l : List SpanL) : Nrm (xAP l) ∧ ∀ k, inL (xAP l) k = inL l k := by
  obtain ⟨h1, h2, h3⟩ := xFJ l
  obtain ⟨g1, g2⟩ := xFN (xIZ l) [] ⟨by simp, by simp⟩ h1 h2 (by simp)
  refine ⟨g1, fun k => (g2 k).trans ?_⟩
  rw [show inL [] k = false from rfl, Bool.false_or, Bool.eq_iff_iff, inL_iff, inL_iff]
  constructor
  · rintro ⟨s, hs, hk⟩; exact ⟨s, ((h3 s).1 hs).1, hk⟩
  · rintro ⟨s, hs, hk⟩
    refine ⟨s, (h3 s).2 ⟨hs, ?_⟩, hk⟩
    cases he : xAI s with
    | false => rfl
    | true => rw [xAY he] at hk; cases hk
theorem xNi {l m : List SpanL} (hm : Lo m) (hp : m.Perm (l.filter (fun s => !xAI s))) : xKm m = xAP l := by
  have he : ∀ s ∈ m, xAI s = false := fun s hs => by have := hp.mem_iff.1 hs; simp at this; exact this.2
  obtain ⟨g1, g2⟩ := xFN m [] ⟨by simp, by simp⟩ hm he (by simp)
  obtain ⟨r1, r2⟩ := xAp l
  refine Nrm.ext g1 r1 (fun k => ?_)
  show inL (m.foldl xB8 []) k = _
  rw [g2, r2, show inL [] k = false from rfl, Bool.false_or, Bool.eq_iff_iff, inL_iff, inL_iff]
  constructor
  · rintro ⟨s, hs, hk⟩
    have := hp.mem_iff.1 hs
    exact ⟨s, (List.mem_filter.1 this).1, hk⟩
  · rintro ⟨s, hs, hk⟩
    refine ⟨s, hp.mem_iff.2 (List.mem_filter.2 ⟨hs, ?_⟩), hk⟩
    cases he : xAI s with
    | false => rfl
    | true => rw [xAY he] at hk; cases hk
end Go.Pu
set_option linter.unusedVariables false
set_option linter.unusedSimpArgs false
namespace Go.Pu
instance : Inhabited SpanL := ⟨⟨[], []⟩⟩
section
variable {α : Type} [Inhabited α]
theorem gb {xs : List α} {i : Nat} {x : α} (h : xs[i]? = some x) : xs.toArray[i]! = x := by
  simp [h]
theorem xBp {xs : List α} {i j : Nat} {x y : α} (hx : xs[i]? = some x) (hy : xs[j]? = some y) : Sort.swp xs.toArray i j = ((xs.set i y).set j x).toArray := by
  unfold Sort.swp
  rw [gb hx, gb hy]
  simp
theorem xCV (lt : α → α → Bool) (hi first root : Nat) (d : Array α) : (Sort.siftDown lt hi first root d).size = d.size := by
  fun_induction Sort.siftDown lt hi first root d <;> simp_all [Sort.size_swp]
theorem xEW (lt : α → α → Bool) (hi first : Nat) : ∀ (k : Nat) (d : Array α), (Sort.heapBuild lt hi first k d).size = d.size
  | 0, d => rfl
  | k + 1, d => by rw [Sort.heapBuild, xEW lt hi first k, xCV]
end
def ltS (a b : SpanL) : Bool := decide (xD9 a.lo b.lo < 0)
theorem xLi (a b : SpanL) : ltS a b = Op.bytesLess a.lo b.lo := by
  rw [Bool.eq_iff_iff, ltS, decide_eq_true_eq, xKD]
theorem xNu : Sort.SWO ltS where
  irrefl x := by rw [xLi, xAm]
  trans x y z h1 h2 := by rw [xLi] at *; exact xAk h1 h2
  ntrans x y z h1 h2 := by
    rw [xLi] at *
    have g1 : ble y.lo x.lo = true := by simp [ble, h1]
    have g2 : ble z.lo y.lo = true := by simp [ble, h2]
    have := xA3 g2 g1
    simpa [ble] using this
end Go.Pu
set_option linter.unusedVariables false
set_option linter.unusedSimpArgs false
namespace Go.Pu
section
variable {α : Type} [Inhabited α]
theorem xC2 (lt : α → α → Bool) : ∀ (j : Nat) (d : Array α), (Sort.shiftDown lt j d).size = d.size
  | 0, d => rfl
  | j + 1, d => by
    rw [Sort.shiftDown]
    split
    · rfl
    · rw [xC2 lt j, Sort.size_swp]
theorem xJU (lt : α → α → Bool) (b j : Nat) (d : Array α) : (Sort.shiftUp lt b j d).size = d.size := by
  fun_induction Sort.shiftUp lt b j d <;> simp_all [Sort.size_swp]
theorem xCm (lt : α → α → Bool) (a b : Nat) : ∀ (s i : Nat) (d : Array α), (Sort.partialIns lt a b s i d).1.size = d.size
  | 0, i, d => rfl
  | s + 1, i, d => by
    rw [Sort.partialIns]
    simp only
    split
    · rfl
    · split
      · rfl
      · rw [xCm lt a b s]
        split
        · rw [xJU]
          split
          · rw [xC2, Sort.size_swp]
          · rw [Sort.size_swp]
        · split
          · rw [xC2, Sort.size_swp]
          · rw [Sort.size_swp]
theorem xJg (lt : α → α → Bool) {d : Array α} {a b pivot : Nat} (h1 : a ≤ pivot) (h2 : pivot < b) (hb : b ≤ d.size) : a < (Sort.partitionEqual lt d a b pivot).1 ∧ (Sort.partitionEqual lt d a b pivot).1 ≤ b ∧ (Sort.partitionEqual lt d a b pivot).2.size = d.size := by
  obtain ⟨g1, g2, g3, _⟩ := Sort.partEqLoop_spec (lt := lt) a b (b - 1 + 1 - (a + 1)) (a + 1) (b - 1) (Sort.swp d a pivot) (Nat.le_refl _) (by omega) (by omega) (by omega) (by rw [Sort.size_swp]; exact hb) (fun t h h' => by omega) (fun t h h' => by omega)
  exact ⟨g1, g2, by have := g3.1; rw [Sort.size_swp] at this; exact this⟩
theorem xE8 (lt : α → α → Bool) (a : Nat) : ∀ (j : Nat) (d : Array α), (Sort.insInner lt a j d).size = d.size
  | 0, d => rfl
  | j + 1, d => by
    rw [Sort.insInner]
    split
    · rw [xE8 lt a j, Sort.size_swp]
    · rfl
theorem xI2 (lt : α → α → Bool) (a b i : Nat) (d : Array α) : (Sort.insOuter lt a b i d).size = d.size := by
  fun_induction Sort.insOuter lt a b i d <;> simp_all [xE8]
theorem xFt (lt : α → α → Bool) (first : Nat) : ∀ (k : Nat) (d : Array α), (Sort.heapPop lt first k d).size = d.size
  | 0, d => rfl
  | k + 1, d => by rw [Sort.heapPop, xFt lt first k, xCV, Sort.size_swp]
theorem xI6 (lt : α → α → Bool) (d : Array α) (a b : Nat) : (Sort.heapSort lt d a b).size = d.size := by
  unfold Sort.heapSort
  rw [xFt, xEW]
theorem xF2 (i j : Nat) (d : Array α) : (Sort.reverseLoop i j d).size = d.size := by
  fun_induction Sort.reverseLoop i j d <;> simp_all [Sort.size_swp]
theorem xJZ (d : Array α) (a b : Nat) : (Sort.reverseRange d a b).size = d.size := xF2 _ _ _
theorem xMk (d : Array α) (a b : Nat) : (Sort.breakPatterns d a b).size = d.size := by
  unfold Sort.breakPatterns Sort.breakStep
  simp only
  split
  · simp [Sort.size_swp]
  · rfl
theorem xIi (lt : α → α → Bool) (a i j : Nat) (d : Array α) : (Sort.partLoop lt a i j d).2.size = d.size := by
  fun_induction Sort.partLoop lt a i j d <;> simp_all [Sort.size_swp]
theorem xGe (lt : α → α → Bool) (a i j : Nat) (d : Array α) : (Sort.partEqLoop lt a i j d).2.size = d.size := by
  fun_induction Sort.partEqLoop lt a i j d <;> simp_all [Sort.size_swp]
theorem xC3 (lt : α → α → Bool) (d : Array α) (a b p : Nat) : (Sort.partition lt d a b p).2.2.size = d.size := by
  unfold Sort.partition
  simp only
  split
  · simp [Sort.size_swp]
  · simp [Sort.size_swp, xIi]
theorem xCl (lt : α → α → Bool) (d : Array α) (a b p : Nat) : (Sort.partitionEqual lt d a b p).2.size = d.size := by
  unfold Sort.partitionEqual
  rw [xGe, Sort.size_swp]
end
end Go.Pu
set_option linter.unusedVariables false
set_option linter.unusedSimpArgs false
namespace Go.Pu
def ne (s : SpanL) : Bool := !xAI s
def delL (xs : List SpanL) : List SpanL := xs.filter ne ++ List.replicate (xs.length - (xs.filter ne).length) ⟨[], []⟩
def xBb (xs : List SpanL) : Array SpanL := Sort.pdq ltS (delL xs).toArray 0 (xs.filter ne).length (Sort.bitsLen (xs.filter ne).length) true true
theorem xLz (xs : List SpanL) : (delL xs).length = xs.length := by
  have := List.length_filter_le ne xs
  simp [delL]; omega
theorem xJQ (xs : List SpanL) : (xBb xs).size = xs.length ∧ xKm ((xBb xs).toList.take (xs.filter ne).length) = xAP xs := by
  have hk : (xs.filter ne).length ≤ (delL xs).toArray.size := by simp [delL]
  obtain ⟨h1, h2⟩ := Sort.pdq_sorts ltS xNu (delL xs).toArray 0 (xs.filter ne).length (Sort.bitsLen (xs.filter ne).length) true true (Nat.zero_le _) hk (.inl rfl)
  obtain ⟨g1, _, g3⟩ := h1
  have hs : (xBb xs).size = xs.length := by unfold xBb; rw [g1]; simp [xLz]
  refine ⟨hs, xNi ?_ ?_⟩
  · refine List.pairwise_iff_getElem.2 fun i j hi hj hij => ?_
    simp only [List.length_take, Array.length_toList] at hi hj
    rw [List.getElem_take, List.getElem_take, Array.getElem_toList, Array.getElem_toList]
    have := h2 i j (Nat.zero_le _) hij (by omega)
    rw [xLi] at this
    have e1 : (xBb xs)[i]! = (xBb xs)[i] := getElem!_pos (xBb xs) i (by omega)
    have e2 : (xBb xs)[j]! = (xBb xs)[j] := getElem!_pos (xBb xs) j (by omega)
    have h3 : Op.bytesLess (xBb xs)[j]!.lo (xBb xs)[i]!.lo = false := this
    rw [e1, e2] at h3
    simp [ble, h3]
  · have : ((delL xs).toArray.extract 0 (xs.filter ne).length).toList = xs.filter ne := by simp [delL]
    rw [this] at g3
    have e : ((xBb xs).extract 0 (xs.filter ne).length).toList = (xBb xs).toList.take (xs.filter ne).length := by simp
    rw [← e]
    exact g3
end Go.Pu
set_option linter.unusedVariables false
namespace Go.Pu
theorem xEX : ∀ (l o : List SpanL), (l.foldl insS o).length ≤ o.length + l.length
  | [], o => by simp
  | s :: l, o => by
    rw [List.foldl_cons, List.length_cons]
    have h1 := xEX l (insS o s)
    have h2 := xI1 o s
    omega
theorem xCk (l : List SpanL) : (xAP l).length ≤ l.length := by
  have h1 := xNh (xIZ l)
  have h2 := xEX l []
  unfold xAP
  unfold xIZ at *
  simp only [List.length_nil] at h2
  omega
theorem xOt (o : List SpanL) (s t : SpanL) (h : t ∈ xB8 o s) : (∃ x ∈ o, x.lo = t.lo) ∨ t.lo = s.lo := by
  rcases List.eq_nil_or_concat o with rfl | ⟨o, x, rfl⟩
  · right
    have : t = s := by simpa [xB8] using h
    rw [this]
  · rw [List.concat_eq_append, xDp] at h
    split at h
    · rcases List.mem_append.1 h with h | h
      · exact .inl ⟨t, by simpa using h, rfl⟩
      · exact .inr (by rw [List.mem_singleton.1 h])
    · split at h
      · rcases List.mem_append.1 h with h | h
        · exact .inl ⟨t, by simp [h], rfl⟩
        · exact .inl ⟨x, by simp, by rw [List.mem_singleton.1 h]⟩
      · exact .inl ⟨t, by simpa using h, rfl⟩
theorem xLY : ∀ (l o : List SpanL) (t : SpanL), t ∈ l.foldl xB8 o → (∃ x ∈ o, x.lo = t.lo) ∨ ∃ x ∈ l, x.lo = t.lo
  | [], o, t, h => .inl ⟨t, h, rfl⟩
  | s :: l, o, t, h => by
    rw [List.foldl_cons] at h
    rcases xLY l _ t h with ⟨x, hx, hxt⟩ | ⟨x, hx, hxt⟩
    · rcases xOt o s x hx with ⟨y, hy, hyx⟩ | h2
      · exact .inl ⟨y, hy, hyx.trans hxt⟩
      · exact .inr ⟨s, by simp, h2.symm.trans hxt⟩
    · exact .inr ⟨x, by simp [hx], hxt⟩
theorem xEw {l : List SpanL} {t : SpanL} (h : t ∈ xAP l) : ∃ x ∈ l, x.lo = t.lo ∧ xAI x = false := by
  rcases xLY _ _ t h with ⟨x, hx, _⟩ | ⟨x, hx, hxt⟩
  · exact absurd hx (by simp)
  · have := ((xFJ l).2.2 x).1 hx
    exact ⟨x, this.1, hxt, this.2⟩
theorem xOu (o : List SpanL) (s t : SpanL) (h : t ∈ xB8 o s) : (∃ x ∈ o, x.hi = t.hi) ∨ t.hi = s.hi := by
  rcases List.eq_nil_or_concat o with rfl | ⟨o, x, rfl⟩
  · right
    have : t = s := by simpa [xB8] using h
    rw [this]
  · rw [List.concat_eq_append, xDp] at h
    split at h
    · rcases List.mem_append.1 h with h | h
      · exact .inl ⟨t, by simpa using h, rfl⟩
      · exact .inr (by rw [List.mem_singleton.1 h])
    · split at h
      · rcases List.mem_append.1 h with h | h
        · exact .inl ⟨t, by simp [h], rfl⟩
        · exact .inr (by rw [List.mem_singleton.1 h])
      · exact .inl ⟨t, by simpa using h, rfl⟩
theorem xLZ : ∀ (l o : List SpanL) (t : SpanL), t ∈ l.foldl xB8 o → (∃ x ∈ o, x.hi = t.hi) ∨ ∃ x ∈ l, x.hi = t.hi
  | [], o, t, h => .inl ⟨t, h, rfl⟩
  | s :: l, o, t, h => by
    rw [List.foldl_cons] at h
    rcases xLZ l _ t h with ⟨x, hx, hxt⟩ | ⟨x, hx, hxt⟩
    · rcases xOu o s x hx with ⟨y, hy, hyx⟩ | h2
      · exact .inl ⟨y, hy, hyx.trans hxt⟩
      · exact .inr ⟨s, by simp, h2.symm.trans hxt⟩
    · exact .inr ⟨x, by simp [hx], hxt⟩
theorem xIb {l : List SpanL} {t : SpanL} (h : t ∈ xAP l) : ∃ x ∈ l, x.hi = t.hi := by
  rcases xLZ _ _ t h with ⟨x, hx, _⟩ | ⟨x, hx, hxt⟩
  · exact absurd hx (by simp)
  · exact ⟨x, (((xFJ l).2.2 x).1 hx).1, hxt⟩
def xCq : Str → List SpanL → List SpanL → List SpanL
  | lo, [], out => out ++ [⟨lo, []⟩]
  | lo, s :: l, out => if s.hi = [] then (if s.lo = [] then out else out ++ [⟨lo, s.lo⟩]) else xCq s.hi l (if s.lo = [] then out else out ++ [⟨lo, s.lo⟩])
theorem xHE : ∀ (l : List SpanL) (lo : Str) (out : List SpanL), (xCq lo l out).length ≤ out.length + l.length + 1
  | [], lo, out => by simp [xCq]
  | s :: l, lo, out => by
    have h2 : (if s.lo = [] then out else out ++ [⟨lo, s.lo⟩]).length ≤ out.length + 1 := by split <;> simp
    rw [xCq, List.length_cons]
    generalize (if s.lo = [] then out else out ++ [(⟨lo, s.lo⟩ : SpanL)]) = o2 at *
    split
    · omega
    · have := xHE l s.hi o2
      omega
theorem xGE : ∀ (l : List SpanL) (lo : Str) (out : List SpanL) (t : SpanL), t ∈ xCq lo l out → t ∈ out ∨ t.lo = lo ∨ ∃ x ∈ l, x.hi = t.lo
  | [], lo, out, t, h => by
    rw [xCq] at h
    rcases List.mem_append.1 h with h | h
    · exact .inl h
    · exact .inr (.inl (by rw [List.mem_singleton.1 h]))
  | s :: l, lo, out, t, h => by
    have h2 : t ∈ (if s.lo = [] then out else out ++ [⟨lo, s.lo⟩]) → t ∈ out ∨ t.lo = lo := by
      split
      · exact .inl
      · intro h
        rcases List.mem_append.1 h with h | h
        · exact .inl h
        · exact .inr (by rw [List.mem_singleton.1 h])
    rw [xCq] at h
    generalize (if s.lo = [] then out else out ++ [(⟨lo, s.lo⟩ : SpanL)]) = o2 at *
    split at h
    · rcases h2 h with h | h
      · exact .inl h
      · exact .inr (.inl h)
    · rcases xGE l s.hi o2 t h with h | h | ⟨x, hx, hxt⟩
      · rcases h2 h with h | h
        · exact .inl h
        · exact .inr (.inl h)
      · exact .inr (.inr ⟨s, by simp, h.symm⟩)
      · exact .inr (.inr ⟨x, by simp [hx], hxt⟩)
theorem xCA {a b : List SpanL} {k : Str} : inL (a ++ b) k = (inL a k || inL b k) := by simp [inL]
theorem xHD {lo hi k : Str} (h : hi ≠ []) : hasL ⟨lo, hi⟩ k = (ble lo k && Op.bytesLess k hi) := by
  have : (hi == []) = false := by simpa using h
  simp only [hasL, ble, this, Bool.false_or]
theorem xGD {lo k : Str} : hasL ⟨lo, []⟩ k = ble lo k := by simp [hasL, ble]
theorem xIF : ∀ (l : List SpanL) (lo : Str) (out : List SpanL) (k : Str), Nrm l → (∀ x, inL l x = true → ble lo x = true) →
    inL (xCq lo l out) k = (inL out k || (ble lo k && !inL l k))
  | [], lo, out, k, _, _ => by
    rw [xCq, xCA]
    simp [inL, xGD]
  | s :: l, lo, out, k, hn, ha => by
    have hls : ble lo s.lo = true := ha s.lo (by rw [xAU, xDE (hn.ne s (by simp))]; rfl)
    have h2 : inL (if s.lo = [] then out else out ++ [⟨lo, s.lo⟩]) k = (inL out k || (ble lo k && Op.bytesLess k s.lo)) := by
      split
      · next h => rw [h]; simp [xCC]
      · next h => rw [xCA]; simp [inL, xHD h]
    rw [xCq, xAU]
    generalize (if s.lo = [] then out else out ++ [(⟨lo, s.lo⟩ : SpanL)]) = o2 at *
    have hnl : inL l k = true → Op.bytesLess k s.lo = true → False := by
      intro h h3
      obtain ⟨h4, h5⟩ := hn.above h
      have h6 := xAa (xA9 (hn.ne s (by simp)) h4) (ble_iff.2 (.inl h5))
      have h7 := xAa h3 (ble_iff.2 (.inl h6))
      rw [xAm] at h7
      cases h7
    have hsl : ble lo k = false → ble s.lo k = false := by
      intro h
      cases h3 : ble s.lo k with
      | false => rfl
      | true => rw [xA3 hls h3] at h; cases h
    split
    · next h =>
      have hl : inL l k = false := by
        cases h3 : inL l k with
        | false => rfl
        | true => exact absurd h (hn.above h3).1
      rw [h2, hl]
      simp [hasL, h]
    · next h =>
      rw [xIF l s.hi o2 k hn.tail (fun x hx => ble_iff.2 (.inl (hn.above hx).2)), h2]
      have hlt := xA9 (hn.ne s (by simp)) h
      have e1 : hasL s k = (ble s.lo k && Op.bytesLess k s.hi) := xHD (lo := s.lo) h
      rw [e1]
      cases h3 : inL out k with
      | true => simp
      | false =>
        have e2 : ble s.lo k = !Op.bytesLess k s.lo := rfl
        have e3 : ble s.hi k = !Op.bytesLess k s.hi := rfl
        cases h4 : Op.bytesLess k s.lo with
        | true =>
          have h5 : Op.bytesLess k s.hi = true := xAa h4 (ble_iff.2 (.inl hlt))
          have h6 : inL l k = false := by
            cases h7 : inL l k with
            | false => rfl
            | true => exact (hnl h7 h4).elim
          simp [e2, e3, h4, h5, h6]
        | false =>
          cases h5 : Op.bytesLess k s.hi with
          | true => simp [e2, e3, h4, h5]
          | false =>
            have h6 : ble lo k = true := xA3 hls (by rw [e2, h4]; rfl)
            simp [e2, e3, h4, h5, h6]
def xBz (l m : List SpanL) : List SpanL := (xCq [] (xAP m) []).flatMap (fun g => l.map (xAd g))
def xAj (l m : List SpanL) : List SpanL := xAP (xBz l m)
theorem xI5 {α : Type} (f : α → List SpanL) (k : Str) : ∀ (l : List α), inL (l.flatMap f) k = l.any (fun a => inL (f a) k)
  | [] => rfl
  | a :: l => by rw [List.flatMap_cons, xCA, xI5 f k l, List.any_cons]
theorem xFs (g : SpanL) (k : Str) : ∀ (l : List SpanL), inL (l.map (xAd g)) k = (hasL g k && inL l k)
  | [] => by simp [inL]
  | s :: l => by rw [List.map_cons, xAU, xAU, xFs g k l, xCE]; cases hasL g k <;> simp
theorem xBt (l m : List SpanL) (k : Str) : inL (xAj l m) k = (inL l k && !inL m k) := by
  have h1 := xIF (xAP m) [] [] k (xAp m).1 (fun x _ => xFc x)
  rw [xAj, (xAp _).2, xBz, xI5]
  simp only [xFs]
  have h2 : ∀ (gs : List SpanL), gs.any (fun g => hasL g k && inL l k) = (inL gs k && inL l k) := by
    intro gs
    induction gs with
    | nil => rfl
    | cons g gs ih => rw [List.any_cons, ih, xAU]; cases hasL g k <;> cases inL gs k <;> cases inL l k <;> rfl
  rw [h2, h1, (xAp m).2, xFc]
  simp [inL, Bool.and_comm]
theorem xDx (l m : List SpanL) : Nrm (xAj l m) := (xAp _).1
def cutL (s c : SpanL) : List SpanL := (if c.lo = [] then [] else [xAd s ⟨[], c.lo⟩]) ++ (if c.hi = [] then [] else [xAd s ⟨c.hi, []⟩])
def xDb (left : List SpanL) (c : SpanL) : List SpanL := if xAI c = true then left else xAP (left.flatMap (fun s => cutL s c))
def xGa (l m : List SpanL) : List SpanL := m.foldl xDb (xAP l)
theorem xON (s c : SpanL) (k : Str) : inL (cutL s c) k = (hasL s k && !hasL c k) := by
  have e : hasL c k = (ble c.lo k && (c.hi == [] || Op.bytesLess k c.hi)) := rfl
  have e1 : ble c.lo k = !Op.bytesLess k c.lo := rfl
  have e2 : ble c.hi k = !Op.bytesLess k c.hi := rfl
  have e3 : inL (if c.lo = [] then [] else [xAd s ⟨[], c.lo⟩]) k = (hasL s k && Op.bytesLess k c.lo) := by
    split
    · next h => rw [h, xCC]; simp [inL]
    · next h => rw [xAU, xCE, xHD h, xFc]; simp [inL]
  have e4 : inL (if c.hi = [] then [] else [xAd s ⟨c.hi, []⟩]) k = (hasL s k && (!(c.hi == []) && !Op.bytesLess k c.hi)) := by
    split
    · next h => rw [h]; simp [inL]
    · next h => 
      have h9 : (c.hi == []) = false := by simpa using h
      rw [xAU, xCE, xGD, e2, h9]; simp [inL]
  rw [cutL, xCA, e3, e4, e, e1]
  cases hasL s k <;> cases Op.bytesLess k c.lo <;> cases (c.hi == []) <;> cases Op.bytesLess k c.hi <;> rfl
theorem xOL (l : List SpanL) (c : SpanL) (k : Str) : inL (xDb l c) k = (inL l k && !hasL c k) := by
  unfold xDb
  split
  · next h => rw [xAY h]; simp
  · rw [(xAp _).2, xI5]
    simp only [xON]
    induction l with
    | nil => rfl
    | cons g gs ih => rw [List.any_cons, ih, xAU]; cases hasL g k <;> cases inL gs k <;> cases hasL c k <;> rfl
theorem xL0 {l : List SpanL} (h : Nrm l) (c : SpanL) : Nrm (xDb l c) := by
  unfold xDb
  split
  · exact h
  · exact (xAp _).1
theorem xKB : ∀ (m l : List SpanL), Nrm l → Nrm (m.foldl xDb l) ∧ ∀ k, inL (m.foldl xDb l) k = (inL l k && !inL m k)
  | [], l, h => ⟨h, fun k => by simp [inL]⟩
  | c :: m, l, h => by
    obtain ⟨h1, h2⟩ := xKB m (xDb l c) (xL0 h c)
    refine ⟨h1, fun k => ?_⟩
    rw [List.foldl_cons, h2, xOL, xAU]
    cases inL l k <;> cases hasL c k <;> cases inL m k <;> rfl
theorem xGn (l m : List SpanL) : xAj l m = xGa l m := by
  obtain ⟨h1, h2⟩ := xKB m (xAP l) (xAp l).1
  refine Nrm.ext (xDx l m) h1 (fun k => ?_)
  rw [xBt]
  exact ((h2 k).trans (by rw [(xAp l).2])).symm
theorem xGF {α : Type} (f : α → List SpanL) (n : Nat) : ∀ (l : List α), (∀ a ∈ l, (f a).length ≤ n) → (l.flatMap f).length ≤ n * l.length
  | [], _ => by simp
  | a :: l, h => by
    rw [List.flatMap_cons, List.length_append, List.length_cons, Nat.mul_succ]
    have h1 := xGF f n l (fun b hb => h b (by simp [hb]))
    have h2 := h a (by simp)
    omega
theorem xL1 (s c : SpanL) : (cutL s c).length ≤ 2 := by
  unfold cutL
  split <;> split <;> simp
theorem cuts_len (l : List SpanL) (c : SpanL) : (xDb l c).length ≤ 2 * l.length := by
  unfold xDb
  split
  · omega
  · exact Nat.le_trans (xCk _) (xGF _ 2 l (fun s _ => xL1 s c))
theorem xJl (l m : List SpanL) : (xBz l m).length ≤ l.length * (m.length + 1) := by
  unfold xBz
  refine Nat.le_trans (xGF _ l.length _ (fun g _ => by simp)) (Nat.mul_le_mul_left _ ?_)
  have h1 := xHE (xAP m) [] []
  have h2 := xCk m
  simp only [List.length_nil] at h1
  omega
theorem xGh : ∀ (a b : List Str), a.Nodup → (∀ x ∈ a, x ∈ b) → a.length ≤ b.length
  | [], b, _, _ => by simp
  | x :: a, b, hn, hs => by
    obtain ⟨h1, h2⟩ := List.nodup_cons.1 hn
    have h3 := xGh a (b.erase x) h2 (fun y hy => by
      refine (List.mem_erase_of_ne ?_).2 (hs y (by simp [hy]))
      intro h; subst h; exact h1 hy)
    rw [List.length_erase_of_mem (hs x (by simp))] at h3
    have : 0 < b.length := List.length_pos_of_mem (hs x (by simp))
    rw [List.length_cons]
    omega
theorem xKk : ∀ {l : List SpanL}, Nrm l → (l.map SpanL.lo).Nodup
  | [], _ => by simp
  | s :: l, h => by
    rw [List.map_cons, List.nodup_cons]
    refine ⟨?_, xKk h.tail⟩
    intro hm
    obtain ⟨t, ht, hts⟩ := List.mem_map.1 hm
    obtain ⟨h1, h2⟩ := (List.pairwise_cons.1 h.pw).1 t ht
    have h3 := xAa (xA9 (h.ne s (by simp)) h1) (ble_iff.2 (.inl h2))
    rw [hts, xAm] at h3
    cases h3
theorem xH6 (a b : Str) : maxL a b = a ∨ maxL a b = b := by unfold maxL; split <;> simp
theorem xDy (l m : List SpanL) : (xAj l m).length ≤ l.length + m.length := by
  have h := xGh _ (l.map SpanL.lo ++ m.map SpanL.hi) (xKk (xDx l m)) ?_
  · simpa using h
  · intro x hx
    obtain ⟨t, ht, rfl⟩ := List.mem_map.1 hx
    obtain ⟨y, hy, hyt, hye⟩ := xEw ht
    rw [← hyt]
    obtain ⟨g, hg, hy⟩ := List.mem_flatMap.1 hy
    obtain ⟨s, hs, rfl⟩ := List.mem_map.1 hy
    have hm : (xAd g s).lo = maxL g.lo s.lo := by
      unfold xAd at hye ⊢
      split
      · next h => rw [if_pos h] at hye; exact absurd hye (by decide)
      · rfl
    rw [hm]
    have hsl : s.lo ∈ l.map SpanL.lo ++ m.map SpanL.hi := List.mem_append.2 (.inl (List.mem_map.2 ⟨s, hs, rfl⟩))
    rcases xGE _ _ _ g hg with h | h | ⟨z, hz, hzg⟩
    · cases h
    · rw [h]
      have : maxL [] s.lo = s.lo := by
        unfold maxL
        split
        · rfl
        · next h3 =>
          have h4 : ble s.lo [] = true := by simpa [ble] using h3
          rcases ble_iff.1 h4 with h5 | h5
          · rw [xCC] at h5; cases h5
          · exact h5.symm
      rw [this]
      exact hsl
    · rcases xH6 g.lo s.lo with h | h
      · rw [h, ← hzg]
        obtain ⟨w, hw, hwz⟩ := xIb hz
        exact List.mem_append.2 (.inr (List.mem_map.2 ⟨w, hw, hwz⟩))
      · rw [h]
        exact hsl
end Go.Pu
set_option linter.unusedVariables false
set_option linter.unusedSimpArgs false
namespace Go.Pu
structure MsgL where
  kind : Int
  key : Str
  val : Str
  sp : SpanL
  fr : Str
  to : Str
  n : Int
  deriving DecidableEq
def xAu (m : MsgL) : List SpanL :=
  if m.kind = 1 ∨ m.kind = 2 then [oneL m.key] else if m.kind = 4 then [xAE m.fr, xAE m.to] else if m.kind = 5 then [xAE m.to] else [m.sp]
def xDA (m : MsgL) : List SpanL := if m.kind = 4 ∨ m.kind = 5 then [xAE m.fr] else if m.kind = 6 then [m.sp] else []
def xDB (m : MsgL) : List SpanL := if m.kind = 6 then [] else xAu m
structure MsgOk (m : MsgL) : Prop where
  k : 1 ≤ m.kind ∧ m.kind ≤ 6
  ap : m.kind = 4 ∨ m.kind = 5 → xAD m.fr m.to = false ∧ xAD m.to m.fr = false
  ne : m.kind = 4 ∨ m.kind = 5 → m.fr ≠ [] ∧ m.to ≠ []
def bkL (m : MsgL) (k : Str) : Option Str :=
  if m.kind = 1 ∨ m.kind = 2 then (if m.key = k then none else some k) else
  if m.kind = 3 then (if hasL m.sp k = true then none else some k) else
  if m.kind = 6 then some k else
  if m.kind = 4 ∧ xAD k m.fr = true then none else
  if xAD k m.to = true then some (m.fr ++ k.drop m.to.length) else some k
def bksL : List MsgL → Str → Option Str
  | [], k => some k
  | m :: r, k => (bkL m k).bind (bksL r)
theorem bks_append (a b : List MsgL) (k : Str) : bksL (a ++ b) k = (bksL a k).bind (bksL b) := by
  induction a generalizing k with
  | nil => rfl
  | cons m a ih =>
    rw [List.cons_append, bksL, bksL]
    cases bkL m k with
    | none => rfl
    | some x => exact ih x
def xAt (f t : Str) (s : SpanL) : SpanL := ⟨t ++ s.lo.drop f.length, if xAD s.hi f = true ∧ s.hi ≠ [] then t ++ s.hi.drop f.length else upL t⟩
def xBI (m : MsgL) : List SpanL := xAE m.to :: (if m.kind = 4 then [xAE m.fr] else [])
def inTo (m : MsgL) (l : List SpanL) : List SpanL := (l.map fun x => xAd x (xAE m.to)).filter fun s => !xAI s
def xBU (l : List SpanL) (m : MsgL) : List SpanL :=
  if m.kind = 1 ∨ m.kind = 2 then xAj l [oneL m.key] else
  if m.kind = 3 then xAj l [m.sp] else
  if m.kind = 6 then l else
  xAP (xAj l (xBI m) ++ (inTo m l).map (xAt m.to m.fr))
def xBx (s : SpanL) (r : List MsgL) : List SpanL := r.foldl xBU (xAP [s])
theorem xHi : ∀ {p a x : Str}, Op.bytesLess (p ++ a) x = true → xAD x p = false → ∀ r, Op.bytesLess (p ++ r) x = true
  | [], a, x, h, hb, r => by simp [xAD] at hb
  | c :: p, a, [], h, hb, r => by simp [Op.bytesLess] at h
  | c :: p, a, d :: x, h, hb, r => by
    rw [List.cons_append, blt_cons] at h ⊢
    rcases h with h | ⟨rfl, h⟩
    · exact .inl h
    · refine .inr ⟨rfl, xHi h ?_ r⟩
      cases hx : xAD x p with
      | false => rfl
      | true =>
        obtain ⟨q, rfl⟩ := begins_iff.1 hx
        have : xAD (c :: (p ++ q)) (c :: p) = true := begins_iff.2 ⟨q, rfl⟩
        rw [this] at hb
        cases hb
theorem xBT (p r : Str) : xAD (p ++ r) p = true := begins_iff.2 ⟨r, rfl⟩
theorem begins_le {k p : Str} (h : xAD k p = true) : ble p k = true := by
  obtain ⟨r, rfl⟩ := begins_iff.1 h
  exact xC0 p r
theorem xH4 {f t : Str} (ht : t ≠ []) {s : SpanL} (hn : xAI s = false) (hs : ∀ k, hasL s k = true → xAD k f = true) (k : Str) :
    hasL (xAt f t s) k = true ↔ ∃ r, k = t ++ r ∧ hasL s (f ++ r) = true := by
  obtain ⟨a, ha⟩ := begins_iff.1 (hs _ (xDE hn))
  have hd : s.lo.drop f.length = a := by rw [ha]; simp
  by_cases hh : xAD s.hi f = true ∧ s.hi ≠ []
  · obtain ⟨b, hb⟩ := begins_iff.1 hh.1
    have hd2 : s.hi.drop f.length = b := by rw [hb]; simp
    have e : xAt f t s = ⟨t ++ a, t ++ b⟩ := by unfold xAt; rw [if_pos hh, hd, hd2]
    have hne : t ++ b ≠ [] := by simp [ht]
    rw [e, has_iff]
    simp only [hne, false_or]
    constructor
    · rintro ⟨h1, h2⟩
      have hk : xAD k t = true := by
        cases hk : xAD k t with
        | true => rfl
        | false =>
          exfalso
          rcases ble_iff.1 h1 with h3 | h3
          · have := xHi h3 hk b
            rw [xBj this] at h2
            cases h2
          · rw [← h3, xBT] at hk
            cases hk
      obtain ⟨r, rfl⟩ := begins_iff.1 hk
      refine ⟨r, rfl, has_iff.2 ⟨?_, .inr ?_⟩⟩
      · rw [ha, xC6]; rwa [xC6] at h1
      · rw [hb, xEA]; rwa [xEA] at h2
    · rintro ⟨r, rfl, h⟩
      obtain ⟨h1, h2⟩ := has_iff.1 h
      rw [ha, xC6] at h1
      have h2 := h2.resolve_left hh.2
      rw [hb, xEA] at h2
      exact ⟨by rwa [xC6], by rwa [xEA]⟩
  · have e : xAt f t s = ⟨t ++ a, upL t⟩ := by unfold xAt; rw [if_neg hh, hd]
    have hup : ∀ r, s.hi = [] ∨ Op.bytesLess (f ++ r) s.hi = true := by
      intro r
      by_cases h0 : s.hi = []
      · exact .inl h0
      · have hb : xAD s.hi f = false := by
          cases hb : xAD s.hi f with
          | false => rfl
          | true => exact (hh ⟨hb, h0⟩).elim
        have := xA9 hn h0
        rw [ha] at this
        exact .inr (xHi this hb r)
    have hp := xAX t k
    have e2 : xAE t = ⟨t, upL t⟩ := rfl
    rw [e, has_iff]
    constructor
    · rintro ⟨h1, h2⟩
      have h3 : hasL (xAE t) k = true := by rw [e2, has_iff]; exact ⟨xA3 (xC0 t a) h1, h2⟩
      rw [hp] at h3
      obtain ⟨r, rfl⟩ := begins_iff.1 h3
      refine ⟨r, rfl, has_iff.2 ⟨?_, hup r⟩⟩
      rw [ha, xC6]; rwa [xC6] at h1
    · rintro ⟨r, rfl, h⟩
      obtain ⟨h1, h2⟩ := has_iff.1 h
      rw [ha, xC6] at h1
      have h3 : hasL (xAE t) (t ++ r) = true := by rw [xAX]; exact xBT t r
      rw [e2, has_iff] at h3
      exact ⟨by rwa [xC6], h3.2⟩
theorem xG9 (m : MsgL) (l : List SpanL) (k : Str) (h : ∃ s ∈ inTo m l, hasL s k = true) : inL l k = true ∧ xAD k m.to = true := by
  obtain ⟨s, hs, hk⟩ := h
  unfold inTo at hs
  rw [List.mem_filter, List.mem_map] at hs
  obtain ⟨⟨x, hx, rfl⟩, _⟩ := hs
  rw [xCE, Bool.and_eq_true, xAX] at hk
  exact ⟨inL_iff.2 ⟨x, hx, hk.1⟩, hk.2⟩
theorem xPw (m : MsgL) (l : List SpanL) (k : Str) : (∃ s ∈ inTo m l, hasL s k = true) ↔ inL l k = true ∧ xAD k m.to = true := by
  refine ⟨xG9 m l k, ?_⟩
  rintro ⟨h1, h2⟩
  obtain ⟨x, hx, hk⟩ := inL_iff.1 h1
  have hm : hasL (xAd x (xAE m.to)) k = true := by rw [xCE, Bool.and_eq_true, xAX]; exact ⟨hk, h2⟩
  refine ⟨_, List.mem_filter.2 ⟨List.mem_map.2 ⟨x, hx, rfl⟩, ?_⟩, hm⟩
  cases he : xAI (xAd x (xAE m.to)) with
  | false => rfl
  | true => rw [xAY he] at hm; cases hm
theorem xG8 {m : MsgL} {l : List SpanL} {s : SpanL} (h : s ∈ inTo m l) : xAI s = false ∧ ∀ k, hasL s k = true → xAD k m.to = true := by
  refine ⟨?_, fun k hk => (xG9 m l k ⟨s, h, hk⟩).2⟩
  unfold inTo at h
  rw [List.mem_filter] at h
  simpa using h.2
theorem xN9 {m : MsgL} (hf : m.fr ≠ []) (l : List SpanL) (k : Str) : inL ((inTo m l).map (xAt m.to m.fr)) k = true ↔ ∃ r, k = m.fr ++ r ∧ inL l (m.to ++ r) = true := by
  rw [inL_iff]
  constructor
  · rintro ⟨x, hx, hk⟩
    obtain ⟨s, hs, rfl⟩ := List.mem_map.1 hx
    obtain ⟨h1, h2⟩ := xG8 hs
    obtain ⟨r, rfl, hr⟩ := (xH4 hf h1 h2 k).1 hk
    exact ⟨r, rfl, (xG9 m l _ ⟨s, hs, hr⟩).1⟩
  · rintro ⟨r, rfl, hr⟩
    obtain ⟨s, hs, hk⟩ := (xPw m l (m.to ++ r)).2 ⟨hr, xBT _ _⟩
    obtain ⟨h1, h2⟩ := xG8 hs
    exact ⟨_, List.mem_map.2 ⟨s, hs, rfl⟩, (xH4 hf h1 h2 _).2 ⟨r, rfl, hk⟩⟩
theorem xEu {l : List SpanL} (h : Nrm l) (m : MsgL) : Nrm (xBU l m) := by
  unfold xBU
  split
  · exact xDx _ _
  · split
    · exact xDx _ _
    · split
      · exact h
      · exact (xAp _).1
theorem xJJ {m : MsgL} (hm : MsgOk m) (l : List SpanL) (k : Str) : inL (xBU l m) k = true ↔ ∃ x, inL l x = true ∧ bkL m x = some k := by
  unfold xBU bkL
  by_cases h1 : m.kind = 1 ∨ m.kind = 2
  · simp only [if_pos h1]
    rw [xBt, xAU, xFM]
    simp only [inL, List.any_nil, Bool.or_false, Bool.and_eq_true, Bool.not_eq_true', beq_eq_false_iff_ne, ne_eq]
    constructor
    · rintro ⟨g1, g2⟩
      exact ⟨k, g1, by rw [if_neg fun e => g2 e.symm]⟩
    · rintro ⟨x, g1, g2⟩
      split at g2
      · cases g2
      · rename_i hx
        cases g2
        exact ⟨g1, fun e => hx e.symm⟩
  simp only [if_neg h1]
  by_cases h3 : m.kind = 3
  · simp only [if_pos h3]
    rw [xBt, xAU]
    simp only [inL, List.any_nil, Bool.or_false, Bool.and_eq_true, Bool.not_eq_true']
    constructor
    · rintro ⟨g1, g2⟩
      exact ⟨k, g1, by rw [if_neg (by rw [g2]; simp)]⟩
    · rintro ⟨x, g1, g2⟩
      split at g2
      · cases g2
      · rename_i hx
        cases g2
        exact ⟨g1, by simpa using hx⟩
  simp only [if_neg h3]
  by_cases h6 : m.kind = 6
  · simp only [if_pos h6]
    exact ⟨fun h => ⟨k, h, rfl⟩, fun ⟨x, h, e⟩ => by cases e; exact h⟩
  simp only [if_neg h6]
  have hk := hm.k
  have h45 : m.kind = 4 ∨ m.kind = 5 := by omega
  obtain ⟨ap1, ap2⟩ := hm.ap h45
  obtain ⟨ne1, ne2⟩ := hm.ne h45
  have both : ∀ x, xAD x m.fr = true → xAD x m.to = true → False := by
    intro x b1 b2
    obtain ⟨r, rfl⟩ := begins_iff.1 b1
    obtain ⟨q, hq⟩ := begins_iff.1 b2
    rcases Nat.le_total m.fr.length m.to.length with hlen | hlen
    · have : xAD m.to m.fr = true := begins_iff.2 ⟨m.to.drop m.fr.length, by
        have := congrArg (List.take m.fr.length) hq
        rw [List.take_left, List.take_append_of_le_length hlen] at this
        conv => lhs; rw [← List.take_append_drop m.fr.length m.to]
        rw [← this]⟩
      rw [this] at ap2; cases ap2
    · have : xAD m.fr m.to = true := begins_iff.2 ⟨m.fr.drop m.to.length, by
        have := congrArg (List.take m.to.length) hq
        rw [List.take_left, List.take_append_of_le_length hlen] at this
        conv => lhs; rw [← List.take_append_drop m.to.length m.fr]
        rw [this]⟩
      rw [this] at ap1; cases ap1
  rw [(xAp _).2, xCA, Bool.or_eq_true, xBt, xN9 ne1]
  have hg : inL (xBI m) k = (xAD k m.to || (decide (m.kind = 4) && xAD k m.fr)) := by
    unfold xBI
    rw [xAU, xAX]
    by_cases h4 : m.kind = 4
    · rw [if_pos h4, xAU, xAX]; simp [inL, h4]
    · rw [if_neg h4]; simp [inL, h4]
  rw [hg]
  simp only [Bool.and_eq_true, Bool.not_eq_true', Bool.or_eq_false_iff]
  constructor
  · rintro (⟨g1, g2, g3⟩ | ⟨r, rfl, g⟩)
    · refine ⟨k, g1, ?_⟩
      rw [if_neg (fun hc => by rw [hc.2, decide_eq_true hc.1] at g3; cases g3), if_neg (by rw [g2]; simp)]
    · refine ⟨m.to ++ r, g, ?_⟩
      rw [if_neg fun hc => both _ hc.2 (xBT _ _), if_pos (xBT _ _)]
      simp
  · rintro ⟨x, g1, g2⟩
    split at g2
    · cases g2
    · rename_i hc
      split at g2
      · rename_i hb
        obtain ⟨r, rfl⟩ := begins_iff.1 hb
        simp only [List.drop_left, Option.some.injEq] at g2
        exact .inr ⟨r, g2.symm, g1⟩
      · rename_i hb
        cases g2
        refine .inl ⟨g1, by simpa using hb, ?_⟩
        by_cases h4 : m.kind = 4
        · rw [decide_eq_true h4, Bool.true_and]
          cases hx : xAD k m.fr with
          | false => rfl
          | true => exact (hc ⟨h4, hx⟩).elim
        · rw [decide_eq_false h4]; rfl
theorem spans_nrm (s : SpanL) (r : List MsgL) : Nrm (xBx s r) := by
  unfold xBx
  have key : ∀ (r : List MsgL) (l : List SpanL), Nrm l → Nrm (r.foldl xBU l) := by
    intro r
    induction r with
    | nil => intro l h; exact h
    | cons m r ih => intro l h; exact ih _ (xEu h m)
  exact key r _ (xAp _).1
theorem xHr : ∀ (r : List MsgL) (l : List SpanL) (k : Str), (∀ m ∈ r, MsgOk m) → (inL (r.foldl xBU l) k = true ↔ ∃ x, inL l x = true ∧ bksL r x = some k)
  | [], l, k, _ => ⟨fun h => ⟨k, h, rfl⟩, fun ⟨x, h, e⟩ => by cases e; exact h⟩
  | m :: r, l, k, h => by
    rw [List.foldl_cons, xHr r _ k fun x hx => h x (by simp [hx])]
    constructor
    · rintro ⟨x, g1, g2⟩
      obtain ⟨y, g3, g4⟩ := (xJJ (h m (by simp)) l x).1 g1
      exact ⟨y, g3, by rw [bksL, g4]; exact g2⟩
    · rintro ⟨y, g1, g2⟩
      rw [bksL] at g2
      obtain ⟨x, g3, g4⟩ := Option.bind_eq_some_iff.1 g2
      exact ⟨x, (xJJ (h m (by simp)) l x).2 ⟨y, g1, g3⟩, g4⟩
theorem xMI (s : SpanL) {r : List MsgL} (h : ∀ m ∈ r, MsgOk m) (k : Str) : inL (xBx s r) k = true ↔ ∃ x, hasL s x = true ∧ bksL r x = some k := by
  unfold xBx
  rw [xHr r _ k h]
  have e : ∀ x, inL (xAP [s]) x = hasL s x := fun x => by rw [(xAp _).2]; simp [inL]
  simp only [e]
end Go.Pu
set_option linter.unusedVariables false
set_option linter.unusedSimpArgs false
namespace Go.Pu
theorem xK8 {x a b : Str} (b1 : xAD x a = true) (b2 : xAD x b = true) : xAD a b = true ∨ xAD b a = true := by
  obtain ⟨r, rfl⟩ := begins_iff.1 b1
  obtain ⟨q, hq⟩ := begins_iff.1 b2
  rcases Nat.le_total a.length b.length with hlen | hlen
  · refine .inr (begins_iff.2 ⟨b.drop a.length, ?_⟩)
    have := congrArg (List.take a.length) hq
    rw [List.take_left, List.take_append_of_le_length hlen] at this
    conv => lhs; rw [← List.take_append_drop a.length b]
    rw [← this]
  · refine .inl (begins_iff.2 ⟨a.drop b.length, ?_⟩)
    have := congrArg (List.take b.length) hq
    rw [List.take_left, List.take_append_of_le_length hlen] at this
    conv => lhs; rw [← List.take_append_drop b.length a]
    rw [this]
theorem bk_inj {m : MsgL} (hm : MsgOk m) (hc : m.kind ≠ 5) {a b k : Str} (ha : bkL m a = some k) (hb : bkL m b = some k) : a = b := by
  unfold bkL at ha hb
  by_cases h1 : m.kind = 1 ∨ m.kind = 2
  · rw [if_pos h1] at ha hb
    split at ha
    · cases ha
    · split at hb
      · cases hb
      · cases ha; cases hb; rfl
  rw [if_neg h1] at ha hb
  by_cases h3 : m.kind = 3
  · rw [if_pos h3] at ha hb
    split at ha
    · cases ha
    · split at hb
      · cases hb
      · cases ha; cases hb; rfl
  rw [if_neg h3] at ha hb
  by_cases h6 : m.kind = 6
  · rw [if_pos h6] at ha hb
    cases ha; cases hb; rfl
  rw [if_neg h6] at ha hb
  have hk := hm.k
  have h4 : m.kind = 4 := by omega
  simp only [h4, true_and] at ha hb
  split at ha
  · cases ha
  · rename_i na
    split at hb
    · cases hb
    · rename_i nb
      split at ha
      · rename_i ta
        obtain ⟨r, rfl⟩ := begins_iff.1 ta
        simp only [List.drop_left, Option.some.injEq] at ha
        split at hb
        · rename_i tb
          obtain ⟨q, rfl⟩ := begins_iff.1 tb
          simp only [List.drop_left, Option.some.injEq] at hb
          rw [← hb, List.append_cancel_left_eq] at ha
          rw [ha]
        · cases hb
          rw [← ha] at nb
          exact (nb (xBT _ _)).elim
      · cases ha
        split at hb
        · rename_i tb
          obtain ⟨q, rfl⟩ := begins_iff.1 tb
          simp only [List.drop_left, Option.some.injEq] at hb
          rw [← hb] at na
          exact (na (xBT _ _)).elim
        · cases hb; rfl
theorem xSA : ∀ {r : List MsgL}, (∀ m ∈ r, MsgOk m) → (∀ m ∈ r, m.kind ≠ 5) → ∀ {a b k : Str}, bksL r a = some k → bksL r b = some k → a = b
  | [], _, _, a, b, k, ha, hb => by cases ha; cases hb; rfl
  | m :: r, h, hc, a, b, k, ha, hb => by
    rw [bksL] at ha hb
    obtain ⟨x, g1, g2⟩ := Option.bind_eq_some_iff.1 ha
    obtain ⟨y, g3, g4⟩ := Option.bind_eq_some_iff.1 hb
    have := xSA (fun m hm => h m (by simp [hm])) (fun m hm => hc m (by simp [hm])) g2 g4
    subst this
    exact bk_inj (h m (by simp)) (hc m (by simp)) g1 g3
theorem xNv {l : List SpanL} (h : Nrm l) {b : List Str} (hb : ∀ s ∈ l, s.lo ∈ b) : l.length ≤ b.length := by
  have := xGh (l.map SpanL.lo) b (xKk h) (by
    intro x hx
    obtain ⟨s, hs, rfl⟩ := List.mem_map.1 hx
    exact hb s hs)
  simpa using this
theorem xKo {l g : List SpanL} {t : SpanL} (h : t ∈ xBz l g) : xAI t = false → (∃ x ∈ l, x.lo = t.lo) ∨ ∃ x ∈ g, x.hi = t.lo := by
  intro hne
  unfold xBz at h
  rw [List.mem_flatMap] at h
  obtain ⟨c, hc, ht⟩ := h
  obtain ⟨x, hx, rfl⟩ := List.mem_map.1 ht
  have hm : xAd c x = ⟨maxL c.lo x.lo, xB2 c.hi x.hi⟩ ∨ xAd c x = xHl := by unfold xAd; split <;> simp
  rcases hm with hm | hm
  · rw [hm]
    simp only
    rcases xH6 c.lo x.lo with e | e
    · rw [e]
      rcases xGE _ _ _ _ hc with h1 | h1 | ⟨y, hy, h1⟩
      · cases h1
      · rw [h1] at e ⊢
        left
        refine ⟨x, hx, ?_⟩
        have h2 : ble x.lo [] = true := by
          have := (xGt (a := c.lo) (b := x.lo) (k := maxL c.lo x.lo)).1 (xB4 _)
          rw [h1, e] at this
          exact this.2
        exact xEB h2 (xFc _)
      · right
        obtain ⟨z, hz, e2⟩ := xIb hy
        exact ⟨z, hz, by rw [e2, h1]⟩
    · rw [e]
      exact .inl ⟨x, hx, rfl⟩
  · rw [hm] at hne
    exact absurd hne (by decide)
theorem xPX {l g : List SpanL} {t : SpanL} (h : t ∈ xAj l g) : (∃ x ∈ l, x.lo = t.lo) ∨ ∃ x ∈ g, x.hi = t.lo := by
  unfold xAj at h
  obtain ⟨y, hy, e, hne⟩ := xEw h
  rw [← e]
  exact xKo hy hne
theorem xPV (f t : Str) (s : SpanL) : (xAt f t s).lo = t ++ s.lo.drop f.length := rfl
theorem xRj (a b : SpanL) : (xAd a b).lo = maxL a.lo b.lo ∨ xAd a b = xHl := by
  unfold xAd
  split
  · exact .inr rfl
  · exact .inl rfl
theorem xIX {m : MsgL} (hm : MsgOk m) {l : List SpanL} (h : Nrm l) : (xBU l m).length ≤ l.length + 3 := by
  have hn := xEu h m
  unfold xBU at hn ⊢
  split
  · have := xDy l [oneL m.key]
    simp at this
    omega
  · split
    · have := xDy l [m.sp]
      simp at this
      omega
    · split
      · omega
      · rename_i h1 h3 h6
        rw [if_neg h1, if_neg h3, if_neg h6] at hn
        have hk := hm.k
        have h45 : m.kind = 4 ∨ m.kind = 5 := by omega
        refine Nat.le_trans (xNv hn (b := (l.map fun x => if xAD x.lo m.to = true then m.fr ++ x.lo.drop m.to.length else x.lo) ++ [upL m.to, upL m.fr, m.fr]) ?_) (by simp)
        intro s hs
        obtain ⟨y, hy, e, hne⟩ := xEw hs
        rw [← e]
        rw [List.mem_append] at hy
        rcases hy with hy | hy
        · rcases xPX hy with ⟨x, hx, e1⟩ | ⟨x, hx, e1⟩
          · have hx2 : xAD y.lo m.to = false := by
              have h7 : inL (xAj l (xBI m)) y.lo = true := inL_iff.2 ⟨y, hy, xDE hne⟩
              rw [xBt, Bool.and_eq_true, xBI, xAU, xAX] at h7
              have h8 := h7.2
              simp only [Bool.not_eq_true', Bool.or_eq_false_iff] at h8
              exact h8.1
            rw [List.mem_append]
            left
            rw [List.mem_map]
            refine ⟨x, hx, ?_⟩
            rw [e1, if_neg (by rw [hx2]; simp)]
          · rw [List.mem_append]
            right
            rw [← e1]
            unfold xBI at hx
            split at hx
            · simp at hx
              rcases hx with rfl | rfl
              · simp [xAE]
              · simp [xAE]
            · simp at hx
              subst hx
              simp [xAE]
        · obtain ⟨s2, hs2, rfl⟩ := List.mem_map.1 hy
          obtain ⟨hne2, hbg⟩ := xG8 hs2
          have hb2 := hbg _ (xDE hne2)
          unfold inTo at hs2
          rw [List.mem_filter, List.mem_map] at hs2
          obtain ⟨⟨x, hx, rfl⟩, _⟩ := hs2
          rw [xPV, List.mem_append]
          rcases xRj x (xAE m.to) with e2 | e2
          · rw [e2] at hb2 ⊢
            rcases xH6 x.lo (xAE m.to).lo with e3 | e3
            · rw [e3] at hb2 ⊢
              left
              rw [List.mem_map]
              exact ⟨x, hx, by rw [if_pos hb2]⟩
            · rw [e3]
              right
              simp [xAE]
          · rw [e2] at hne2
            exact absurd hne2 (by decide)
theorem xJP (s : SpanL) {r : List MsgL} (h : ∀ m ∈ r, MsgOk m) : (xBx s r).length ≤ 1 + 3 * r.length := by
  unfold xBx
  have key : ∀ (r : List MsgL) (l : List SpanL), Nrm l → (∀ m ∈ r, MsgOk m) → (r.foldl xBU l).length ≤ l.length + 3 * r.length := by
    intro r
    induction r with
    | nil => intro l h _; simp
    | cons m r ih =>
      intro l hl h
      have h1 := ih _ (xEu hl m) fun x hx => h x (by simp [hx])
      have h2 := xIX (h m (by simp)) hl
      simp only [List.foldl_cons, List.length_cons]
      omega
  have h1 := key r _ (xAp [s]).1 h
  have h2 := xCk [s]
  simp only [List.length_cons, List.length_nil] at h2
  omega
end Go.Pu
set_option linter.unusedVariables false
set_option linter.unusedSimpArgs false
namespace Go.Pu
theorem xOK {l : List SpanL} (h : Nrm l) (c : SpanL) : (xDb l c).length ≤ l.length + 1 := by
  have hn := xL0 h c
  have : (xDb l c).length ≤ (l.map SpanL.lo ++ [c.hi]).length := xNv hn fun s hs => by
    unfold xDb at hs
    split at hs
    · exact List.mem_append.2 (.inl (List.mem_map.2 ⟨s, hs, rfl⟩))
    · obtain ⟨y, hy, e, hne⟩ := xEw hs
      rw [← e]
      obtain ⟨x, hx, hy⟩ := List.mem_flatMap.1 hy
      unfold cutL at hy
      have two : ∀ z : SpanL, y = xAd x z → (z.lo = [] ∨ z.lo = c.hi) → y.lo ∈ l.map SpanL.lo ++ [c.hi] := by
        rintro z rfl hz
        have hm : xAd x z = ⟨maxL x.lo z.lo, xB2 x.hi z.hi⟩ ∨ xAd x z = xHl := by unfold xAd; split <;> simp
        rcases hm with hm | hm
        · rw [hm]
          rcases xH6 x.lo z.lo with e2 | e2
          · simp only [e2]
            exact List.mem_append.2 (.inl (List.mem_map.2 ⟨x, hx, rfl⟩))
          · simp only [e2]
            rcases hz with hz | hz
            · rw [hz] at e2 ⊢
              have h2 : ble x.lo [] = true := by
                have := (xGt (a := x.lo) (b := []) (k := maxL x.lo [])).1 (xB4 _)
                rw [e2] at this
                exact this.1
              have h3 := xEB h2 (xFc _)
              exact List.mem_append.2 (.inl (List.mem_map.2 ⟨x, hx, h3⟩))
            · rw [hz]
              simp
        · rw [hm] at hne
          exact absurd hne (by decide)
      rw [List.mem_append] at hy
      rcases hy with hy | hy
      · split at hy
        · cases hy
        · exact two _ (List.mem_singleton.1 hy) (.inl rfl)
      · split at hy
        · cases hy
        · exact two _ (List.mem_singleton.1 hy) (.inr rfl)
  simpa using this
end Go.Pu
set_option linter.unusedVariables false
set_option linter.unusedSimpArgs false
namespace Go.Pu
theorem xLs : ∀ (l : List SpanL) (lo : Str) (out : List SpanL) (t : SpanL), t ∈ xCq lo l out → t ∈ out ∨ t.hi = [] ∨ ∃ x ∈ l, x.lo = t.hi
  | [], lo, out, t, h => by
    rw [xCq] at h
    rcases List.mem_append.1 h with h | h
    · exact .inl h
    · exact .inr (.inl (by rw [List.mem_singleton.1 h]))
  | s :: l, lo, out, t, h => by
    have h2 : t ∈ (if s.lo = [] then out else out ++ [⟨lo, s.lo⟩]) → t ∈ out ∨ s.lo = t.hi := by
      split
      · exact .inl
      · intro h
        rcases List.mem_append.1 h with h | h
        · exact .inl h
        · exact .inr (by rw [List.mem_singleton.1 h])
    rw [xCq] at h
    generalize (if s.lo = [] then out else out ++ [(⟨lo, s.lo⟩ : SpanL)]) = o2 at *
    split at h
    · rcases h2 h with h | h
      · exact .inl h
      · exact .inr (.inr ⟨s, by simp, h⟩)
    · rcases xLs l s.hi o2 t h with h | h | ⟨x, hx, hxt⟩
      · rcases h2 h with h | h
        · exact .inl h
        · exact .inr (.inr ⟨s, by simp, h⟩)
      · exact .inr (.inl h)
      · exact .inr (.inr ⟨x, by simp [hx], hxt⟩)
def SpLen (n : Nat) (l : List SpanL) : Prop := ∀ s ∈ l, s.lo.length ≤ n ∧ s.hi.length ≤ n
theorem SpLen.mono {n m : Nat} (h : n ≤ m) {l : List SpanL} (hl : SpLen n l) : SpLen m l := fun s hs => ⟨Nat.le_trans (hl s hs).1 h, Nat.le_trans (hl s hs).2 h⟩
theorem SpLen.app {n : Nat} {a b : List SpanL} (ha : SpLen n a) (hb : SpLen n b) : SpLen n (a ++ b) := fun s hs => (List.mem_append.1 hs).elim (ha s) (hb s)
theorem xCj {n : Nat} {l : List SpanL} (h : SpLen n l) : SpLen n (xAP l) := by
  intro s hs
  obtain ⟨x, hx, e, _⟩ := xEw hs
  obtain ⟨y, hy, e2⟩ := xIb hs
  rw [← e, ← e2]
  exact ⟨(h x hx).1, (h y hy).2⟩
theorem xPq (a b : Str) : xB2 a b = a ∨ xB2 a b = b := by unfold xB2; split <;> simp
theorem xEH {n : Nat} (hn : 1 ≤ n) {a b : SpanL} (ha : a.lo.length ≤ n ∧ a.hi.length ≤ n) (hb : b.lo.length ≤ n ∧ b.hi.length ≤ n) : (xAd a b).lo.length ≤ n ∧ (xAd a b).hi.length ≤ n := by
  unfold xAd
  split
  · exact ⟨hn, hn⟩
  · simp only
    constructor
    · rcases xH6 a.lo b.lo with e | e <;> rw [e]
      · exact ha.1
      · exact hb.1
    · rcases xPq a.hi b.hi with e | e <;> rw [e]
      · exact ha.2
      · exact hb.2
theorem xMf {n : Nat} {g : List SpanL} (hg : SpLen n g) : SpLen n (xCq [] (xAP g) []) := by
  have h := xCj hg
  intro s hs
  constructor
  · rcases xGE _ _ _ _ hs with h1 | h1 | ⟨x, hx, h1⟩
    · cases h1
    · rw [h1]; simp
    · rw [← h1]; exact (h x hx).2
  · rcases xLs _ _ _ _ hs with h1 | h1 | ⟨x, hx, h1⟩
    · cases h1
    · rw [h1]; simp
    · rw [← h1]; exact (h x hx).1
theorem xEg {n : Nat} (hn : 1 ≤ n) {l g : List SpanL} (hl : SpLen n l) (hg : SpLen n g) : SpLen n (xAj l g) := by
  unfold xAj
  refine xCj fun s hs => ?_
  unfold xBz at hs
  rw [List.mem_flatMap] at hs
  obtain ⟨c, hc, ht⟩ := hs
  obtain ⟨x, hx, rfl⟩ := List.mem_map.1 ht
  exact xEH hn (xMf hg c hc) (hl x hx)
structure MsgLen (b : Nat) (m : MsgL) : Prop where
  key : m.key.length ≤ b
  lo : m.sp.lo.length ≤ b
  hi : m.sp.hi.length ≤ b
  fr : m.fr.length ≤ b
  to : m.to.length ≤ b
theorem xBr {n : Nat} {p : Str} (h : p.length ≤ n) : (xAE p).lo.length ≤ n ∧ (xAE p).hi.length ≤ n := ⟨h, Nat.le_trans (xKS p) h⟩
theorem xMe {b : Nat} {m : MsgL} (hm : MsgLen b m) : SpLen b (xBI m) := by
  intro s hs
  unfold xBI at hs
  split at hs
  · simp at hs
    rcases hs with rfl | rfl
    · exact xBr hm.to
    · exact xBr hm.fr
  · simp at hs
    subst hs
    exact xBr hm.to
theorem xMc {n : Nat} (hn : 1 ≤ n) {l : List SpanL} (hl : SpLen n l) {m : MsgL} (hm : m.to.length ≤ n) : SpLen n (inTo m l) := by
  intro s hs
  unfold inTo at hs
  rw [List.mem_filter, List.mem_map] at hs
  obtain ⟨⟨x, hx, rfl⟩, _⟩ := hs
  exact xEH hn (hl x hx) (xBr hm)
theorem xJk {n b : Nat} {s : SpanL} (hs : s.lo.length ≤ n ∧ s.hi.length ≤ n) {f t : Str} (ht : t.length ≤ b) : (xAt f t s).lo.length ≤ n + b ∧ (xAt f t s).hi.length ≤ n + b := by
  unfold xAt
  simp only
  constructor
  · simp only [List.length_append, List.length_drop]; omega
  · split
    · simp only [List.length_append, List.length_drop]; omega
    · have := xKS t; omega
theorem xFG {n b : Nat} (hb : b + 1 ≤ n) {l : List SpanL} (hl : SpLen n l) {m : MsgL} (hm : MsgLen b m) : SpLen (n + b) (xBU l m) := by
  unfold xBU
  split
  · refine (xEg (by omega) hl ?_).mono (by omega)
    intro s hs
    simp at hs
    subst hs
    have := hm.key
    unfold oneL
    simp
    omega
  · split
    · refine (xEg (by omega) hl ?_).mono (by omega)
      intro s hs
      simp at hs
      subst hs
      have h1 := hm.lo
      have h2 := hm.hi
      omega
    · split
      · exact hl.mono (by omega)
      · refine xCj (SpLen.app ((xEg (by omega) hl ((xMe hm).mono (by omega))).mono (by omega)) ?_)
        intro s hs
        obtain ⟨x, hx, rfl⟩ := List.mem_map.1 hs
        exact xJk (xMc (by omega) hl (by have := hm.to; omega) x hx) hm.fr
theorem xKV {b : Nat} : ∀ (r : List MsgL) (n : Nat) (l : List SpanL), b + 1 ≤ n → SpLen n l → (∀ m ∈ r, MsgLen b m) → SpLen (n + b * r.length) (r.foldl xBU l)
  | [], n, l, _, h, _ => by simpa using h
  | m :: r, n, l, hb, h, hm => by
    have := xKV r (n + b) _ (by omega) (xFG hb h (hm m (by simp))) fun x hx => hm x (by simp [hx])
    rw [List.foldl_cons]
    refine this.mono ?_
    rw [List.length_cons, Nat.mul_add]
    omega
end Go.Pu
set_option linter.unusedVariables false
set_option linter.unusedSimpArgs false
namespace Go.Pu
structure RawM where
  a : Nat
  b : Nat
  c : Nat
  d : Nat
  e : Nat
  f : Nat
  deriving DecidableEq
def RawM.ok (r : RawM) : Prop := r.a < 256 ∧ r.b < 256 ∧ r.c < 256 ∧ r.d < 256 ∧ r.e < 256 ∧ r.f < 256
def paths5 : List Str := [[97, 47], [98, 47], [97, 47, 98, 47], [99, 47], [100, 47]]
def xAz (n : Nat) : Str := (paths5[n % 5]?).getD []
def ends5 : List Str := [[1], [2, 0, 0], [2, 0, 1], [2, 0, 2], [3, 120]]
def endM (n : Nat) : Str := (ends5[n % 5]?).getD []
def keyM (n : Nat) : Str := xAz (n % 4) ++ endM (n / 4)
def vals5 : List Str := [[], [120], [121, 121], [49, 50, 51, 52, 53, 54, 55, 56, 57, 48], [0, 255]]
def valM (n : Nat) : Str := (vals5[n % 5]?).getD []
def minS (a b : Str) : Str := if Op.bytesLess b a = true then b else a
def spM (x : RawM) : SpanL :=
  if x.e % 4 = 0 then xAE (xAz x.b) else
  if x.e % 16 = 1 then ⟨keyM x.b, []⟩ else
  if x.e % 16 = 5 then ⟨[], []⟩ else
  if keyM x.b = keyM x.d then oneL (keyM x.b) else ⟨minS (keyM x.b) (keyM x.d), maxL (keyM x.b) (keyM x.d)⟩
def toM (x : RawM) : Str :=
  if xAD (xAz x.b) (xAz x.d) = true ∨ xAD (xAz x.d) (xAz x.b) = true then (if xAz x.b = [100, 47] then [99, 47] else [100, 47]) else xAz x.d
def xAq (x : RawM) : MsgL :=
  if x.a % 6 = 0 then ⟨1, keyM x.b, valM x.c, ⟨[], []⟩, [], [], (x.f % 8 : Nat)⟩ else
  if x.a % 6 = 1 then ⟨2, keyM x.b, [], ⟨[], []⟩, [], [], 0⟩ else
  if x.a % 6 = 2 then ⟨3, [], [], spM x, [], [], 0⟩ else
  if x.a % 6 = 3 then ⟨4, [], [], ⟨[], []⟩, xAz x.b, toM x, 0⟩ else
  if x.a % 6 = 4 then ⟨5, [], [], ⟨[], []⟩, xAz x.b, toM x, 0⟩ else ⟨6, [], [], spM x, [], [], (x.f % 8 : Nat)⟩
def xE4 (l : List RawM) (n : Nat) : List MsgL := (l.take n).map xAq
theorem xCX (n : Nat) : xAz n ∈ paths5 := by
  unfold xAz paths5
  have : n % 5 < 5 := Nat.mod_lt _ (by omega)
  generalize n % 5 = m at this
  match m, this with
  | 0, _ => simp
  | 1, _ => simp
  | 2, _ => simp
  | 3, _ => simp
  | 4, _ => simp
theorem xOE (n : Nat) : endM n ∈ ends5 := by
  unfold endM ends5
  have : n % 5 < 5 := Nat.mod_lt _ (by omega)
  generalize n % 5 = m at this
  match m, this with
  | 0, _ => simp
  | 1, _ => simp
  | 2, _ => simp
  | 3, _ => simp
  | 4, _ => simp
theorem xCx {p : Str} (h : p ∈ paths5) : p.length ≤ 4 ∧ p ≠ [] := by
  have : ∀ p ∈ paths5, p.length ≤ 4 ∧ p ≠ [] := by decide
  exact this p h
theorem xIz (n : Nat) : (keyM n).length ≤ 7 := by
  have h1 := (xCx (xCX (n % 4))).1
  have h2 : ∀ p ∈ ends5, p.length ≤ 3 := by decide
  have h3 := h2 _ (xOE (n / 4))
  unfold keyM
  simp only [List.length_append]
  omega
theorem xQF (x : RawM) : toM x ∈ paths5 := by
  unfold toM
  split
  · split
    · decide
    · decide
  · exact xCX _
theorem xOs (x : RawM) : xAD (xAz x.b) (toM x) = false ∧ xAD (toM x) (xAz x.b) = false := by
  have key : ∀ p ∈ paths5, ∀ q ∈ paths5, xAD p (if xAD p q = true ∨ xAD q p = true then (if p = [100, 47] then [99, 47] else [100, 47]) else q) = false ∧ xAD (if xAD p q = true ∨ xAD q p = true then (if p = [100, 47] then [99, 47] else [100, 47]) else q) p = false := by decide
  exact key _ (xCX _) _ (xCX _)
theorem xOw (x : RawM) : xAI (spM x) = false := by
  unfold spM
  split
  · exact xCQ _
  · split
    · simp [xAI]
    · split
      · simp [xAI]
      · split
        · exact xEz _
        · rename_i h
          generalize keyM x.b = a at h
          generalize keyM x.d = b at h
          unfold minS maxL xAI
          simp only
          rcases xBn a b with h1 | h1 | h1
          · have h2 := xBj h1
            simp [h1, h2, (xCz h1).symm]
          · exact absurd h1 h
          · have h2 := xBj h1
            simp [h1, h2, (xCz h1).symm]
theorem xIu (x : RawM) : MsgOk (xAq x) := by
  have ha := xOs x
  have h1 := (xCx (xCX x.b)).2
  have h2 := (xCx (xQF x)).2
  unfold xAq
  repeat' split
  all_goals refine ⟨by simp, ?_, ?_⟩
  all_goals first | (intro h; exact ha) | (intro h; exact ⟨h1, h2⟩) | (intro h; simp at h)
theorem xJq (x : RawM) (h : (xAq x).kind = 3 ∨ (xAq x).kind = 6) : xAI (xAq x).sp = false := by
  have hs := xOw x
  unfold xAq at h ⊢
  repeat' split
  all_goals first | exact hs | simp_all
theorem xMY {a b : Str} {n : Nat} (ha : a.length ≤ n) (hb : b.length ≤ n) : (minS a b).length ≤ n ∧ (maxL a b).length ≤ n := by
  unfold minS maxL
  constructor <;> split <;> assumption
theorem xPm (x : RawM) : MsgLen 8 (xAq x) := by
  have h1 := (xCx (xCX x.b)).1
  have h2 := (xCx (xQF x)).1
  have h3 := xIz x.b
  have h4 := xIz x.d
  have h5 := xKS (xAz x.b)
  have h6 := xMY (n := 8) (a := keyM x.b) (b := keyM x.d) (by omega) (by omega)
  have hs : (spM x).lo.length ≤ 8 ∧ (spM x).hi.length ≤ 8 := by
    unfold spM
    repeat' split
    · exact ⟨by show (xAz x.b).length ≤ 8; omega, by show (upL (xAz x.b)).length ≤ 8; omega⟩
    · exact ⟨by simp only; omega, by simp⟩
    · simp
    · exact ⟨by show (keyM x.b).length ≤ 8; omega, by show (keyM x.b ++ [0]).length ≤ 8; simp; omega⟩
    · exact h6
  unfold xAq
  repeat' split
  all_goals (refine ⟨?_, ?_, ?_, ?_, ?_⟩ <;> simp only [List.length_nil] <;> omega)
theorem xRr {l : List RawM} {n : Nat} : ∀ m ∈ xE4 l n, MsgOk m := by
  intro m hm
  obtain ⟨x, _, rfl⟩ := List.mem_map.1 hm
  exact xIu x
theorem xPo {l : List RawM} {n : Nat} : ∀ m ∈ xE4 l n, MsgLen 8 m := by
  intro m hm
  obtain ⟨x, _, rfl⟩ := List.mem_map.1 hm
  exact xPm x
end Go.Pu
set_option linter.unusedVariables false
set_option linter.unusedSimpArgs false
namespace Go.Pu
def covL (m : MsgL) (d : List SpanL) : Bool := (xAj (xAu m) d).length == 0
def nxtL (m : MsgL) (d : List SpanL) : List SpanL := xAj (d ++ xDB m) (xDA m)
def xDC : List MsgL → List SpanL → List MsgL
  | [], _ => []
  | m :: r, d => if covL m d = true then xDC r d else m :: xDC r (nxtL m d)
def xOJ : List MsgL → List SpanL → List SpanL
  | [], d => d
  | m :: r, d => if covL m d = true then xOJ r d else xOJ r (nxtL m d)
def xKr (l : List MsgL) (dead : List SpanL) : List MsgL × List SpanL := ((xDC l.reverse (xAP dead)).reverse, xOJ l.reverse (xAP dead))
def xCP (l : List MsgL) : List MsgL := (xKr l []).1
theorem xJX : xAP [] = [] := rfl
theorem xMA (m : MsgL) : (xAu m).length ≤ 2 := by
  unfold xAu
  repeat' split
  all_goals simp
theorem xNz (m : MsgL) : (xDB m).length ≤ 2 := by unfold xDB; split; simp; exact xMA m
theorem xNP (m : MsgL) : (xDA m).length ≤ 1 := by
  unfold xDA
  repeat' split
  all_goals simp
theorem nxt_len (m : MsgL) (d : List SpanL) : (nxtL m d).length ≤ d.length + 3 := by
  have h1 := xDy (d ++ xDB m) (xDA m)
  have h2 := xNz m
  have h3 := xNP m
  unfold nxtL
  rw [List.length_append] at h1
  omega
theorem cov_iff {m : MsgL} {d : List SpanL} : covL m d = true ↔ ∀ k, inL (xAu m) k = true → inL d k = true := by
  unfold covL
  have e : ((xAj (xAu m) d).length == 0) = true ↔ xAj (xAu m) d = [] := by simp
  rw [e]
  constructor
  · intro h k hk
    have := xBt (xAu m) d k
    rw [h, hk] at this
    cases hd : inL d k with
    | true => rfl
    | false => rw [hd] at this; simp [inL] at this
  · intro h
    refine Nrm.ext (xDx _ _) ⟨by simp, by simp⟩ fun k => ?_
    rw [xBt]
    cases hw : inL (xAu m) k with
    | false => simp [inL]
    | true => rw [h k hw]; simp [inL]
theorem xE0 (m : MsgL) (d : List SpanL) (k : Str) : inL (nxtL m d) k = ((inL d k || inL (xDB m) k) && !inL (xDA m) k) := by
  unfold nxtL
  rw [xBt, xCA]
structure MsgW (m : MsgL) : Prop extends MsgOk m where
  w : ∃ k, inL (xAu m) k = true
theorem made_w (x : RawM) : MsgW (xAq x) := by
  refine ⟨xIu x, ?_⟩
  have hk := (xIu x).k
  unfold xAu
  split
  · exact ⟨(xAq x).key, by rw [xAU, xFM]; simp⟩
  · split
    · exact ⟨(xAq x).fr, by rw [xAU, xAX]; simp [begins_iff]⟩
    · split
      · exact ⟨(xAq x).to, by rw [xAU, xAX]; simp [begins_iff]⟩
      · have h := xJq x (by omega)
        exact ⟨(xAq x).sp.lo, by rw [xAU, xDE h]; rfl⟩
theorem xKl {m : MsgL} (h : MsgW m) : covL m [] = false := by
  cases hc : covL m [] with
  | false => rfl
  | true =>
    obtain ⟨k, hk⟩ := h.w
    have := cov_iff.1 hc k hk
    simp [inL] at this
theorem xI0 : ∀ (r : List MsgL) (d : List SpanL), (xDC r d).Sublist r
  | [], d => by simp [xDC]
  | m :: r, d => by
    rw [xDC]
    split
    · exact (xI0 r d).cons m
    · exact (xI0 r _).cons_cons m
theorem xG4 : ∀ (r : List MsgL) (d : List SpanL), xDC (xDC r d) d = xDC r d
  | [], d => rfl
  | m :: r, d => by
    rw [xDC]
    cases h : covL m d with
    | true => simp only [if_true]; exact xG4 r d
    | false =>
      simp only [Bool.false_eq_true, if_false]
      rw [xDC, h]
      simp only [Bool.false_eq_true, if_false]
      rw [xG4 r]
theorem xPB (l : List MsgL) : xCP (xCP l) = xCP l := by
  unfold xCP xKr
  simp only [List.reverse_reverse, xJX]
  rw [xG4]
theorem reduce_sub (l : List MsgL) : (xCP l).Sublist l := by
  have := (xI0 l.reverse (xAP [])).reverse
  rw [List.reverse_reverse] at this
  exact this
theorem xDT {l : List MsgL} {m : MsgL} (h : MsgW m) : xCP (l ++ [m]) = (xDC l.reverse (nxtL m [])).reverse ++ [m] := by
  unfold xCP xKr
  simp only [List.reverse_append, List.reverse_cons, List.reverse_nil, List.nil_append, List.singleton_append, xJX]
  rw [xDC, xKl h]
  simp
theorem xLo : ∀ (r : List MsgL) (d : List SpanL), (∀ k, inL d k = true) → xDC r d = []
  | [], d, _ => rfl
  | m :: r, d, h => by
    rw [xDC, if_pos (cov_iff.2 fun k _ => h k)]
    exact xLo r d h
def xCs : MsgL := ⟨3, [], [], ⟨[], []⟩, [], [], 0⟩
theorem xOH : MsgW xCs := ⟨⟨by simp [xCs], by simp [xCs], by simp [xCs]⟩, [], by simp [xAu, xCs, inL, hasL, xAm]⟩
theorem xOl (l : List MsgL) : xCP (l ++ [xCs]) = [xCs] := by
  rw [xDT xOH, xLo]
  · rfl
  · intro k
    rw [xE0]
    have h1 : inL (xDB xCs) k = true := by simp [xDB, xAu, xCs, inL, hasL, xCC]
    have h2 : inL (xDA xCs) k = false := by simp [xDA, xCs, inL]
    rw [h1, h2]
    simp
theorem xQM {l : List MsgL} {m : MsgL} (h : MsgW m) (hk : m.kind = 1 ∨ m.kind = 2 ∨ m.kind = 3) : xCP (l ++ [m, m]) = xCP (l ++ [m]) := by
  have e : l ++ [m, m] = (l ++ [m]) ++ [m] := by simp
  rw [e, xDT h, xDT h]
  congr 1
  rw [List.reverse_append]
  simp only [List.reverse_cons, List.reverse_nil, List.nil_append, List.singleton_append]
  rw [xDC, if_pos]
  refine cov_iff.2 fun k hw => ?_
  rw [xE0]
  have h1 : xDB m = xAu m := by unfold xDB; rw [if_neg (by omega)]
  have h2 : xDA m = [] := by unfold xDA; rw [if_neg (by omega), if_neg (by omega)]
  rw [h1, h2, hw]
  simp [inL]
def xJB (s d : SpanL) : Bool := !Op.bytesLess s.lo d.lo && (d.hi == [] || (!(s.hi == []) && (Op.bytesLess s.hi d.hi || s.hi == d.hi)))
def xGG (m d : MsgL) : Bool := (xAu m).all fun s => xJB s d.sp
theorem xFu {s d : SpanL} (hs : xAI s = false) : xJB s d = true ↔ ∀ k, hasL s k = true → hasL d k = true := by
  unfold xJB
  simp only [Bool.and_eq_true, Bool.not_eq_true', Bool.or_eq_true, beq_iff_eq, beq_eq_false_iff_ne, ne_eq]
  constructor
  · rintro ⟨h1, h2⟩ k hk
    obtain ⟨g1, g2⟩ := has_iff.1 hk
    have h3 : ble d.lo s.lo = true := by simp [ble, h1]
    refine has_iff.2 ⟨xA3 h3 g1, ?_⟩
    rcases h2 with h2 | ⟨h2, h4⟩
    · exact .inl h2
    · have g2 := g2.resolve_left h2
      rcases h4 with h4 | h4
      · exact .inr (xAk g2 h4)
      · rw [← h4]; exact .inr g2
  · intro h
    have h1 := (has_iff.1 (h _ (xDE hs))).1
    refine ⟨by simpa [ble] using h1, ?_⟩
    by_cases hd : d.hi = []
    · exact .inl hd
    · refine .inr ?_
      have no : ∀ k, ble d.hi k = true → hasL d k = false := by
        intro k hk
        cases hh : hasL d k with
        | false => rfl
        | true =>
          have := (has_iff.1 hh).2.resolve_left hd
          simp [ble, this] at hk
      have hm : ble d.hi (maxL s.lo d.hi) = true := by
        have := (xGt (a := s.lo) (b := d.hi) (k := maxL s.lo d.hi)).1 (xB4 _)
        exact this.2
      have hm1 : ble s.lo (maxL s.lo d.hi) = true := by
        have := (xGt (a := s.lo) (b := d.hi) (k := maxL s.lo d.hi)).1 (xB4 _)
        exact this.1
      by_cases hsh : s.hi = []
      · have := h (maxL s.lo d.hi) (has_iff.2 ⟨hm1, .inl hsh⟩)
        rw [no _ hm] at this
        cases this
      · refine ⟨hsh, ?_⟩
        rcases xBn s.hi d.hi with h4 | h4 | h4
        · exact .inl h4
        · exact .inr h4
        · have h5 : Op.bytesLess (maxL s.lo d.hi) s.hi = true := by
            rcases xH6 s.lo d.hi with e | e <;> rw [e]
            · exact xA9 hs hsh
            · exact h4
          have := h (maxL s.lo d.hi) (has_iff.2 ⟨hm1, .inr h5⟩)
          rw [no _ hm] at this
          cases this
theorem xGK (x : RawM) : ∀ s ∈ xAu (xAq x), xAI s = false := by
  intro s hs
  have hk := (xIu x).k
  unfold xAu at hs
  split at hs
  · rw [List.mem_singleton.1 hs]; exact xEz _
  · split at hs
    · simp only [List.mem_cons, List.not_mem_nil, or_false] at hs
      rcases hs with rfl | rfl <;> exact xCQ _
    · split at hs
      · rw [List.mem_singleton.1 hs]; exact xCQ _
      · rw [List.mem_singleton.1 hs]; exact xJq x (by omega)
theorem xR4 (x y : RawM) (hy : (xAq y).kind = 3) : ((xCP [xAq x, xAq y]).length == 1) = xGG (xAq x) (xAq y) := by
  have e : ([xAq x, xAq y] : List MsgL) = [xAq x] ++ [xAq y] := rfl
  rw [e, xDT (made_w y)]
  have hw : xAu (xAq y) = [(xAq y).sp] := by unfold xAu; rw [if_neg (by omega), if_neg (by omega), if_neg (by omega)]
  have hkl : xDB (xAq y) = [(xAq y).sp] := by unfold xDB; rw [if_neg (by omega), hw]
  have hrd : xDA (xAq y) = [] := by unfold xDA; rw [if_neg (by omega), if_neg (by omega)]
  have hd : ∀ k, inL (nxtL (xAq y) []) k = hasL (xAq y).sp k := by
    intro k
    rw [xE0, hkl, hrd]
    simp [inL]
  have hc : covL (xAq x) (nxtL (xAq y) []) = xGG (xAq x) (xAq y) := by
    rw [Bool.eq_iff_iff, cov_iff]
    unfold xGG
    rw [List.all_eq_true]
    constructor
    · intro h s hs
      refine (xFu (xGK x s hs)).2 fun k hk => ?_
      rw [← hd]
      exact h k (inL_iff.2 ⟨s, hs, hk⟩)
    · intro h k hk
      obtain ⟨s, hs, hk⟩ := inL_iff.1 hk
      rw [hd]
      exact (xFu (xGK x s hs)).1 (h s hs) k hk
  simp only [List.reverse_cons, List.reverse_nil, List.nil_append]
  rw [xDC, hc]
  cases xGG (xAq x) (xAq y) <;> simp [xDC]
end Go.Pu
set_option linter.unusedVariables false
set_option linter.unusedSimpArgs false
namespace Go.Pu
def xEy (s : SpanL) : Str → List Str → List SpanL
  | lo, [] => [xAd s ⟨lo, []⟩]
  | lo, p :: l => xAd s ⟨lo, p⟩ :: xEy s p l
theorem xMW (s : SpanL) : ∀ (lo : Str) (l : List Str), (xEy s lo l).length = l.length + 1
  | _, [] => rfl
  | _, p :: l => by rw [xEy, List.length_cons, xMW s p l, List.length_cons]
def xAf (x : Str) : List Str → List Str → Bool → List Str × Bool
  | [], nx, d => (nx, d)
  | y :: l, nx, d =>
    if d = false ∧ (Op.bytesLess x y || x == y) = true then xAf x l ((if Op.bytesLess x y = true then nx ++ [x] else nx) ++ [y]) true
    else xAf x l (nx ++ [y]) d
def xDs (out : List Str) (x : Str) : List Str :=
  let r := xAf x out [] (x == [])
  if r.2 = false then r.1 ++ [x] else r.1
def pivL (l : List Str) : List Str := l.foldl xDs []
theorem xDt (x : Str) : ∀ (l nx : List Str) (d : Bool), (xAf x l nx d).1.length ≤ nx.length + l.length + (if d = true then 0 else if (xAf x l nx d).2 = true then 1 else 0)
  | [], nx, d => by simp [xAf]
  | y :: l, nx, d => by
    unfold xAf
    split
    · rename_i h
      have := xDt x l ((if Op.bytesLess x y = true then nx ++ [x] else nx) ++ [y]) true
      have h2 : (xAf x l ((if Op.bytesLess x y = true then nx ++ [x] else nx) ++ [y]) true).2 = true := by
        have key : ∀ (l nx : List Str), (xAf x l nx true).2 = true := by
          intro l
          induction l with
          | nil => intro nx; rfl
          | cons z l ih => intro nx; unfold xAf; rw [if_neg (by simp)]; exact ih _
        exact key _ _
      rw [h2, h.1]
      simp only [if_true, List.length_append, List.length_cons, List.length_nil] at this ⊢
      split at this <;> simp_all <;> omega
    · have := xDt x l (nx ++ [y]) d
      simp only [List.length_append, List.length_cons, List.length_nil] at this ⊢
      omega
theorem xKf (out : List Str) (x : Str) : (xDs out x).length ≤ out.length + 1 := by
  have := xDt x out [] (x == [])
  unfold xDs
  generalize (x == []) = d0 at this
  generalize xAf x out [] d0 = r at this
  obtain ⟨r1, r2⟩ := r
  simp only [List.length_nil] at this ⊢
  cases r2 <;> cases d0 <;> simp at this ⊢ <;> omega
def Asc (l : List Str) : Prop := (∀ x ∈ l, x ≠ []) ∧ l.Pairwise (fun a b => Op.bytesLess a b = true)
theorem xCW (x : Str) : ∀ (l nx : List Str), xAf x l nx true = (nx ++ l, true)
  | [], nx => by simp [xAf]
  | y :: l, nx => by rw [xAf, if_neg (by simp), xCW x l]; simp
def putP (x : Str) : List Str → List Str
  | [] => [x]
  | y :: l => if Op.bytesLess x y = true then x :: y :: l else if x = y then y :: l else y :: putP x l
theorem xES (x : Str) : ∀ (l nx : List Str), (if (xAf x l nx false).2 = false then (xAf x l nx false).1 ++ [x] else (xAf x l nx false).1) = nx ++ putP x l
  | [], nx => by simp [xAf, putP]
  | y :: l, nx => by
    have e : xAf x (y :: l) nx false = if false = false ∧ (Op.bytesLess x y || x == y) = true then xAf x l ((if Op.bytesLess x y = true then nx ++ [x] else nx) ++ [y]) true else xAf x l (nx ++ [y]) false := by rw [xAf]
    by_cases h : Op.bytesLess x y = true
    · have e2 : xAf x (y :: l) nx false = (nx ++ x :: y :: l, true) := by
        rw [e, if_pos ⟨rfl, by rw [h]; rfl⟩, if_pos h, xCW]; simp
      rw [e2, putP, if_pos h]
      simp
    · by_cases h2 : x = y
      · have e2 : xAf x (y :: l) nx false = (nx ++ y :: l, true) := by
          rw [e, if_pos ⟨rfl, by simp [h2]⟩, if_neg h, xCW]; simp
        rw [e2, putP, if_neg h, if_pos h2]
        simp
      · have e2 : xAf x (y :: l) nx false = xAf x l (nx ++ [y]) false := by
          rw [e, if_neg (by simp [h, h2])]
        rw [e2, xES x l, putP, if_neg h, if_neg h2]
        simp
theorem xMV (out : List Str) (x : Str) : xDs out x = if x = [] then out else putP x out := by
  unfold xDs
  by_cases h : x = []
  · have : (x == []) = true := by simpa using h
    rw [this, xCW, if_pos h]
    simp
  · have : (x == []) = false := by simpa using h
    rw [this, if_neg h]
    exact xES x out []
theorem xLP {x z : Str} : ∀ {l : List Str}, z ∈ putP x l → z = x ∨ z ∈ l
  | [], h => .inl (by simpa [putP] using h)
  | y :: l, h => by
    rw [putP] at h
    split at h
    · simpa using h
    · split at h
      · exact .inr h
      · rcases List.mem_cons.1 h with h | h
        · exact .inr (by simp [h])
        · rcases xLP h with h | h
          · exact .inl h
          · exact .inr (by simp [h])
theorem xLQ {x : Str} (hx : x ≠ []) : ∀ {l : List Str}, Asc l → Asc (putP x l)
  | [], _ => ⟨by simp [putP, hx], by simp [putP]⟩
  | y :: l, ⟨h1, h2⟩ => by
    rw [putP]
    obtain ⟨h3, h4⟩ := List.pairwise_cons.1 h2
    split
    · next h =>
      refine ⟨?_, List.pairwise_cons.2 ⟨?_, h2⟩⟩
      · intro z hz
        rcases List.mem_cons.1 hz with rfl | hz
        · exact hx
        · exact h1 z hz
      · intro z hz
        rcases List.mem_cons.1 hz with rfl | hz
        · exact h
        · exact xAk h (h3 z hz)
    · split
      · exact ⟨h1, h2⟩
      · next h h5 =>
        have hyx : Op.bytesLess y x = true := by
          rcases xBn x y with h6 | h6 | h6
          · exact absurd h6 h
          · exact absurd h6 h5
          · exact h6
        obtain ⟨h6, h7⟩ := xLQ hx (l := l) ⟨fun z hz => h1 z (by simp [hz]), h4⟩
        refine ⟨?_, List.pairwise_cons.2 ⟨?_, h7⟩⟩
        · intro z hz
          rcases List.mem_cons.1 hz with rfl | hz
          · exact h1 _ (by simp)
          · exact h6 z hz
        · intro z hz
          rcases xLP hz with rfl | hz
          · exact hyx
          · exact h3 z hz
theorem xFm : ∀ (l o : List Str), Asc o → Asc (l.foldl xDs o)
  | [], o, h => h
  | x :: l, o, h => by
    rw [List.foldl_cons]
    refine xFm l _ ?_
    rw [xMV]
    split
    · exact h
    · next hx => exact xLQ hx h
theorem pivL_asc (l : List Str) : Asc (pivL l) := xFm l [] ⟨by simp, by simp⟩
theorem xFl : ∀ (l o : List Str), (l.foldl xDs o).length ≤ o.length + l.length
  | [], o => by simp
  | x :: l, o => by
    rw [List.foldl_cons, List.length_cons]
    have h1 := xFl l (xDs o x)
    have h2 := xKf o x
    omega
theorem pivL_len (l : List Str) : (pivL l).length ≤ l.length := by
  have := xFl l []
  simpa [pivL] using this
def atL (key : Str) : List Str → Nat
  | [] => 0
  | p :: l => if ble p key = true then atL key l + 1 else 0
theorem atL_le (key : Str) : ∀ l : List Str, atL key l ≤ l.length
  | [] => Nat.le_refl _
  | p :: l => by
    have := atL_le key l
    rw [atL, List.length_cons]
    split <;> omega
theorem xSB (key : Str) : ∀ (l : List Str) (i : Nat) (p : Str), l[i]? = some p → i ≤ atL key l → (ble p key = true ↔ i < atL key l)
  | [], i, p, h, _ => by simp at h
  | q :: l, i, p, h, hi => by
    rw [atL] at hi ⊢
    cases i with
    | zero =>
      obtain rfl : q = p := by simpa using h
      split
      · next h2 => simp [h2]
      · next h2 => simp [h2]
    | succ i =>
      split at hi
      · next h2 =>
        rw [if_pos h2]
        have := xSB key l i p (by simpa using h) (by omega)
        rw [this]
        omega
      · omega
theorem xNY (s : SpanL) (key : Str) : ∀ (l : List Str) (lo : Str) (k : Nat) (t : SpanL), Asc l → (∀ p ∈ l, ble lo p = true) → (xEy s lo l)[k]? = some t →
    hasL t key = (ble lo key && (decide (k = atL key l) && hasL s key))
  | [], lo, k, t, _, _, h => by
    rw [xEy] at h
    have hk : k = 0 := by
      have := (List.getElem?_eq_some_iff.1 h).1
      simp at this
      omega
    subst hk
    obtain rfl : xAd s ⟨lo, []⟩ = t := by simpa using h
    rw [xCE, xGD, atL]
    cases hasL s key <;> simp
  | p :: l, lo, k, t, ha, hlo, h => by
    rw [xEy] at h
    obtain ⟨h3, h4⟩ := List.pairwise_cons.1 ha.2
    cases k with
    | zero =>
      obtain rfl : xAd s ⟨lo, p⟩ = t := by simpa using h
      rw [xCE, xHD (ha.1 p (by simp)), atL]
      have e : ble p key = !Op.bytesLess key p := rfl
      rw [e]
      cases Op.bytesLess key p <;> cases hasL s key <;> simp
    | succ k =>
      rw [xNY s key l p k t ⟨fun z hz => ha.1 z (by simp [hz]), h4⟩ (fun z hz => ble_iff.2 (.inl (h3 z hz))) (by simpa using h), atL]
      cases h5 : ble p key with
      | true =>
        have h6 : ble lo key = true := xA3 (hlo p (by simp)) h5
        simp [h6]
      | false => simp
theorem xPH (s : SpanL) (key : Str) : ∀ (l : List Str) (lo : Str), Asc l → (∀ p ∈ l, ble lo p = true) → inL (xEy s lo l) key = (ble lo key && hasL s key)
  | [], lo, _, _ => by
    rw [xEy, xAU, xCE, xGD]
    cases hasL s key <;> simp [inL]
  | p :: l, lo, ha, hlo => by
    obtain ⟨h3, h4⟩ := List.pairwise_cons.1 ha.2
    rw [xEy, xAU, xCE, xHD (ha.1 p (by simp)), xPH s key l p ⟨fun z hz => ha.1 z (by simp [hz]), h4⟩ (fun z hz => ble_iff.2 (.inl (h3 z hz)))]
    have e : ble p key = !Op.bytesLess key p := rfl
    cases h5 : Op.bytesLess key p with
    | true => rw [e, h5]; cases hasL s key <;> simp
    | false =>
      have h6 : ble lo key = true := xA3 (hlo p (by simp)) (by rw [e, h5]; rfl)
      rw [e, h5, h6]
      cases hasL s key <;> simp
def lbS (l : List Str) (k : Str) : Nat := (l.takeWhile (fun p => Op.bytesLess p k)).length
def fdS (l : List Str) (k : Str) : Bool := match l[lbS l k]? with | some p => p == k | none => false
theorem xIy (p : Str) (t : List Str) (k : Str) : lbS (p :: t) k = if Op.bytesLess p k = true then lbS t k + 1 else 0 := by
  unfold lbS
  rw [List.takeWhile_cons]
  split <;> simp [*]
theorem lbS_le (k : Str) : ∀ t : List Str, lbS t k ≤ t.length
  | [] => Nat.le_refl _
  | p :: t => by
    have := lbS_le k t
    rw [xIy, List.length_cons]
    split <;> omega
theorem lbS_get {t : List Str} (h : t.Pairwise (fun a b => Op.bytesLess a b = true)) (k : Str) : ∀ {m : Nat} {p : Str}, t[m]? = some p → (Op.bytesLess p k = true ↔ m < lbS t k) := by
  induction t with
  | nil => intro m p hp; simp at hp
  | cons x t ih =>
    intro m p hp
    obtain ⟨hx0, ht⟩ := List.pairwise_cons.1 h
    rw [xIy]
    cases m with
    | zero =>
      obtain rfl : x = p := by simpa using hp
      split <;> simp [*]
    | succ m =>
      have hp' : t[m]? = some p := by simpa using hp
      split
      · rw [ih ht hp']; omega
      · next hx =>
        have hmem : p ∈ t := List.mem_of_getElem? hp'
        constructor
        · intro h2
          exact absurd (xAk (hx0 p hmem) h2) hx
        · intro h2; omega
theorem kid_eq (k : Str) : ∀ {t : List Str}, t.Pairwise (fun a b => Op.bytesLess a b = true) → lbS t k + (if fdS t k = true then 1 else 0) = atL k t
  | [], _ => rfl
  | x :: t, h => by
    obtain ⟨hx0, ht⟩ := List.pairwise_cons.1 h
    have ih := kid_eq k ht
    unfold fdS at ih ⊢
    rw [xIy, atL]
    by_cases hx : Op.bytesLess x k = true
    · rw [if_pos hx, if_pos (ble_iff.2 (.inl hx)), List.getElem?_cons_succ]
      omega
    · rw [if_neg hx, List.getElem?_cons_zero]
      by_cases he : x = k
      · subst he
        have : atL x t = 0 := by
          cases t with
          | nil => rfl
          | cons y t =>
            rw [atL, if_neg]
            have h1 := hx0 y (by simp)
            intro h2
            have := xDK h2 h1
            rw [xAm] at this
            cases this
        simp [xB4, this]
      · have h1 : ble x k = false := by
          cases hb : ble x k with
          | false => rfl
          | true => rcases ble_iff.1 hb with h2 | h2
                    · exact absurd h2 hx
                    · exact absurd h2 he
        simp [he, h1]
theorem xQC {a b : Str} (h : ble a b = true) : ∀ l : List Str, atL a l ≤ atL b l
  | [] => Nat.le_refl _
  | p :: l => by
    rw [atL, atL]
    split
    · next h2 =>
      rw [if_pos (xA3 h2 h)]
      have := xQC h l
      omega
    · exact Nat.zero_le _
end Go.Pu
set_option linter.unusedVariables false
namespace Go.Pu
def xAM (t : List PairL) (k : Str) : Option PairL := t.find? (fun p => p.key == k)
theorem xAH (p : PairL) (t : List PairL) (k : Str) : xAM (p :: t) k = if p.key = k then some p else xAM t k := by
  unfold xAM
  rw [List.find?_cons]
  by_cases h : p.key = k
  · have : (p.key == k) = true := by simpa using h
    rw [if_pos h, this]
  · have : (p.key == k) = false := by simpa using h
    rw [if_neg h, this]
theorem xBR {t : List PairL} {k : Str} {p : PairL} (h : xAM t k = some p) : p.key = k := by
  have := List.find?_some h
  simpa using this
theorem xJ7 {t : List PairL} {k : Str} {p : PairL} (h : xAM t k = some p) : p ∈ t := List.mem_of_find?_eq_some h
theorem findP_none {t : List PairL} {k : Str} : xAM t k = none ↔ ∀ p ∈ t, p.key ≠ k := by simp [xAM]
theorem Srt.tail {p : PairL} {t : List PairL} (h : Srt (p :: t)) : Srt t := (List.pairwise_cons.1 h).2
theorem Srt.head {p : PairL} {t : List PairL} (h : Srt (p :: t)) {x : PairL} (hx : x ∈ t) : Op.bytesLess p.key x.key = true := (List.pairwise_cons.1 h).1 x hx
theorem Srt.find {t : List PairL} (h : Srt t) {p : PairL} (hp : p ∈ t) : xAM t p.key = some p := by
  induction t with
  | nil => cases hp
  | cons x t ih =>
    rw [xAH]
    rcases List.mem_cons.1 hp with rfl | hp
    · rw [if_pos rfl]
    · rw [if_neg (xCz (h.head hp)), ih h.tail hp]
theorem Srt.below {p : PairL} {t : List PairL} (h : Srt (p :: t)) {k : Str} (hk : ble k p.key = true) : xAM t k = none := by
  refine findP_none.2 (fun x hx e => ?_)
  have h1 := xDK hk (h.head hx)
  rw [e, xAm] at h1
  cases h1
theorem Srt.ext : ∀ {a b : List PairL}, Srt a → Srt b → (∀ k, xAM a k = xAM b k) → a = b
  | [], [], _, _, _ => rfl
  | [], y :: b, _, _, h => by
    have := h y.key
    rw [xAH, if_pos rfl] at this
    cases this
  | x :: a, [], _, _, h => by
    have := h x.key
    rw [xAH, if_pos rfl] at this
    cases this
  | x :: a, y :: b, ha, hb, h => by
    have hxy : x = y := by
      rcases xBn x.key y.key with h1 | h1 | h1
      · have h2 := h x.key
        rw [xAH, if_pos rfl, xAH, if_neg (fun e => xCz h1 e.symm), hb.below (ble_iff.2 (.inl h1))] at h2
        cases h2
      · have h2 := h x.key
        rw [xAH, if_pos rfl, xAH, if_pos h1.symm] at h2
        exact Option.some.inj h2
      · have h2 := h y.key
        rw [xAH, if_neg (fun e => xCz h1 e.symm), ha.below (ble_iff.2 (.inl h1)), xAH, if_pos rfl] at h2
        cases h2
    subst hxy
    rw [Srt.ext ha.tail hb.tail (fun k => ?_)]
    have h2 := h k
    by_cases hk : x.key = k
    · rw [ha.below (by rw [hk]; exact xB4 k), hb.below (by rw [hk]; exact xB4 k)]
    · rw [xAH, if_neg hk, xAH, if_neg hk] at h2
      exact h2
theorem srt_nil : Srt [] := List.Pairwise.nil
def xA0 : List PairL → List PairL → List PairL
  | [], b => b
  | x :: a, [] => x :: a
  | x :: a, y :: b => if Op.bytesLess x.key y.key = true then x :: xA0 a (y :: b) else if x.key = y.key then y :: xA0 a b else y :: xA0 (x :: a) b
termination_by a b => a.length + b.length
theorem xDl (a : List PairL) : xA0 a [] = a := by cases a <;> simp [xA0]
theorem xDw (b : List PairL) : xA0 [] b = b := by simp [xA0]
theorem xC7 (x y : PairL) (a b : List PairL) : xA0 (x :: a) (y :: b) = if Op.bytesLess x.key y.key = true then x :: xA0 a (y :: b) else if x.key = y.key then y :: xA0 a b else y :: xA0 (x :: a) b := by
  rw [xA0]
theorem xCf {z : PairL} : ∀ (a b : List PairL), z ∈ xA0 a b → z ∈ a ∨ z ∈ b
  | [], b, h => by rw [xDw] at h; exact .inr h
  | x :: a, [], h => by rw [xDl] at h; exact .inl h
  | x :: a, y :: b, h => by
    rw [xC7] at h
    split at h
    · rcases List.mem_cons.1 h with rfl | h
      · exact .inl (by simp)
      · rcases xCf a (y :: b) h with h | h
        · exact .inl (by simp [h])
        · exact .inr h
    · split at h
      · rcases List.mem_cons.1 h with rfl | h
        · exact .inr (by simp)
        · rcases xCf a b h with h | h
          · exact .inl (by simp [h])
          · exact .inr (by simp [h])
      · rcases List.mem_cons.1 h with rfl | h
        · exact .inr (by simp)
        · rcases xCf (x :: a) b h with h | h
          · exact .inl h
          · exact .inr (by simp [h])
termination_by a b => a.length + b.length
theorem xAi : ∀ {a b : List PairL}, Srt a → Srt b → Srt (xA0 a b)
  | [], b, _, h => by rw [xDw]; exact h
  | x :: a, [], h, _ => by rw [xDl]; exact h
  | x :: a, y :: b, ha, hb => by
    rw [xC7]
    split
    · next h =>
      refine List.pairwise_cons.2 ⟨fun z hz => ?_, xAi ha.tail hb⟩
      rcases xCf _ _ hz with hz | hz
      · exact ha.head hz
      · rcases List.mem_cons.1 hz with rfl | hz
        · exact h
        · exact xAk h (hb.head hz)
    · next h =>
      split
      · next h2 =>
        refine List.pairwise_cons.2 ⟨fun z hz => ?_, xAi ha.tail hb.tail⟩
        rcases xCf _ _ hz with hz | hz
        · rw [← h2]; exact ha.head hz
        · exact hb.head hz
      · next h2 =>
        have hyx : Op.bytesLess y.key x.key = true := by
          rcases xBn x.key y.key with h3 | h3 | h3
          · exact absurd h3 h
          · exact absurd h3 h2
          · exact h3
        refine List.pairwise_cons.2 ⟨fun z hz => ?_, xAi ha hb.tail⟩
        rcases xCf _ _ hz with hz | hz
        · rcases List.mem_cons.1 hz with rfl | hz
          · exact hyx
          · exact xAk hyx (ha.head hz)
        · exact hb.head hz
termination_by a b => a.length + b.length
theorem xAh (k : Str) : ∀ {a b : List PairL}, Srt a → Srt b → xAM (xA0 a b) k = (xAM b k).or (xAM a k)
  | [], b, _, _ => by rw [xDw]; simp [xAM]
  | x :: a, [], _, _ => by rw [xDl]; simp [xAM]
  | x :: a, y :: b, ha, hb => by
    rw [xC7]
    split
    · next h =>
      rw [xAH, xAh k ha.tail hb, xAH x a]
      split
      · next h2 =>
        have : xAM (y :: b) k = none := by
          rw [xAH, if_neg (fun e => xCz h (h2.trans e.symm)), hb.below (by rw [← h2]; exact ble_iff.2 (.inl h))]
        rw [this]; rfl
      · rfl
    · next h =>
      split
      · next h2 =>
        rw [xAH, xAh k ha.tail hb.tail, xAH y b, xAH x a, h2]
        split
        · rfl
        · rfl
      · next h2 =>
        rw [xAH, xAh k ha hb.tail, xAH y b]
        split
        · rfl
        · rfl
termination_by a b => a.length + b.length
theorem xEs : ∀ (a b : List PairL), (xA0 a b).length ≤ a.length + b.length
  | [], b => by rw [xDw]; simp
  | x :: a, [] => by rw [xDl]; simp
  | x :: a, y :: b => by
    rw [xC7]
    simp only [List.length_cons]
    split
    · have := xEs a (y :: b)
      simp only [List.length_cons] at this ⊢
      omega
    · split
      · have := xEs a b
        simp only [List.length_cons] at this ⊢
        omega
      · have := xEs (x :: a) b
        simp only [List.length_cons] at this ⊢
        omega
termination_by a b => a.length + b.length
theorem xDm : ∀ (a b : List PairL), (∀ x ∈ a, ∀ y ∈ b, x.key ≠ y.key) → (xA0 a b).length = a.length + b.length
  | [], b, _ => by rw [xDw]; simp
  | x :: a, [], _ => by rw [xDl]; simp
  | x :: a, y :: b, h => by
    rw [xC7]
    simp only [List.length_cons]
    split
    · have := xDm a (y :: b) (fun p hp q hq => h p (by simp [hp]) q hq)
      simp only [List.length_cons] at this ⊢
      omega
    · split
      · next h2 => exact absurd h2 (h x (by simp) y (by simp))
      · have := xDm (x :: a) b (fun p hp q hq => h p hp q (by simp [hq]))
        simp only [List.length_cons] at this ⊢
        omega
termination_by a b => a.length + b.length
theorem xQv {a b c : List PairL} (ha : Srt a) (hb : Srt b) (hc : Srt c) : xA0 (xA0 a b) c = xA0 a (xA0 b c) := by
  refine Srt.ext (xAi (xAi ha hb) hc) (xAi ha (xAi hb hc)) (fun k => ?_)
  rw [xAh k (xAi ha hb) hc, xAh k ha hb, xAh k ha (xAi hb hc), xAh k hb hc]
  cases xAM c k <;> rfl
theorem union_self {a : List PairL} (ha : Srt a) : xA0 a a = a := by
  refine Srt.ext (xAi ha ha) ha (fun k => ?_)
  rw [xAh k ha ha]
  cases xAM a k <;> rfl
def xJa (a b : List PairL) : List PairL := b.filter (fun p => !(xAM a p.key).isSome)
theorem xEF {a b : List PairL} (h : Srt b) : Srt (xJa a b) := h.filter _
theorem xBN {t : List PairL} (h : Srt t) (f : PairL → Bool) (k : Str) : xAM (t.filter f) k = (xAM t k).filter f := by
  induction t with
  | nil => rfl
  | cons x t ih =>
    rw [List.filter_cons, xAH]
    by_cases hk : x.key = k
    · rw [if_pos hk]
      split
      · next h2 => rw [xAH, if_pos hk, Option.filter, if_pos h2]
      · next h2 =>
        rw [ih h.tail, h.below (by rw [hk]; exact xB4 k), Option.filter, Option.filter, if_neg h2]
    · rw [if_neg hk]
      split
      · rw [xAH, if_neg hk, ih h.tail]
      · rw [ih h.tail]
theorem xJ6 {a b : List PairL} (hb : Srt b) (k : Str) : xAM (xJa a b) k = if (xAM a k).isSome = true then none else xAM b k := by
  rw [xJa, xBN hb]
  cases h : xAM b k with
  | none => simp
  | some p =>
    have := xBR h
    simp only [Option.filter_some, this]
    cases xAM a k <;> simp
theorem xRJ {a b : List PairL} : ∀ x ∈ a, ∀ y ∈ xJa a b, x.key ≠ y.key := by
  intro x hx y hy e
  obtain ⟨_, h2⟩ := List.mem_filter.1 hy
  have h3 : xAM a y.key = none := by simpa using h2
  exact findP_none.1 h3 x hx e
theorem rest_comm {a b : List PairL} (ha : Srt a) (hb : Srt b) : xA0 a (xJa a b) = xA0 (xJa a b) a := by
  refine Srt.ext (xAi ha (xEF hb)) (xAi (xEF hb) ha) (fun k => ?_)
  rw [xAh k ha (xEF hb), xAh k (xEF hb) ha, xJ6 hb]
  cases xAM a k <;> simp
theorem rest_union {a b : List PairL} (ha : Srt a) (hb : Srt b) : (xA0 a b).length = a.length + (xJa a b).length := by
  have h1 : (xA0 a b).map PairL.key = (xA0 a (xJa a b)).map PairL.key := by
    have key : ∀ {s t : List PairL}, Srt s → Srt t → (∀ k, (xAM s k).isSome = (xAM t k).isSome) → s.map PairL.key = t.map PairL.key := by
      intro s t hs ht h
      have f1 : ∀ {u : List PairL}, Srt u → Srt (u.map (fun p => ⟨p.key, [], 0⟩)) := by
        intro u hu
        unfold Srt
        rw [List.pairwise_map]
        exact hu
      have f2 : ∀ (u : List PairL) (k : Str), xAM (u.map (fun p => (⟨p.key, [], 0⟩ : PairL))) k = if (xAM u k).isSome = true then some ⟨k, [], 0⟩ else none := by
        intro u k
        induction u with
        | nil => simp [xAM]
        | cons x u ih =>
          rw [List.map_cons, xAH, xAH]
          by_cases hk : x.key = k
          · rw [if_pos hk, if_pos hk]; simp [hk]
          · rw [if_neg hk, if_neg hk, ih]
      have f3 := Srt.ext (f1 hs) (f1 ht) (fun k => by rw [f2, f2, h k])
      have f4 := congrArg (List.map PairL.key) f3
      simpa [List.map_map, Function.comp_def] using f4
    refine key (xAi ha hb) (xAi ha (xEF hb)) (fun k => ?_)
    rw [xAh k ha hb, xAh k ha (xEF hb), xJ6 hb]
    cases xAM a k <;> cases xAM b k <;> rfl
  have h2 := congrArg List.length h1
  rw [List.length_map, List.length_map, xDm _ _ xRJ] at h2
  exact h2
end Go.Pu
set_option linter.unusedVariables false
namespace Go.Pu
def lbN (t : List PairL) (k : Str) : Nat := (t.takeWhile (fun p => Op.bytesLess p.key k)).length
theorem xG2 (p : PairL) (t : List PairL) (k : Str) : lbN (p :: t) k = if Op.bytesLess p.key k = true then lbN t k + 1 else 0 := by
  unfold lbN
  rw [List.takeWhile_cons]
  split <;> simp [*]
theorem xPr (k : Str) : ∀ t : List PairL, lbN t k ≤ t.length
  | [] => Nat.le_refl _
  | p :: t => by
    have := xPr k t
    rw [xG2, List.length_cons]
    split <;> omega
theorem xH9 {t : List PairL} (h : Srt t) (k : Str) : ∀ {m : Nat} {p : PairL}, t[m]? = some p → (Op.bytesLess p.key k = true ↔ m < lbN t k) := by
  induction t with
  | nil => intro m p hp; simp at hp
  | cons x t ih =>
    intro m p hp
    rw [xG2]
    cases m with
    | zero =>
      obtain rfl : x = p := by simpa using hp
      split <;> simp [*]
    | succ m =>
      have hp' : t[m]? = some p := by simpa using hp
      split
      · rw [ih h.tail hp']; omega
      · next hx =>
        have hmem : p ∈ t := List.mem_of_getElem? hp'
        constructor
        · intro h2
          exact absurd (xAk (h.head hmem) h2) hx
        · intro h2; omega
theorem xPs {t : List PairL} (h : Srt t) (k : Str) : (match t[lbN t k]? with | some p => decide (p.key = k) | none => false) = (xAM t k).isSome := by
  induction t with
  | nil => simp [xAM]
  | cons x t ih =>
    rw [xG2, xAH]
    by_cases hx : Op.bytesLess x.key k = true
    · rw [if_pos hx, if_neg (xCz hx), List.getElem?_cons_succ]
      exact ih h.tail
    · rw [if_neg hx]
      simp only [List.getElem?_cons_zero]
      by_cases hk : x.key = k
      · rw [if_pos hk]; simp [hk]
      · rw [if_neg hk, h.below (by simpa [ble] using hx)]
        simp [hk]
theorem xRs {t : List PairL} (h : Srt t) {a b : Str} (hab : ble a b = true) : lbN t a ≤ lbN t b := by
  rcases Nat.lt_or_ge (lbN t b) (lbN t a) with h1 | h1
  · have h2 : lbN t b < t.length := Nat.lt_of_lt_of_le h1 (xPr a t)
    obtain ⟨p, hp⟩ : ∃ p, t[lbN t b]? = some p := ⟨_, List.getElem?_eq_getElem h2⟩
    have h3 := (xH9 h a hp).2 h1
    have h4 := (xH9 h b hp).1 (xAa h3 hab)
    omega
  · exact h1
def xAs (t : List PairL) (s : SpanL) : Nat × Nat := if xAI s = true then (0, 0) else (lbN t s.lo, if s.hi = [] then t.length else lbN t s.hi)
def xBK (t : List PairL) (s : SpanL) : List PairL := t.filter (fun p => hasL s p.key)
def xAv (t : List PairL) (s : SpanL) : List PairL := t.filter (fun p => !hasL s p.key)
theorem xOa {t : List PairL} (h : Srt t) (s : SpanL) : (xAs t s).1 ≤ (xAs t s).2 ∧ (xAs t s).2 ≤ t.length := by
  unfold xAs
  split
  · simp
  · next he =>
    have he : xAI s = false := by simpa using he
    dsimp only
    split
    · exact ⟨xPr _ _, Nat.le_refl _⟩
    · next hh => exact ⟨xRs h (ble_iff.2 (.inl (xA9 he hh))), xPr _ _⟩
theorem xFy {t : List PairL} (h : Srt t) (s : SpanL) : (∀ p ∈ t.take (xAs t s).1, hasL s p.key = false) ∧ (∀ p ∈ (t.drop (xAs t s).1).take ((xAs t s).2 - (xAs t s).1), hasL s p.key = true) ∧ ∀ p ∈ t.drop (xAs t s).2, hasL s p.key = false := by
  unfold xAs
  split
  · next he => refine ⟨by simp, by simp, fun p _ => xAY he p.key⟩
  · next he =>
    have he : xAI s = false := by simpa using he
    dsimp only
    refine ⟨?_, ?_, ?_⟩
    · intro p hp
      obtain ⟨m, hm⟩ := List.mem_iff_getElem?.1 hp
      rw [List.getElem?_take] at hm
      split at hm
      · next hml =>
        have h1 := (xH9 h s.lo hm).2 hml
        simp [hasL, h1]
      · cases hm
    · intro p hp
      obtain ⟨m, hm⟩ := List.mem_iff_getElem?.1 hp
      have key : ∀ n : Nat, ((t.drop (lbN t s.lo)).take n)[m]? = some p → m < n ∧ t[lbN t s.lo + m]? = some p := by
        intro n hm
        rw [List.getElem?_take] at hm
        split at hm
        · next hml => rw [List.getElem?_drop] at hm; exact ⟨hml, hm⟩
        · cases hm
      obtain ⟨hml, hm⟩ := key _ hm
      have h1 : ¬ Op.bytesLess p.key s.lo = true := fun h2 => by have := (xH9 h s.lo hm).1 h2; omega
      have h1' : Op.bytesLess p.key s.lo = false := by simpa using h1
      refine has_iff.2 ⟨by simp [ble, h1'], ?_⟩
      by_cases hh : s.hi = []
      · exact .inl hh
      · rw [if_neg hh] at hml
        exact .inr ((xH9 h s.hi hm).2 (by omega))
    · intro p hp
      obtain ⟨m, hm⟩ := List.mem_iff_getElem?.1 hp
      rw [List.getElem?_drop] at hm
      by_cases hh : s.hi = []
      · rw [if_pos hh] at hm
        have := (List.getElem?_eq_some_iff.1 hm).1
        omega
      · rw [if_neg hh] at hm
        have h1 : ¬ Op.bytesLess p.key s.hi = true := fun h2 => by have := (xH9 h s.hi hm).1 h2; omega
        have h1' : Op.bytesLess p.key s.hi = false := by simpa using h1
        have h2 : (s.hi == []) = false := by simpa using hh
        simp only [hasL, h1', h2, Bool.or_self, Bool.and_false]
theorem xFx {t : List PairL} (s : SpanL) (h : Srt t) : t = t.take (xAs t s).1 ++ ((t.drop (xAs t s).1).take ((xAs t s).2 - (xAs t s).1) ++ t.drop (xAs t s).2) := by
  obtain ⟨h1, h2⟩ := xOa h s
  have e : t.drop (xAs t s).2 = (t.drop (xAs t s).1).drop ((xAs t s).2 - (xAs t s).1) := by
    rw [List.drop_drop]; congr 1; omega
  rw [e, List.take_append_drop, List.take_append_drop]
theorem range_eq {t : List PairL} (h : Srt t) (s : SpanL) : (t.drop (xAs t s).1).take ((xAs t s).2 - (xAs t s).1) = xBK t s := by
  obtain ⟨h1, h2, h3⟩ := xFy h s
  have e := xFx s h
  generalize (xAs t s).1 = a at *
  generalize (xAs t s).2 = b at *
  unfold xBK
  conv => rhs; rw [e]
  rw [List.filter_append, List.filter_append, List.filter_eq_nil_iff.2 (fun p hp => by simp [h1 p hp]), List.filter_eq_self.2 h2, List.filter_eq_nil_iff.2 (fun p hp => by simp [h3 p hp])]
  simp
theorem drop_eq {t : List PairL} (h : Srt t) (s : SpanL) : t.take (xAs t s).1 ++ t.drop (xAs t s).2 = xAv t s := by
  obtain ⟨h1, h2, h3⟩ := xFy h s
  have e := xFx s h
  generalize (xAs t s).1 = a at *
  generalize (xAs t s).2 = b at *
  unfold xAv
  conv => rhs; rw [e]
  rw [List.filter_append, List.filter_append, List.filter_eq_self.2 (fun p hp => by simp [h1 p hp]), List.filter_eq_nil_iff.2 (fun p hp => by simp [h2 p hp]), List.filter_eq_self.2 (fun p hp => by simp [h3 p hp])]
  simp
theorem xJc {t : List PairL} (h : Srt t) (s : SpanL) : Srt (xBK t s) := h.filter _
theorem xCG {t : List PairL} (h : Srt t) (s : SpanL) : Srt (xAv t s) := h.filter _
theorem xOm (t : List PairL) (s : SpanL) : (xBK t s).length + (xAv t s).length = t.length := by
  unfold xBK xAv
  induction t with
  | nil => rfl
  | cons x t ih =>
    rw [List.filter_cons, List.filter_cons]
    cases hasL s x.key <;> simp <;> omega
theorem xMr {t : List PairL} (h : Srt t) (s : SpanL) : xA0 (xBK t s) (xAv t s) = t := by
  refine Srt.ext (xAi (xJc h s) (xCG h s)) h (fun k => ?_)
  rw [xAh k (xJc h s) (xCG h s), xBK, xAv, xBN h, xBN h]
  cases hf : xAM t k with
  | none => rfl
  | some p =>
    simp only [Option.filter_some]
    cases hasL s p.key <;> rfl
theorem xPE (t : List PairL) (s : SpanL) : xBK (xAv t s) s = [] := by
  unfold xBK xAv
  rw [List.filter_filter, List.filter_eq_nil_iff]
  intro p _
  cases hasL s p.key <;> simp
theorem xRL (t : List PairL) (s u : SpanL) : xBK (xBK t s) u = xBK (xBK t u) s := by
  unfold xBK
  rw [List.filter_filter, List.filter_filter]
  congr 1
  funext p
  rw [Bool.and_comm]
theorem drop_drop (t : List PairL) (s u : SpanL) : xAv (xAv t s) u = xAv (xAv t u) s := by
  unfold xAv
  rw [List.filter_filter, List.filter_filter]
  congr 1
  funext p
  rw [Bool.and_comm]
def mvP (f t : Str) (p : PairL) : PairL := ⟨t ++ p.key.drop f.length, p.val, p.stamp⟩
def srcL (t : List PairL) (f : Str) : List PairL := t.filter (fun p => xAD p.key f)
def xBs (t : List PairL) (f to : Str) : List PairL := (srcL t f).map (mvP f to)
theorem xJd (t : List PairL) (f : Str) : xBK t (xAE f) = srcL t f := by
  unfold xBK srcL
  congr 1
  funext p
  rw [xAX]
theorem xEE {t : List PairL} {f : Str} {p : PairL} (h : p ∈ srcL t f) : xAD p.key f = true := (List.mem_filter.1 h).2
theorem xQ2 {t : List PairL} (h : Srt t) (f : Str) : Srt (srcL t f) := h.filter _
theorem xGm {t : List PairL} (h : Srt t) (f to : Str) : Srt (xBs t f to) := by
  unfold xBs Srt
  rw [List.pairwise_map]
  refine List.Pairwise.imp_of_mem ?_ (xQ2 h f)
  intro a b ha hb hab
  obtain ⟨r1, h1⟩ := begins_iff.1 (xEE ha)
  obtain ⟨r2, h2⟩ := begins_iff.1 (xEE hb)
  simp only [mvP]
  rw [h1, h2] at hab ⊢
  rw [xEA] at hab ⊢
  rw [List.drop_left, List.drop_left]
  exact hab
theorem moved_back {t : List PairL} (f to : Str) : xBs (xBs t f to) to f = srcL t f := by
  have h1 : srcL (xBs t f to) to = xBs t f to := by
    unfold srcL
    refine List.filter_eq_self.2 (fun p hp => ?_)
    obtain ⟨q, _, rfl⟩ := List.mem_map.1 hp
    exact begins_iff.2 ⟨_, rfl⟩
  rw [xBs, h1, xBs, List.map_map]
  refine (List.map_congr_left (fun p hp => ?_)).trans (List.map_id _)
  obtain ⟨r, hr⟩ := begins_iff.1 (xEE hp)
  obtain ⟨k, v, st⟩ := p
  simp only [mvP, Function.comp_def, id]
  dsimp only at hr
  rw [hr]
  simp
end Go.Pu
set_option linter.unusedVariables false
namespace Go.Pu
theorem xB3 {p : PairL} {t : List PairL} (h : Srt t) (k : Str) : xAM (putL t p) k = if p.key = k then some p else xAM t k := by
  rw [xFL]
  induction t with
  | nil => rw [insL, xAH]
  | cons x t ih =>
    rw [insL]
    split
    · next hx =>
      rw [xAH, ih h.tail, xAH]
      by_cases hk : x.key = k
      · rw [if_pos hk, if_pos hk, if_neg (fun e => xCz hx (hk.trans e.symm))]
      · rw [if_neg hk, if_neg hk]
    · next hx =>
      rw [xAH]
      by_cases hk : p.key = k
      · rw [if_pos hk, if_pos hk]
      · rw [if_neg hk, if_neg hk, xBN h]
        cases hf : xAM (x :: t) k with
        | none => rfl
        | some y =>
          have := xBR hf
          rw [Option.filter_some, if_pos]
          simpa [this] using fun e => hk e.symm
theorem lb_isSome {t : List PairL} (h : Srt t) {k : Str} (hf : (xAM t k).isSome = true) : ∃ p, t[lbN t k]? = some p ∧ xAM t k = some p ∧ p.key = k := by
  have h1 := xPs h k
  rw [hf] at h1
  cases hg : t[lbN t k]? with
  | none => rw [hg] at h1; cases h1
  | some p =>
    rw [hg] at h1
    have hk : p.key = k := by simpa using h1
    exact ⟨p, rfl, by rw [← hk]; exact h.find (List.mem_of_getElem? hg), hk⟩
theorem xNU {p : PairL} {t : List PairL} (h : Srt t) (hf : (xAM t p.key).isSome = true) : t.set (lbN t p.key) p = putL t p := by
  rw [xFL]
  induction t with
  | nil => cases hf
  | cons x t ih =>
    rw [xG2, insL]
    by_cases hx : Op.bytesLess x.key p.key = true
    · rw [if_pos hx, if_pos hx, List.set_cons_succ, ih h.tail]
      rw [xAH, if_neg (xCz hx)] at hf
      exact hf
    · rw [if_neg hx, if_neg hx, List.set_cons_zero]
      have hk : x.key = p.key := by
        rw [xAH] at hf
        by_cases hk : x.key = p.key
        · exact hk
        · rw [if_neg hk, h.below (by simpa [ble] using hx)] at hf
          cases hf
      have hne : ∀ y ∈ t, (!(y.key == p.key)) = true := fun y hy => by
        have := xCz (h.head hy)
        rw [hk] at this
        simpa using fun e => this e.symm
      rw [List.filter_cons, if_neg (by simp [hk]), List.filter_eq_self.2 hne]
theorem xRN {p : PairL} {t : List PairL} (h : Srt t) (hf : (xAM t p.key).isSome = false) : t.take (lbN t p.key) ++ p :: t.drop (lbN t p.key) = putL t p := by
  rw [xFL]
  induction t with
  | nil => simp [insL]
  | cons x t ih =>
    rw [xG2, insL]
    by_cases hx : Op.bytesLess x.key p.key = true
    · rw [if_pos hx, if_pos hx, List.take_succ_cons, List.drop_succ_cons, List.cons_append, ih h.tail]
      rw [xAH, if_neg (xCz hx)] at hf
      exact hf
    · rw [if_neg hx, if_neg hx, List.take_zero, List.drop_zero, List.nil_append]
      have h1 : xAM (x :: t) p.key = none := by simpa using hf
      have h2 := findP_none.1 h1
      rw [List.filter_eq_self.2 (fun y hy => by simpa using h2 y hy)]
def delT (t : List PairL) (k : Str) : List PairL := t.filter (fun p => !(p.key == k))
theorem xPz (t : List PairL) (k : Str) : xAv t (oneL k) = delT t k := by
  unfold xAv delT
  refine List.filter_congr (fun p _ => ?_)
  rw [xFM]
theorem xKy {t : List PairL} (h : Srt t) (k : Str) : Srt (delT t k) := h.filter _
theorem xR3 (t : List PairL) (k : Str) : (delT t k).length ≤ t.length := List.length_filter_le ..
theorem xI9 {t : List PairL} (h : Srt t) (k x : Str) : xAM (delT t k) x = if k = x then none else xAM t x := by
  rw [delT, xBN h]
  cases hf : xAM t x with
  | none => simp
  | some p =>
    have := xBR hf
    subst this
    by_cases hk : k = p.key
    · simp [hk]
    · rw [if_neg hk, Option.filter_some, if_pos]
      simpa using fun e => hk e.symm
theorem put_put {p q : PairL} {t : List PairL} (h : Srt t) (hk : p.key = q.key) : putL (putL t p) q = putL t q := by
  refine Srt.ext (xA8 (xA8 h)) (xA8 h) (fun k => ?_)
  rw [xB3 (xA8 h), xB3 h, xB3 h, hk]
  by_cases h1 : q.key = k <;> simp [h1]
theorem put_comm {p q : PairL} {t : List PairL} (h : Srt t) (hk : p.key ≠ q.key) : putL (putL t p) q = putL (putL t q) p := by
  refine Srt.ext (xA8 (xA8 h)) (xA8 (xA8 h)) (fun k => ?_)
  rw [xB3 (xA8 h), xB3 h, xB3 (xA8 h), xB3 h]
  by_cases h1 : q.key = k
  · have h2 : p.key ≠ k := fun e => hk (e.trans h1.symm)
    simp [h1, h2]
  · simp [h1]
theorem del_put {p : PairL} {t : List PairL} (h : Srt t) : delT (putL t p) p.key = delT t p.key := by
  refine Srt.ext (xKy (xA8 h) _) (xKy h _) (fun k => ?_)
  rw [xI9 (xA8 h), xI9 h, xB3 h]
  by_cases h1 : p.key = k <;> simp [h1]
theorem xPF (b : List PairL) : ∀ {a : List PairL}, Srt a → Srt (b.foldl putL a) := by
  induction b with
  | nil => intro a h; exact h
  | cons x b ih => intro a h; exact ih (xA8 h)
theorem xOB {b : List PairL} (hb : Srt b) : ∀ {a : List PairL}, Srt a → ∀ k, xAM (b.foldl putL a) k = (xAM b k).or (xAM a k) := by
  induction b with
  | nil => intro a _ k; simp [xAM]
  | cons x b ih =>
    intro a ha k
    rw [List.foldl_cons, ih hb.tail (xA8 ha), xB3 ha, xAH]
    by_cases hk : x.key = k
    · rw [if_pos hk, if_pos hk, hb.below (by rw [hk]; exact xB4 k)]; rfl
    · rw [if_neg hk, if_neg hk]
theorem xHw {a b : List PairL} (ha : Srt a) (hb : Srt b) : b.foldl putL a = xA0 a b :=
  Srt.ext (xPF b ha) (xAi ha hb) (fun k => by rw [xOB hb ha, xAh k ha hb])
end Go.Pu
set_option linter.unusedVariables false
set_option linter.unusedSimpArgs false
namespace Go.Pu
structure FolL where
  key : Str
  known : Bool
  has : Bool
  val : Str
  std : Bool
  st : Int
  deriving DecidableEq
def xBY (f : FolL) (n : Int) : FolL := if f.std = true then f else { f with std := true, st := n }
def xAl (f : FolL) (m : MsgL) : FolL :=
  if m.kind = 1 then (if m.key = f.key then { xBY f m.n with known := true, has := true, val := m.val } else f) else
  if m.kind = 2 then (if m.key = f.key then { f with known := true } else f) else
  if m.kind = 3 then (if hasL m.sp f.key = true then { f with known := true } else f) else
  if m.kind = 6 then (if hasL m.sp f.key = true then xBY f m.n else f) else
  if m.kind = 4 ∧ xAD f.key m.fr = true then { f with known := true } else
  if xAD f.key m.to = true then { f with key := m.fr ++ f.key.drop m.to.length } else f
def xAN : FolL → List MsgL → FolL
  | f, [] => f
  | f, m :: r => if f.known = true then f else xAN (xAl f m) r
theorem xAS {f : FolL} (h : f.known = true) (r : List MsgL) : xAN f r = f := by
  cases r with
  | nil => rfl
  | cons m r => rw [xAN, if_pos h]
theorem xBF {f : FolL} (h : f.known = false) (m : MsgL) (r : List MsgL) : xAN f (m :: r) = xAN (xAl f m) r := by rw [xAN, if_neg (by rw [h]; simp)]
theorem xFA : ∀ (a b : List MsgL) (f : FolL), xAN f (a ++ b) = xAN (xAN f a) b
  | [], b, f => rfl
  | m :: a, b, f => by
    cases h : f.known with
    | true => rw [xAS h, xAS h, xAS h]
    | false => rw [List.cons_append, xBF h, xBF h, xFA a b]
structure FoundL where
  known : Bool
  has : Bool
  pair : PairL
  key : Str
  std : Bool
  st : Int
  deriving DecidableEq
def xNk : PairL := ⟨[], [], 0⟩
def xB6 (k : Str) (f : FolL) : FoundL :=
  if f.known = true ∧ f.has = false then ⟨true, false, xNk, [], false, 0⟩ else
  if f.known = true then ⟨true, true, ⟨k, f.val, f.st⟩, [], false, 0⟩ else ⟨false, false, ⟨k, [], 0⟩, f.key, f.std, f.st⟩
def fol0 (k : Str) : FolL := ⟨k, false, false, [], false, 0⟩
def keyL (k : Str) (l : List MsgL) : FoundL := xB6 k (xAN (fol0 k) l.reverse)
def xHq (f : FoundL) (p : PairL) (has : Bool) : PairL × Bool :=
  if f.known = true then (f.pair, f.has) else if has = false then (xNk, false) else (⟨f.pair.key, p.val, if f.std = true then f.st else p.stamp⟩, true)
theorem xCZ (f : FolL) (n : Int) : (xBY f n).key = f.key ∧ (xBY f n).known = f.known ∧ (xBY f n).has = f.has ∧ (xBY f n).val = f.val := by unfold xBY; split <;> simp
theorem xHd {f : FolL} {m : MsgL} {k : Str} (h : bkL m f.key = some k) : (xAl f m).key = k ∧ (xAl f m).known = f.known ∧ (xAl f m).has = f.has ∧ (xAl f m).val = f.val := by
  unfold bkL at h
  unfold xAl
  by_cases h1 : m.kind = 1
  · simp only [h1, true_or, if_true] at h ⊢
    split at h
    · cases h
    · rename_i hk
      cases h
      rw [if_neg hk]
      simp
  · by_cases h2 : m.kind = 2
    · simp only [h2, or_true, if_true] at h
      simp only [h2, if_true, if_neg (show ¬ (2 : Int) = 1 by decide)]
      split at h
      · cases h
      · rename_i hk
        cases h
        rw [if_neg hk]
        simp
    · rw [if_neg (by simp [h1, h2])] at h
      rw [if_neg h1, if_neg h2]
      by_cases h3 : m.kind = 3
      · rw [if_pos h3] at h ⊢
        split at h
        · cases h
        · rename_i hk
          cases h
          rw [if_neg hk]
          simp
      · rw [if_neg h3] at h ⊢
        by_cases h6 : m.kind = 6
        · rw [if_pos h6] at h ⊢
          cases h
          split
          · exact xCZ f m.n
          · simp
        · rw [if_neg h6] at h ⊢
          split at h
          · cases h
          · rename_i h4
            rw [if_neg h4]
            split at h
            · rename_i h5
              rw [if_pos h5]
              cases h
              simp
            · rename_i h5
              rw [if_neg h5]
              cases h
              simp
theorem xFE {f : FolL} {m : MsgL} (h : bkL m f.key = none) : (xAl f m).known = true := by
  unfold bkL at h
  unfold xAl
  by_cases h1 : m.kind = 1
  · simp only [h1, true_or, if_true] at h ⊢
    split at h
    · rename_i hk
      rw [if_pos hk]
    · cases h
  · by_cases h2 : m.kind = 2
    · simp only [h2, or_true, if_true] at h
      simp only [h2, if_true, if_neg (show ¬ (2 : Int) = 1 by decide)]
      split at h
      · rename_i hk
        rw [if_pos hk]
      · cases h
    · rw [if_neg (by simp [h1, h2])] at h
      rw [if_neg h1, if_neg h2]
      by_cases h3 : m.kind = 3
      · rw [if_pos h3] at h ⊢
        split at h
        · rename_i hk
          rw [if_pos hk]
        · cases h
      · rw [if_neg h3] at h ⊢
        by_cases h6 : m.kind = 6
        · rw [if_pos h6] at h; cases h
        · rw [if_neg h6] at h ⊢
          split at h
          · rename_i h4
            rw [if_pos h4]
          · split at h <;> cases h
theorem xEo : ∀ (r : List MsgL) (f : FolL), f.known = false → (xAN f r).known = (bksL r f.key).isNone ∧ ∀ k, bksL r f.key = some k → (xAN f r).key = k
  | [], f, h => ⟨by simp [xAN, bksL, h], fun k hk => by simp [bksL] at hk; exact hk⟩
  | m :: r, f, h => by
    rw [xBF h, bksL]
    cases hb : bkL m f.key with
    | none =>
      have := xFE hb
      rw [xAS this]
      exact ⟨by simp [this], fun k hk => by simp at hk⟩
    | some k =>
      obtain ⟨e1, e2, _⟩ := xHd hb
      have := xEo r (xAl f m) (by rw [e2, h])
      rw [e1] at this
      exact this
theorem xN0 {k : Str} {l : List MsgL} : (keyL k l).known = (bksL l.reverse k).isNone := by
  have h := (xEo l.reverse (fol0 k) rfl).1
  have e : (keyL k l).known = (xAN (fol0 k) l.reverse).known := by
    unfold keyL xB6
    cases h1 : (xAN (fol0 k) l.reverse).known <;> cases h2 : (xAN (fol0 k) l.reverse).has <;> simp
  rw [e, h]
  rfl
theorem xRt {k x : Str} {l : List MsgL} (h : bksL l.reverse k = some x) : (keyL k l).key = x ∧ (keyL k l).known = false := by
  obtain ⟨h1, h2⟩ := xEo l.reverse (fol0 k) rfl
  have h3 := h2 x h
  rw [show (fol0 k).key = k from rfl, h] at h1
  have h4 : (xAN (fol0 k) l.reverse).known = false := h1
  have e : keyL k l = ⟨false, false, ⟨k, [], 0⟩, (xAN (fol0 k) l.reverse).key, (xAN (fol0 k) l.reverse).std, (xAN (fol0 k) l.reverse).st⟩ := by
    unfold keyL xB6
    rw [if_neg (by rw [h4]; simp), if_neg (by rw [h4]; simp)]
  rw [e]
  exact ⟨h3, rfl⟩
def xEP (s : Bool) (n : Int) (f : FolL) : FolL := if s = true then { f with std := true, st := n } else f
theorem xMF (s : Bool) (n : Int) (f : FolL) (k : Int) : xBY (xEP s n f) k = xEP s n (xBY f k) := by
  obtain ⟨a1, a2, a3, a4, a5, a6⟩ := f
  unfold xEP xBY
  cases s <;> cases a5 <;> simp
theorem xOf (s : Bool) (n : Int) (f : FolL) (m : MsgL) : xAl (xEP s n f) m = xEP s n (xAl f m) := by
  have e : (xEP s n f).key = f.key := by unfold xEP; split <;> rfl
  unfold xAl
  rw [e, xMF]
  cases s
  · simp [xEP]
  · simp only [xEP, if_true]
    repeat' split
    all_goals rfl
theorem xHH (s : Bool) (n : Int) : ∀ (r : List MsgL) (f : FolL), xAN (xEP s n f) r = xEP s n (xAN f r)
  | [], f => rfl
  | m :: r, f => by
    have e : (xEP s n f).known = f.known := by unfold xEP; split <;> rfl
    cases h : f.known with
    | true => rw [xAS h, xAS (by rw [e, h])]
    | false => rw [xBF h, xBF (by rw [e, h]), xOf, xHH s n r]
theorem xD3 : ∀ (r : List MsgL) (f : FolL), f.known = false → f.has = false → f.val = [] → (xAN f r).known = false → (xAN f r).has = false ∧ (xAN f r).val = []
  | [], f, _, h2, h3, _ => ⟨h2, h3⟩
  | m :: r, f, h1, h2, h3, h4 => by
    rw [xBF h1] at h4 ⊢
    cases hb : bkL m f.key with
    | none =>
      rw [xAS (xFE hb), xFE hb] at h4
      cases h4
    | some k =>
      obtain ⟨e1, e2, e3, e4⟩ := xHd hb
      exact xD3 r _ (e2.trans h1) (e3.trans h2) (e4.trans h3) h4
theorem xHI : ∀ (r : List MsgL) (f : FolL), (f.std = false → f.st = 0) → ((xAN f r).std = false → (xAN f r).st = 0)
  | [], f, h => h
  | m :: r, f, h => by
    cases hk : f.known with
    | true => rw [xAS hk]; exact h
    | false =>
      rw [xBF hk]
      refine xHI r _ ?_
      have hs : (xBY f m.n).std = false → (xBY f m.n).st = 0 := by
        unfold xBY
        split
        · exact h
        · intro h; cases h
      unfold xAl
      repeat' split
      all_goals first | exact h | exact hs
def xQW (k : Str) (late : FoundL) (early : FoundL) : FoundL :=
  let w := early
  let w := if early.known = false ∨ early.has = true then { w with pair := { w.pair with key := k } } else w
  let w := if early.known = false ∧ late.std = true then { w with std := true, st := late.st } else w
  if early.has = true ∧ late.std = true then { w with pair := { w.pair with stamp := late.st } } else w
theorem key_parts (k : Str) (a b : List MsgL) : keyL k (a ++ b) = if (keyL k b).known = true then keyL k b else xQW k (keyL k b) (keyL (keyL k b).key a) := by
  have e : keyL k (a ++ b) = xB6 k (xAN (xAN (fol0 k) b.reverse) a.reverse) := by
    unfold keyL
    rw [List.reverse_append, xFA]
  rw [e]
  generalize hF : xAN (fol0 k) b.reverse = F
  have hb : keyL k b = xB6 k F := by unfold keyL; rw [hF]
  rw [hb]
  have fr := xD3 b.reverse (fol0 k) rfl rfl rfl
  rw [hF] at fr
  have s0 := xHI b.reverse (fol0 k) (fun _ => rfl)
  rw [hF] at s0
  cases hk : F.known with
  | true =>
    have : (xB6 k F).known = true := by unfold xB6; cases hh : F.has <;> simp [hk, hh]
    rw [if_pos this, xAS hk]
  | false =>
    have e2 : xB6 k F = ⟨false, false, ⟨k, [], 0⟩, F.key, F.std, F.st⟩ := by unfold xB6; simp [hk]
    rw [e2]
    simp only [Bool.false_eq_true, if_false]
    have e3 : F = xEP F.std F.st (fol0 F.key) := by
      obtain ⟨h1, h2⟩ := fr hk
      obtain ⟨a1, a2, a3, a4, a5, a6⟩ := F
      simp only at h1 h2 hk s0
      subst h1 h2 hk
      cases a5
      · rw [s0 rfl]; rfl
      · rfl
    have e4 : xAN F a.reverse = xEP F.std F.st (xAN (fol0 F.key) a.reverse) := by
      conv => lhs; rw [e3]
      exact xHH _ _ _ _
    rw [e4]
    unfold keyL
    generalize xAN (fol0 F.key) a.reverse = G
    obtain ⟨a1, a2, a3, a4, a5, a6⟩ := G
    unfold xQW xEP xB6
    cases a2 <;> cases a3 <;> cases F.std <;> simp [xNk]
end Go.Pu
set_option linter.unusedVariables false
set_option linter.unusedSimpArgs false
namespace Go.Pu
def xDf (m : MsgL) (p : PairL) : PairL := if hasL m.sp p.key = true then { p with stamp := m.n } else p
def xDJ (t : List PairL) (m : MsgL) : List PairL := xA0 (xAv t (xAE m.to)) (xBs t m.fr m.to)
def xC1 (t : List PairL) (m : MsgL) : List PairL :=
  if m.kind = 1 then putL t ⟨m.key, m.val, m.n⟩ else
  if m.kind = 2 then delT t m.key else
  if m.kind = 3 then xAv t m.sp else
  if m.kind = 6 then t.map (xDf m) else
  if m.kind = 4 then xAv (xDJ t m) (xAE m.fr) else xDJ t m
def allT (t : List PairL) (l : List MsgL) : List PairL := l.foldl xC1 t
theorem xFI (m : MsgL) (p : PairL) : (xDf m p).key = p.key := by unfold xDf; split <;> rfl
theorem xLv {g : PairL → PairL} (hg : ∀ p, (g p).key = p.key) : ∀ (t : List PairL) (k : Str), xAM (t.map g) k = (xAM t k).map g
  | [], k => rfl
  | p :: t, k => by
    rw [List.map_cons, xAH, xAH, hg]
    split
    · rfl
    · exact xLv hg t k
theorem xRk {g : PairL → PairL} (hg : ∀ p, (g p).key = p.key) {t : List PairL} (h : Srt t) : Srt (t.map g) := by
  unfold Srt at *
  rw [List.pairwise_map]
  exact h.imp fun {a b} hab => by rw [hg, hg]; exact hab
theorem xHX {t : List PairL} (h : Srt t) (m : MsgL) : Srt (xDJ t m) := xAi (xCG h _) (xGm h _ _)
theorem xHe {t : List PairL} (h : Srt t) (m : MsgL) : Srt (xC1 t m) := by
  unfold xC1
  repeat' split
  · exact xA8 h
  · exact xKy h _
  · exact xCG h _
  · exact xRk (xFI m) h
  · exact xCG (xHX h m) _
  · exact xHX h m
theorem xBo : ∀ (l : List MsgL) {t : List PairL}, Srt t → Srt (allT t l)
  | [], t, h => h
  | m :: l, t, h => xBo l (xHe h m)
theorem xIH (f to : Str) : ∀ (t : List PairL) (r : Str), xAM (xBs t f to) (to ++ r) = (xAM t (f ++ r)).map (mvP f to)
  | [], r => rfl
  | p :: t, r => by
    have ih := xIH f to t r
    unfold xBs srcL at ih ⊢
    rw [List.filter_cons]
    cases hb : xAD p.key f with
    | true =>
      obtain ⟨q, hq⟩ := begins_iff.1 hb
      simp only [if_true]
      rw [List.map_cons, xAH, xAH]
      have e : (mvP f to p).key = to ++ q := by unfold mvP; simp only; rw [hq]; simp
      rw [e, hq]
      by_cases h : q = r
      · subst h; simp
      · rw [if_neg (by simpa using h), if_neg (by simpa using h)]
        exact ih
    | false =>
      simp only [Bool.false_eq_true, if_false]
      rw [ih, xAH, if_neg]
      intro e
      rw [e, xBT] at hb
      cases hb
theorem xEY {f to k : Str} (h : xAD k to = false) (t : List PairL) : xAM (xBs t f to) k = none := by
  rw [findP_none]
  intro p hp e
  unfold xBs at hp
  obtain ⟨q, hq, rfl⟩ := List.mem_map.1 hp
  rw [← e] at h
  have : xAD (mvP f to q).key to = true := xBT _ _
  rw [this] at h
  cases h
theorem xDH {t : List PairL} (h : Srt t) (s : SpanL) (k : Str) : xAM (xAv t s) k = if hasL s k = true then none else xAM t k := by
  unfold xAv
  rw [xBN h]
  cases hf : xAM t k with
  | none => simp
  | some p =>
    have := xBR hf
    rw [Option.filter_some, this]
    cases hasL s k <;> simp
theorem xR0 {t : List PairL} (h : Srt t) (s : SpanL) (k : Str) : xAM (xBK t s) k = if hasL s k = true then xAM t k else none := by
  unfold xBK
  rw [xBN h]
  cases hf : xAM t k with
  | none => simp
  | some p =>
    have := xBR hf
    rw [Option.filter_some, this]
theorem xMg {t : List PairL} (h : Srt t) {m : MsgL} (k : Str) : xAM (xDJ t m) k = if xAD k m.to = true then (xAM t (m.fr ++ k.drop m.to.length)).map (mvP m.fr m.to) else xAM t k := by
  unfold xDJ
  rw [xAh k (xCG h _) (xGm h _ _), xDH h, xAX]
  cases hb : xAD k m.to with
  | true =>
    obtain ⟨r, rfl⟩ := begins_iff.1 hb
    rw [xIH]
    simp
  | false =>
    rw [xEY hb]
    simp
def effP (m : MsgL) (k : Str) (f : Str → Option PairL) : Option PairL :=
  match bkL m k with
  | none => if m.kind = 1 then some ⟨k, m.val, m.n⟩ else none
  | some x => (f x).map fun p => ⟨k, p.val, if m.kind = 6 ∧ hasL m.sp k = true then m.n else p.stamp⟩
theorem find_eta {t : List PairL} {k : Str} : (xAM t k).map (fun p => (⟨k, p.val, p.stamp⟩ : PairL)) = xAM t k := by
  cases h : xAM t k with
  | none => rfl
  | some p => have := xBR h; subst this; rfl
theorem xCd {t : List PairL} (h : Srt t) {m : MsgL} (hm : MsgOk m) (k : Str) : xAM (xC1 t m) k = effP m k (xAM t) := by
  unfold xC1 effP bkL
  by_cases h1 : m.kind = 1
  · simp only [h1, true_or, if_true]
    rw [xB3 h]
    by_cases hk : m.key = k
    · rw [if_pos hk, if_pos hk]; subst hk; rfl
    · rw [if_neg hk, if_neg hk]
      simp only [show ¬ ((1 : Int) = 6) by decide, false_and, if_false]
      exact find_eta.symm
  · by_cases h2 : m.kind = 2
    · simp only [h2, or_true, if_true, show ¬ ((2 : Int) = 1) by decide, if_false]
      rw [xI9 h]
      by_cases hk : m.key = k
      · rw [if_pos hk, if_pos hk]
      · rw [if_neg hk, if_neg hk]
        simp only [show ¬ ((2 : Int) = 6) by decide, false_and, if_false]
        exact find_eta.symm
    · simp only [h1, h2, or_self, if_false]
      by_cases h3 : m.kind = 3
      · simp only [h3, if_true]
        rw [xDH h]
        cases hk : hasL m.sp k with
        | true => simp
        | false =>
          simp only [Bool.false_eq_true, if_false, show ¬ ((3 : Int) = 6) by decide, false_and]
          exact find_eta.symm
      · simp only [h3, if_false]
        by_cases h6 : m.kind = 6
        · simp only [h6, if_true, true_and]
          rw [xLv (xFI m)]
          cases hf : xAM t k with
          | none => rfl
          | some p =>
            have := xBR hf
            subst this
            simp only [Option.map_some, xDf]
            split <;> rfl
        · simp only [h6, if_false, false_and]
          have hk := hm.k
          have h45 : m.kind = 4 ∨ m.kind = 5 := by omega
          obtain ⟨ap1, ap2⟩ := hm.ap h45
          have mv : ∀ r, (xAM t (m.fr ++ r)).map (mvP m.fr m.to) = (xAM t (m.fr ++ r)).map fun p => ⟨m.to ++ r, p.val, p.stamp⟩ := by
            intro r
            cases hf : xAM t (m.fr ++ r) with
            | none => rfl
            | some p =>
              have := xBR hf
              simp [mvP, this]
          have cl : xAM (xDJ t m) k = (if xAD k m.to = true then some (m.fr ++ k.drop m.to.length) else some k).elim none fun x => (xAM t x).map fun p => (⟨k, p.val, p.stamp⟩ : PairL) := by
            rw [xMg h]
            split
            · rename_i hb
              obtain ⟨r, rfl⟩ := begins_iff.1 hb
              simp only [List.drop_left, Option.elim_some]
              exact mv r
            · exact find_eta.symm
          by_cases h4 : m.kind = 4
          · simp only [h4, if_true, true_and]
            rw [xDH (xHX h m), xAX]
            cases hb : xAD k m.fr with
            | true => simp
            | false =>
              simp only [Bool.false_eq_true, if_false]
              rw [cl]
              cases xAD k m.to <;> rfl
          · simp only [h4, if_false, false_and]
            rw [cl]
            cases xAD k m.to <;> rfl
end Go.Pu
set_option linter.unusedVariables false
set_option linter.unusedSimpArgs false
namespace Go.Pu
def xKd (t : List PairL) (m : MsgL) : List PairL :=
  (xBs t m.fr m.to).foldl putL (if m.kind = 4 then xAv (xAv t (xAE m.to)) (xAE m.fr) else xAv t (xAE m.to))
def xGc (t : List PairL) (m : MsgL) : List PairL :=
  if m.kind = 1 then putL t ⟨m.key, m.val, m.n⟩ else
  if m.kind = 2 then delT t m.key else
  if m.kind = 3 then xAv t m.sp else
  if m.kind = 6 then t.map (xDf m) else xKd t m
theorem xJb {t : List PairL} (h : Srt t) {m : MsgL} (hm : MsgOk m) : xGc t m = xC1 t m := by
  unfold xGc xC1
  by_cases h1 : m.kind = 1
  · rw [if_pos h1, if_pos h1]
  rw [if_neg h1, if_neg h1]
  by_cases h2 : m.kind = 2
  · rw [if_pos h2, if_pos h2]
  rw [if_neg h2, if_neg h2]
  by_cases h3 : m.kind = 3
  · rw [if_pos h3, if_pos h3]
  rw [if_neg h3, if_neg h3]
  by_cases h6 : m.kind = 6
  · rw [if_pos h6, if_pos h6]
  rw [if_neg h6, if_neg h6]
  have hk := hm.k
  obtain ⟨ap1, ap2⟩ := hm.ap (by omega)
  have hmv := xGm h m.fr m.to
  unfold xKd xDJ
  by_cases h4 : m.kind = 4
  · rw [if_pos h4, if_pos h4]
    have hd1 := xCG h (xAE m.to)
    have hd2 := xCG hd1 (xAE m.fr)
    rw [xHw hd2 hmv]
    refine Srt.ext (xAi hd2 hmv) (xCG (xAi hd1 hmv) _) fun k => ?_
    rw [xAh k hd2 hmv, xDH (xAi hd1 hmv), xAh k hd1 hmv, xDH hd1, xAX]
    cases hb : xAD k m.fr with
    | false => simp
    | true =>
      simp only [if_true, Option.or_none]
      refine xEY ?_ t
      cases hc : xAD k m.to with
      | false => rfl
      | true => 
        rcases xK8 hb hc with h5 | h5
        · rw [ap1] at h5; cases h5
        · rw [ap2] at h5; cases h5
  · rw [if_neg h4, if_neg h4, xHw (xCG h _) hmv]
def rallT (t : List PairL) (l : List MsgL) : List PairL := l.foldl xGc t
theorem xRM : ∀ (l : List MsgL) {t : List PairL}, Srt t → (∀ m ∈ l, MsgOk m) → rallT t l = allT t l
  | [], t, _, _ => rfl
  | m :: l, t, h, hm => by
    unfold rallT allT
    rw [List.foldl_cons, List.foldl_cons, xJb h (hm m (by simp))]
    exact xRM l (xHe h m) fun x hx => hm x (by simp [hx])
end Go.Pu
set_option linter.unusedVariables false
set_option linter.unusedSimpArgs false
namespace Go.Pu
theorem xL8 {k x : Str} : ∀ (r : List MsgL) {t : List PairL} {k x : Str}, Srt t → (∀ m ∈ r, MsgOk m) → bksL r k = some x → (xAM (allT t r.reverse) k).isSome = (xAM t x).isSome
  | [], t, k, x, h, _, e => by cases e; rfl
  | m :: r, t, k, x, h, hm, e => by
    rw [bksL] at e
    obtain ⟨y, e1, e2⟩ := Option.bind_eq_some_iff.1 e
    have h1 : allT t (m :: r).reverse = xC1 (allT t r.reverse) m := by
      unfold allT
      rw [List.reverse_cons, List.foldl_append]
      rfl
    rw [h1, xCd (xBo _ h) (hm m (by simp)), effP, e1]
    simp only [Option.isSome_map]
    exact xL8 (k := k) (x := x) r h (fun m' h' => hm m' (by simp [h'])) e2
theorem isSome_mem {t : List PairL} {k : Str} : (xAM t k).isSome = true ↔ ∃ p ∈ t, p.key = k := by
  constructor
  · intro h
    obtain ⟨p, hp⟩ := Option.isSome_iff_exists.1 h
    exact ⟨p, xJ7 hp, xBR hp⟩
  · rintro ⟨p, hp, hk⟩
    cases h : xAM t k with
    | some q => rfl
    | none => exact absurd hk (findP_none.1 h p hp)
def xQc (s : SpanL) (l : List MsgL) (k : Str) : Bool := (xBK (allT [⟨k, [104, 101, 114, 101], 1⟩] l) s).any fun p => !(keyL p.key l).known && (keyL p.key l).key == k
theorem xRz (s : SpanL) {l : List MsgL} (hl : ∀ m ∈ l, MsgOk m) (k : Str) : xQc s l k = inL (xBx s l.reverse) k := by
  have hr : ∀ m ∈ l.reverse, MsgOk m := fun m hm => hl m (List.mem_reverse.1 hm)
  have key : ∀ x, (!(keyL x l).known && (keyL x l).key == k) = true ↔ bksL l.reverse x = some k := by
    intro x
    rw [Bool.and_eq_true, Bool.not_eq_true', xN0]
    cases hb : bksL l.reverse x with
    | none => simp
    | some y =>
      rw [(xRt hb).1]
      simp
  rw [Bool.eq_iff_iff, xMI s hr k, xQc, List.any_eq_true]
  constructor
  · rintro ⟨p, hp, h⟩
    unfold xBK at hp
    rw [List.mem_filter] at hp
    exact ⟨p.key, hp.2, (key _).1 h⟩
  · rintro ⟨x, hx, hb⟩
    have h1 := xL8 (k := x) (x := k) l.reverse (t := [⟨k, [104, 101, 114, 101], 1⟩]) (List.pairwise_singleton _ _) hr hb
    rw [List.reverse_reverse] at h1
    have h2 : (xAM [(⟨k, [104, 101, 114, 101], 1⟩ : PairL)] k).isSome = true := by rw [xAH, if_pos rfl]; rfl
    rw [h2] at h1
    obtain ⟨p, hp, hk⟩ := isSome_mem.1 h1
    refine ⟨p, ?_, ?_⟩
    · unfold xBK
      rw [List.mem_filter, hk]
      exact ⟨hp, hx⟩
    · rw [hk]
      exact (key x).2 hb
end Go.Pu
set_option linter.unusedVariables false
set_option linter.unusedSimpArgs false
namespace Go.Pu
def xMC (k : Str) (f : FolL) (o : Option PairL) : Option PairL := o.map fun p => ⟨k, p.val, if f.std = true then f.st else p.stamp⟩
def xPC (k : Str) (f : FolL) (t : List PairL) : Option PairL := if f.known = true then (if f.has = true then some ⟨k, f.val, f.st⟩ else none) else xMC k f (xAM t f.key)
theorem xLN (k : Str) : ∀ (r : List MsgL) (f : FolL) {t : List PairL}, Srt t → (∀ m ∈ r, MsgOk m) → f.known = false → f.has = false → xMC k f (xAM (allT t r.reverse) f.key) = xPC k (xAN f r) t
  | [], f, t, h, _, hk, _ => by
    unfold xPC xAN
    rw [if_neg (by rw [hk]; simp)]
    rfl
  | m :: r, f, t, h, hm, hk, hh => by
    have h1 : allT t (m :: r).reverse = xC1 (allT t r.reverse) m := by
      unfold allT
      rw [List.reverse_cons, List.foldl_append]
      rfl
    have hmk := hm m (by simp)
    have hs := xBo r.reverse h
    rw [h1, xCd hs hmk, xBF hk]
    unfold effP
    cases hb : bkL m f.key with
    | none =>
      have hkn := xFE hb
      rw [xAS hkn]
      unfold xPC
      rw [if_pos hkn]
      by_cases k1 : m.kind = 1
      · have e : xAl f m = { xBY f m.n with known := true, has := true, val := m.val } := by
          unfold bkL at hb
          unfold xAl
          simp only [k1, true_or, if_true] at hb ⊢
          split at hb
          · rename_i e
            rw [if_pos e]
          · cases hb
        rw [e, if_pos k1]
        simp only [if_true, xMC, Option.map_some]
        unfold xBY
        cases hst : f.std <;> simp
      · have e : (xAl f m).has = false := by
          unfold xAl
          rw [if_neg k1]
          repeat' split
          all_goals first | exact hh | (rw [(xCZ f m.n).2.2.1]; exact hh)
        rw [e, if_neg k1]
        simp [xMC]
    | some x =>
      obtain ⟨e1, e2, e3, e4⟩ := xHd hb
      have ih := xLN k r (xAl f m) h (fun m' h' => hm m' (by simp [h'])) (e2.trans hk) (e3.trans hh)
      rw [← ih, e1]
      unfold xMC
      simp only [Option.map_map]
      congr 1
      funext p
      simp only [Function.comp]
      by_cases k6 : m.kind = 6
      · have e5 : xAl f m = if hasL m.sp f.key = true then xBY f m.n else f := by unfold xAl; simp [k6]
        have e6 : x = f.key := by unfold bkL at hb; simp [k6] at hb; exact hb.symm
        rw [e5]
        unfold xBY
        cases hc : hasL m.sp f.key <;> cases hst : f.std <;> simp [k6, hst]
      · have e5 : (xAl f m).std = f.std ∧ (xAl f m).st = f.st := by
          unfold bkL at hb
          unfold xAl
          by_cases k1 : m.kind = 1
          · simp only [k1, true_or, if_true] at hb ⊢
            split at hb
            · cases hb
            · rename_i hne
              rw [if_neg hne]; exact ⟨rfl, rfl⟩
          · rw [if_neg k1]
            repeat' split
            all_goals first | exact ⟨rfl, rfl⟩ | (rename_i h6 _; exact absurd h6 k6)
        rw [e5.1, e5.2]
        simp [k6]
theorem read_law (k : Str) {l : List MsgL} {t : List PairL} (h : Srt t) (hm : ∀ m ∈ l, MsgOk m) : xAM (allT t l) k = xPC k (xAN (fol0 k) l.reverse) t := by
  have := xLN k l.reverse (fol0 k) h (fun m h' => hm m (List.mem_reverse.1 h')) rfl rfl
  rw [← this, List.reverse_reverse]
  have e : (fol0 k).key = k := rfl
  rw [e]
  unfold xMC
  cases hf : xAM (allT t l) k with
  | none => rfl
  | some p =>
    have := xBR hf
    subst this
    rfl
end Go.Pu
set_option linter.unusedVariables false
set_option linter.unusedSimpArgs false
namespace Go.Pu
theorem xGJ (t : List PairL) (m : MsgL) (r : List MsgL) : allT t (m :: r).reverse = xC1 (allT t r.reverse) m := by
  unfold allT
  rw [List.reverse_cons, List.foldl_append]
  rfl
theorem xSD (t : List PairL) (a b : List MsgL) : allT t (a ++ b) = allT (allT t a) b := List.foldl_append
theorem xKA {m : MsgL} {k : Str} {f g : Str → Option PairL} (h : ∀ x, bkL m k = some x → f x = g x) : effP m k f = effP m k g := by
  unfold effP
  cases hb : bkL m k with
  | none => rfl
  | some x => simp only; rw [h x hb]
theorem xL4 {m : MsgL} (hm : MsgOk m) {k x : Str} (h : bkL m k = some x) : inL (xDA m) x = true ∨ (x = k ∧ inL (xDB m) k = false) := by
  unfold bkL at h
  unfold xDA xDB xAu
  by_cases h1 : m.kind = 1 ∨ m.kind = 2
  · rw [if_pos h1] at h
    right
    have h6 : ¬ m.kind = 6 := by omega
    split at h
    · cases h
    · cases h
      rename_i hk
      refine ⟨rfl, ?_⟩
      rw [if_neg h6, if_pos h1]
      simp only [inL, List.any_cons, List.any_nil, Bool.or_false, xFM]
      exact beq_eq_false_iff_ne.2 (fun e => hk e.symm)
  rw [if_neg h1] at h
  by_cases h3 : m.kind = 3
  · rw [if_pos h3] at h
    right
    split at h
    · cases h
    · cases h
      rename_i hk
      refine ⟨rfl, ?_⟩
      rw [if_neg (by omega), if_neg h1, if_neg (by omega), if_neg (by omega)]
      simpa [inL] using hk
  rw [if_neg h3] at h
  by_cases h6 : m.kind = 6
  · rw [if_pos h6] at h
    right
    cases h
    refine ⟨rfl, ?_⟩
    rw [if_pos h6]; rfl
  rw [if_neg h6] at h
  have h45 (hk : 1 ≤ m.kind ∧ m.kind ≤ 6) : m.kind = 4 ∨ m.kind = 5 := by omega
  have h45 := h45 hm.k
  split at h
  · cases h
  rename_i h4
  split at h
  · cases h
    left
    rw [if_pos h45]
    simp [inL, xAX, xBT]
  · cases h
    right
    refine ⟨rfl, ?_⟩
    rename_i hto
    rw [if_neg h6, if_neg h1]
    by_cases hk4 : m.kind = 4
    · rw [if_pos hk4]
      have : xAD k m.fr = false := by
        cases hb : xAD k m.fr with
        | false => rfl
        | true => exact absurd ⟨hk4, hb⟩ h4
      simp [inL, xAX, this, hto]
    · rw [if_neg hk4, if_pos (by omega)]
      simp [inL, xAX, hto]
theorem xKx {m : MsgL} (hm : MsgOk m) {k : Str} (hw : inL (xAu m) k = false) {t : List PairL} : effP m k (xAM t) = xAM t k := by
  have hk := hm.k
  unfold xAu at hw
  unfold effP bkL
  by_cases h1 : m.kind = 1 ∨ m.kind = 2
  · rw [if_pos h1] at hw ⊢
    simp only [inL, List.any_cons, List.any_nil, Bool.or_false, xFM, beq_eq_false_iff_ne] at hw
    rw [if_neg (fun e => hw e.symm)]
    simp only [show ¬ m.kind = 6 by omega, false_and, if_false]
    exact find_eta
  rw [if_neg h1] at hw ⊢
  by_cases h3 : m.kind = 3
  · rw [if_neg (by omega), if_neg (by omega)] at hw
    simp only [inL, List.any_cons, List.any_nil, Bool.or_false] at hw
    rw [if_pos h3, if_neg (by simp [hw])]
    simp only [show ¬ m.kind = 6 by omega, false_and, if_false]
    exact find_eta
  rw [if_neg h3]
  by_cases h6 : m.kind = 6
  · rw [if_neg (by omega), if_neg (by omega)] at hw
    simp only [inL, List.any_cons, List.any_nil, Bool.or_false] at hw
    rw [if_pos h6]
    simp only [hw, Bool.false_eq_true, and_false, if_false]
    exact find_eta
  rw [if_neg h6]
  by_cases h4 : m.kind = 4
  · rw [if_pos h4] at hw
    simp only [inL, List.any_cons, List.any_nil, Bool.or_false, Bool.or_eq_false_iff, xAX] at hw
    rw [if_neg (by simp [hw.1]), if_neg (by simp [hw.2])]
    simp only [h6, false_and, if_false]
    exact find_eta
  · rw [if_neg h4, if_pos (by omega)] at hw
    simp only [inL, List.any_cons, List.any_nil, Bool.or_false, xAX] at hw
    rw [if_neg (by simp [h4]), if_neg (by simp [hw])]
    simp only [h6, false_and, if_false]
    exact find_eta
theorem xED : ∀ (r : List MsgL) (d : List SpanL) {t u : List PairL}, Srt t → Srt u → (∀ m ∈ r, MsgOk m) → (∀ k, inL (xOJ r d) k = false → xAM t k = xAM u k) →
    ∀ k, inL d k = false → xAM (allT t r.reverse) k = xAM (allT u r.reverse) k
  | [], d, t, u, _, _, _, h, k, hk => h k hk
  | m :: r, d, t, u, ht, hu, hm, h, k, hk => by
    have hmo := hm m (by simp)
    have hr : ∀ x ∈ r, MsgOk x := fun x hx => hm x (by simp [hx])
    rw [xGJ, xGJ, xCd (xBo _ ht) hmo, xCd (xBo _ hu) hmo]
    rw [xOJ] at h
    by_cases hc : covL m d = true
    · rw [if_pos hc] at h
      have hw : inL (xAu m) k = false := by
        cases hw : inL (xAu m) k with
        | false => rfl
        | true => rw [cov_iff.1 hc k hw] at hk; cases hk
      rw [xKx hmo hw, xKx hmo hw]
      exact xED r d ht hu hr h k hk
    · rw [if_neg hc] at h
      refine xKA fun x hx => xED r _ ht hu hr h x ?_
      rw [xE0]
      rcases xL4 hmo hx with h1 | ⟨rfl, h1⟩
      · rw [h1]; simp
      · rw [hk, h1]; rfl
theorem xEJ : ∀ (r : List MsgL) (d : List SpanL) {t : List PairL}, Srt t → (∀ m ∈ r, MsgOk m) → ∀ k, inL d k = false → xAM (allT t r.reverse) k = xAM (allT t (xDC r d).reverse) k
  | [], d, t, _, _, k, hk => rfl
  | m :: r, d, t, ht, hm, k, hk => by
    have hmo := hm m (by simp)
    have hr : ∀ x ∈ r, MsgOk x := fun x hx => hm x (by simp [hx])
    rw [xGJ, xCd (xBo _ ht) hmo, xDC]
    by_cases hc : covL m d = true
    · rw [if_pos hc]
      have hw : inL (xAu m) k = false := by
        cases hw : inL (xAu m) k with
        | false => rfl
        | true => rw [cov_iff.1 hc k hw] at hk; cases hk
      rw [xKx hmo hw]
      exact xEJ r d ht hr k hk
    · rw [if_neg hc, xGJ, xCd (xBo _ ht) hmo]
      refine xKA fun x hx => xEJ r _ ht hr x ?_
      rw [xE0]
      rcases xL4 hmo hx with h1 | ⟨rfl, h1⟩
      · rw [h1]; simp
      · rw [hk, h1]; rfl
theorem reduce_all {t : List PairL} (ht : Srt t) {l : List MsgL} (hl : ∀ m ∈ l, MsgOk m) : allT t (xCP l) = allT t l := by
  refine Srt.ext (xBo _ ht) (xBo _ ht) fun k => ?_
  have h := xEJ l.reverse (xAP []) ht (fun m hm => hl m (List.mem_reverse.1 hm)) k (by rfl)
  rw [List.reverse_reverse] at h
  exact h.symm
def outT (t : List PairL) (d : List SpanL) : List PairL := t.filter fun p => !inL d p.key
def inT (t : List PairL) (d : List SpanL) : List PairL := t.filter fun p => inL d p.key
theorem xI8 {t : List PairL} (h : Srt t) (d : List SpanL) (k : Str) : xAM (outT t d) k = if inL d k = true then none else xAM t k := by
  unfold outT
  rw [xBN h]
  cases hf : xAM t k with
  | none => simp
  | some p =>
    have := xBR hf
    rw [Option.filter_some, this]
    cases inL d k <;> simp
theorem xR1 {t : List PairL} (h : Srt t) (d : List SpanL) (k : Str) : xAM (inT t d) k = if inL d k = true then xAM t k else none := by
  unfold inT
  rw [xBN h]
  cases hf : xAM t k with
  | none => simp
  | some p =>
    have := xBR hf
    rw [Option.filter_some, this]
theorem xIj {t : List PairL} (h : Srt t) (d : List SpanL) : Srt (outT t d) := h.filter _
theorem xQZ {t : List PairL} (h : Srt t) (d : List SpanL) : Srt (inT t d) := h.filter _
theorem live_out {t : List PairL} (ht : Srt t) {l : List MsgL} (hl : ∀ m ∈ l, MsgOk m) (d : List SpanL) : outT (allT t l) d = outT (allT t (xKr l d).1) d := by
  refine Srt.ext (xIj (xBo _ ht) _) (xIj (xBo _ ht) _) fun k => ?_
  rw [xI8 (xBo _ ht), xI8 (xBo _ ht)]
  split
  · rfl
  · rename_i hk
    have h := xEJ l.reverse (xAP d) ht (fun m hm => hl m (List.mem_reverse.1 hm)) k (by rw [(xAp d).2]; simpa using hk)
    rw [List.reverse_reverse] at h
    exact h
def xNc (t u : List PairL) (d : List SpanL) : List PairL := xA0 (outT t d) (inT u d)
theorem xNb {t u : List PairL} (ht : Srt t) (hu : Srt u) (d : List SpanL) : Srt (xNc t u d) := xAi (xIj ht d) (xQZ hu d)
theorem live_other {t u : List PairL} (ht : Srt t) (hu : Srt u) {l : List MsgL} (hl : ∀ m ∈ l, MsgOk m) : allT t l = allT (xNc t u (xKr l []).2) l := by
  have ho := xNb ht hu (xKr l []).2
  refine Srt.ext (xBo _ ht) (xBo _ ho) fun k => ?_
  have h := xED l.reverse (xAP []) ht ho (fun m hm => hl m (List.mem_reverse.1 hm)) (fun k hk => ?_) k (by rfl)
  · rw [List.reverse_reverse] at h
    exact h
  · have hk' : inL (xKr l []).2 k = false := hk
    unfold xNc
    rw [xAh k (xIj ht _) (xQZ hu _), xR1 hu, xI8 ht, hk']
    simp
end Go.Pu
