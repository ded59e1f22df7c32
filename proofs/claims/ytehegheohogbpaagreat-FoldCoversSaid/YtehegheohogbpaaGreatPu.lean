/- The order of texts, and sorted tables: plain Lean. -/
import GoSem.Op.String
import Derived.Sort.AssemblyPlain
set_option linter.unusedVariables false
namespace Go.Pu
abbrev Str := List UInt8
theorem xBx (a : Str) : Op.bytesLess a [] = false := by cases a <;> rfl
theorem xAk : ∀ a : Str, Op.bytesLess a a = false
  | [] => rfl
  | x :: a => by
    simp only [Op.bytesLess, Op.bytesLess, Bool.or_eq_false_iff, decide_eq_false_iff_not, Bool.and_eq_false_iff]
    exact ⟨UInt8.lt_irrefl x, .inr (xAk a)⟩
theorem blt_cons {x y : UInt8} {a b : Str} : Op.bytesLess (x :: a) (y :: b) = true ↔ x < y ∨ (x = y ∧ Op.bytesLess a b = true) := by
  simp [Op.bytesLess, Op.bytesLess]
theorem xAq : ∀ {a b c : Str}, Op.bytesLess a b = true → Op.bytesLess b c = true → Op.bytesLess a c = true
  | _, _, [], _, h => by rw [xBx] at h; cases h
  | _, [], _ :: _, h, _ => by rw [xBx] at h; cases h
  | [], _ :: _, _ :: _, _, _ => rfl
  | x :: a, y :: b, z :: c, h1, h2 => by
    rw [blt_cons] at h1 h2 ⊢
    rcases h1 with h1 | ⟨rfl, h1⟩
    · rcases h2 with h2 | ⟨rfl, h2⟩
      · exact .inl (UInt8.lt_trans h1 h2)
      · exact .inl h1
    · rcases h2 with h2 | ⟨rfl, h2⟩
      · exact .inl h2
      · exact .inr ⟨rfl, xAq h1 h2⟩
theorem xBw : ∀ (a b : Str), Op.bytesLess a b = true ∨ a = b ∨ Op.bytesLess b a = true
  | [], [] => .inr (.inl rfl)
  | [], _ :: _ => .inl rfl
  | _ :: _, [] => .inr (.inr rfl)
  | x :: a, y :: b => by
    rw [blt_cons, blt_cons]
    by_cases h : x < y
    · exact .inl (.inl h)
    · by_cases h' : y < x
      · exact .inr (.inr (.inl h'))
      · have e : x = y := UInt8.le_antisymm (UInt8.not_lt.1 h') (UInt8.not_lt.1 h)
        subst e
        rcases xBw a b with h1 | h1 | h1
        · exact .inl (.inr ⟨rfl, h1⟩)
        · exact .inr (.inl (by rw [h1]))
        · exact .inr (.inr (.inr ⟨rfl, h1⟩))
theorem xBX {a b : Str} (h : Op.bytesLess a b = true) : Op.bytesLess b a = false := by
  cases h' : Op.bytesLess b a with
  | false => rfl
  | true => have := xAq h h'; rw [xAk] at this; cases this
theorem xJL {a b : Str} (h : Op.bytesLess a b = true) : a ≠ b := by
  intro e; subst e; rw [xAk] at h; cases h
theorem xLj {a b : Str} (h : Op.bytesLess a b = false) (hne : a ≠ b) : Op.bytesLess b a = true := by
  rcases xBw a b with h1 | h1 | h1
  · rw [h] at h1; cases h1
  · exact absurd h1 hne
  · exact h1
def ble (a b : Str) : Bool := !Op.bytesLess b a
theorem ble_iff {a b : Str} : ble a b = true ↔ Op.bytesLess a b = true ∨ a = b := by
  unfold ble
  constructor
  · intro h
    have h : Op.bytesLess b a = false := by simpa using h
    rcases xBw a b with h1 | h1 | h1
    · exact .inl h1
    · exact .inr h1
    · rw [h] at h1; cases h1
  · rintro (h | rfl)
    · simp [xBX h]
    · simp [xAk]
theorem xDy (a : Str) : ble a a = true := ble_iff.2 (.inr rfl)
theorem xA1 {a b c : Str} (h1 : ble a b = true) (h2 : ble b c = true) : ble a c = true := by
  rw [ble_iff] at *
  rcases h1 with h1 | rfl
  · rcases h2 with h2 | rfl
    · exact .inl (xAq h1 h2)
    · exact .inl h1
  · exact h2
theorem xLk {a b c : Str} (h1 : ble a b = true) (h2 : Op.bytesLess b c = true) : Op.bytesLess a c = true := by
  rw [ble_iff] at h1
  rcases h1 with h1 | rfl
  · exact xAq h1 h2
  · exact h2
theorem xAe {a b c : Str} (h1 : Op.bytesLess a b = true) (h2 : ble b c = true) : Op.bytesLess a c = true := by
  rw [ble_iff] at h2
  rcases h2 with h2 | rfl
  · exact xAq h1 h2
  · exact h1
theorem xPK {a : Str} : Op.bytesLess [] a = true ↔ a ≠ [] := by cases a <;> simp [Op.bytesLess, Op.bytesLess]
theorem xDl (a : Str) : ble [] a = true := by simp [ble, xBx]
structure PairL where
  key : Str
  val : Str
  stamp : Int
  deriving DecidableEq
def Srt (t : List PairL) : Prop := t.Pairwise fun a b => Op.bytesLess a.key b.key = true
def xDQ : List PairL → Bool
  | a :: b :: r => Op.bytesLess a.key b.key && xDQ (b :: r)
  | _ => true
theorem xJZ : ∀ {t : List PairL}, xDQ t = true ↔ Srt t
  | [] => by simp [xDQ, Srt]
  | [a] => by simp [xDQ, Srt]
  | a :: b :: r => by
    rw [xDQ, Bool.and_eq_true, xJZ (t := b :: r)]
    unfold Srt
    rw [List.pairwise_cons (a := a)]
    constructor
    · rintro ⟨h1, h2⟩
      refine ⟨fun c hc => ?_, h2⟩
      rcases List.mem_cons.1 hc with rfl | hc
      · exact h1
      · exact xAq h1 ((List.pairwise_cons.1 h2).1 c hc)
    · rintro ⟨h1, h2⟩
      exact ⟨h1 b (by simp), h2⟩
def xCV (p : PairL) (s : List PairL × Bool) (x : PairL) : List PairL × Bool :=
  let s1 := if (!s.2 && !(Op.bytesLess x.key p.key)) = true then (s.1 ++ [p], true) else s
  (if (!(x.key == p.key)) = true then s1.1 ++ [x] else s1.1, s1.2)
def putL (t : List PairL) (p : PairL) : List PairL :=
  let s := t.foldl (xCV p) ([], false)
  if s.2 = true then s.1 else s.1 ++ [p]
def insL (p : PairL) : List PairL → List PairL
  | [] => [p]
  | x :: r => if Op.bytesLess x.key p.key = true then x :: insL p r else p :: (x :: r).filter fun y => !(y.key == p.key)
theorem putT (p : PairL) : ∀ (l o : List PairL), l.foldl (xCV p) (o, true) = (o ++ l.filter (fun y => !(y.key == p.key)), true)
  | [], o => by simp
  | x :: l, o => by
    rw [List.foldl_cons]
    have : xCV p (o, true) x = (o ++ [x].filter (fun y => !(y.key == p.key)), true) := by
      simp only [xCV, Bool.not_true, Bool.false_and, Bool.false_eq_true, if_false, List.filter_cons, List.filter_nil]
      split <;> simp
    rw [this, putT p l, List.append_assoc, ← List.filter_append]
    rfl
theorem putF (p : PairL) : ∀ (l o : List PairL), (if (l.foldl (xCV p) (o, false)).2 = true then (l.foldl (xCV p) (o, false)).1 else (l.foldl (xCV p) (o, false)).1 ++ [p]) = o ++ insL p l
  | [], o => by simp [insL]
  | x :: l, o => by
    rw [List.foldl_cons, insL]
    by_cases h : Op.bytesLess x.key p.key = true
    · have hne : (x.key == p.key) = false := by simpa using xJL h
      have : xCV p (o, false) x = (o ++ [x], false) := by
        simp [xCV, h, xJL h]
      rw [this, putF p l, if_pos h, List.append_assoc]
      rfl
    · have h' : Op.bytesLess x.key p.key = false := by simpa using h
      have : xCV p (o, false) x = (o ++ [p] ++ [x].filter (fun y => !(y.key == p.key)), true) := by
        simp only [xCV, Bool.not_false, h', Bool.and_self, if_true, List.filter_cons, List.filter_nil]
        split <;> simp
      rw [this, putT, if_neg h]
      simp only [if_true]
      rw [List.append_assoc, List.append_assoc, ← List.filter_append]
      rfl
theorem xMV (t : List PairL) (p : PairL) : putL t p = insL p t := by
  have := putF p t []
  simpa [putL] using this
theorem xKs {p y : PairL} : ∀ {t : List PairL}, y ∈ insL p t → y = p ∨ y ∈ t
  | [], h => by simp [insL] at h; exact .inl h
  | x :: r, h => by
    rw [insL] at h
    split at h
    · rcases List.mem_cons.1 h with rfl | h
      · exact .inr (by simp)
      · rcases xKs h with h | h
        · exact .inl h
        · exact .inr (List.mem_cons_of_mem _ h)
    · rcases List.mem_cons.1 h with rfl | h
      · exact .inl rfl
      · exact .inr (List.mem_filter.1 h).1
theorem xKr {p : PairL} : ∀ {t : List PairL}, Srt t → Srt (insL p t)
  | [], _ => by simp [insL, Srt]
  | x :: r, h => by
    obtain ⟨h1, h2⟩ := List.pairwise_cons.1 h
    rw [insL]
    split
    · rename_i hx
      refine List.pairwise_cons.2 ⟨fun y hy => ?_, xKr h2⟩
      rcases xKs hy with rfl | hy
      · exact hx
      · exact h1 y hy
    · rename_i hx
      have hx : Op.bytesLess x.key p.key = false := by simpa using hx
      refine List.pairwise_cons.2 ⟨fun y hy => ?_, h.filter _⟩
      obtain ⟨hy1, hy2⟩ := List.mem_filter.1 hy
      have hne : y.key ≠ p.key := by simpa using hy2
      rcases List.mem_cons.1 hy1 with rfl | hy1
      · exact xLj hx hne
      · have := h1 y hy1
        rcases xBw p.key y.key with h3 | h3 | h3
        · exact h3
        · exact absurd h3.symm hne
        · have := xAq this h3
          rw [hx] at this; cases this
theorem xKt {p : PairL} : ∀ t : List PairL, (insL p t).length ≤ t.length + 1
  | [] => by simp [insL]
  | x :: r => by
    rw [insL]
    split
    · have := xKt (p := p) r; simp; omega
    · simp only [List.length_cons]
      have := List.length_filter_le (fun y : PairL => !(y.key == p.key)) (x :: r)
      simp at this ⊢
      omega
theorem putL_len (t : List PairL) (p : PairL) : (putL t p).length ≤ t.length + 1 := by rw [xMV]; exact xKt t
theorem putL_srt {t : List PairL} {p : PairL} (h : Srt t) : Srt (putL t p) := by rw [xMV]; exact xKr h
theorem xAj {α : Type} {l : List α} {i : Nat} {x : α} (h : l[i]? = some x) : l.drop i = x :: l.drop (i + 1) := by
  have hl := (List.getElem?_eq_some_iff.1 h).1
  rw [List.drop_eq_getElem_cons hl]
  congr 1
  exact (List.getElem?_eq_some_iff.1 h).2
theorem xOs {xs : List PairL} {i : Nat} {a b : PairL} (ha : xs[i]? = some a) (hb : xs[i + 1]? = some b) : xDQ (xs.drop i) = (Op.bytesLess a.key b.key && xDQ (xs.drop (i + 1))) := by
  rw [xAj ha, xAj hb, xDQ]
end Go.Pu
set_option linter.unusedVariables false
namespace Go.Pu
structure SpanL where
  lo : Str
  hi : Str
  deriving DecidableEq
def hasL (s : SpanL) (k : Str) : Bool := !(Op.bytesLess k s.lo) && (s.hi == [] || Op.bytesLess k s.hi)
def xAI (s : SpanL) : Bool := !(s.hi == []) && (Op.bytesLess s.hi s.lo || s.hi == s.lo)
def xDk (a b : Str) : Int := if Op.bytesLess a b = true then -1 else if a = b then 0 else 1
def xD8 (e f : Str) : Int := if e = f then 0 else if e = [] then 1 else if f = [] then -1 else xDk e f
def xBp (a b : Str) : Str := if xD8 b a < 0 then b else a
def maxL (a b : Str) : Str := if Op.bytesLess a b = true then b else a
def xG5 : SpanL := ⟨[97], [97]⟩
def xAp (a b : SpanL) : SpanL := if xAI ⟨maxL a.lo b.lo, xBp a.hi b.hi⟩ = true then xG5 else ⟨maxL a.lo b.lo, xBp a.hi b.hi⟩
def xNL (a b : SpanL) : Bool := xAI b || (hasL a b.lo && decide (xD8 a.hi b.hi ≥ 0))
def xCr (a b : Str) : Bool := !(a == []) && (b == [] || Op.bytesLess a b)
def xKH (a b : SpanL) : SpanL :=
  let s : SpanL := ⟨maxL a.lo b.lo, if xCr b.hi a.hi = true then b.hi else a.hi⟩
  if xAI s = true then xG5 else s
def xKJ (a b : SpanL) : Bool := xAI b || (!xAI a && (Op.bytesLess a.lo b.lo || a.lo == b.lo) && !xCr a.hi b.hi)
def xAF (k p : Str) : Bool := decide (k.length ≥ p.length) && (k.take p.length == p)
def xFD (k f t : Str) : Str × Bool := if xAF k f = true then (t ++ k.drop f.length, true) else ([], false)
def oneL (k : Str) : SpanL := ⟨k, k ++ [0]⟩
def xBP (p : Str) : Nat → Nat
  | 0 => 0
  | n + 1 => if p[n]? = some 255 then xBP p n else n + 1
def upL (p : Str) : Str :=
  match xBP p p.length with
  | 0 => []
  | n + 1 => p.take n ++ [p.getD n 0 + 1]
def xAU (p : Str) : SpanL := ⟨p, upL p⟩
theorem xIX (p : Str) : ∀ n, xBP p n ≤ n
  | 0 => Nat.le_refl _
  | n + 1 => by
    rw [xBP]
    split
    · exact Nat.le_succ_of_le (xIX p n)
    · exact Nat.le_refl _
theorem has_iff {s : SpanL} {k : Str} : hasL s k = true ↔ ble s.lo k = true ∧ (s.hi = [] ∨ Op.bytesLess k s.hi = true) := by
  simp [hasL, ble]
theorem empty_iff {s : SpanL} : xAI s = true ↔ s.hi ≠ [] ∧ ble s.hi s.lo = true := by
  simp only [xAI, Bool.and_eq_true, Bool.not_eq_true', Bool.or_eq_true, beq_iff_eq, beq_eq_false_iff_ne, ble_iff]
theorem xAc {s : SpanL} (h : xAI s = true) (k : Str) : hasL s k = false := by
  cases hk : hasL s k with
  | false => rfl
  | true =>
    obtain ⟨h1, h2⟩ := empty_iff.1 h
    obtain ⟨h3, h4⟩ := has_iff.1 hk
    rcases h4 with h4 | h4
    · exact absurd h4 h1
    · have := xAe h4 (xA1 h2 h3)
      rw [xAk] at this; cases this
theorem xDJ {s : SpanL} (h : xAI s = false) : hasL s s.lo = true := by
  refine has_iff.2 ⟨xDy _, ?_⟩
  by_cases he : s.hi = []
  · exact .inl he
  · right
    cases hb : Op.bytesLess s.lo s.hi with
    | true => rfl
    | false =>
      have : xAI s = true := empty_iff.2 ⟨he, by simp [ble, hb]⟩
      rw [h] at this; cases this
def elt (a b : Str) : Prop := a ≠ [] ∧ (b = [] ∨ Op.bytesLess a b = true)
theorem less_iff {a b : Str} : xCr a b = true ↔ elt a b := by simp [xCr, elt]
theorem xJF {a b : Str} : xDk a b < 0 ↔ Op.bytesLess a b = true := by
  unfold xDk
  split
  · rename_i h; simp [h]
  · rename_i h
    split <;> simp [h]
theorem xNO {a b : Str} : xDk a b = 0 ↔ a = b := by
  unfold xDk
  split
  · rename_i h
    constructor
    · intro h'; simp at h'
    · intro e; subst e; rw [xAk] at h; cases h
  · split
    · rename_i h; simp [h]
    · rename_i h; simp [h]
theorem cmpEnd_lt {a b : Str} : xD8 a b < 0 ↔ elt a b := by
  unfold xD8 elt
  split
  · rename_i h
    subst h
    simp
    intro h; exact ⟨h, xAk a⟩
  · rename_i h
    split
    · rename_i h1; simp [h1]
    · rename_i h1
      split
      · rename_i h2; simp [h1, h2]
      · rename_i h2; simp [h1, h2, xJF]
theorem cmpEnd_eq {a b : Str} : xD8 a b = 0 ↔ a = b := by
  unfold xD8
  split
  · rename_i h; simp [h]
  · rename_i h
    split
    · simp [h]
    · split
      · simp [h]
      · rw [xNO]
theorem xEc (a b : Str) : xBp a b = if xCr b a = true then b else a := by
  unfold xBp
  by_cases h : elt b a
  · rw [if_pos (cmpEnd_lt.2 h), if_pos (less_iff.2 h)]
  · rw [if_neg (fun h' => h (cmpEnd_lt.1 h')), if_neg (fun h' => h (less_iff.1 h'))]
theorem xOE (a b : SpanL) : xAp a b = xKH a b := by
  unfold xAp xKH
  rw [xEc]
theorem xNA (a b : Str) : elt a b ∨ a = b ∨ elt b a := by
  unfold elt
  by_cases ha : a = []
  · by_cases hb : b = []
    · exact .inr (.inl (ha.trans hb.symm))
    · exact .inr (.inr ⟨hb, .inl ha⟩)
  · by_cases hb : b = []
    · exact .inl ⟨ha, .inl hb⟩
    · rcases xBw a b with h | h | h
      · exact .inl ⟨ha, .inr h⟩
      · exact .inr (.inl h)
      · exact .inr (.inr ⟨hb, .inr h⟩)
theorem xGk {a b : Str} (h : elt a b) : ¬ elt b a := by
  rintro ⟨h1, h2⟩
  obtain ⟨h3, h4⟩ := h
  rcases h4 with h4 | h4
  · exact h1 h4
  · rcases h2 with h2 | h2
    · exact h3 h2
    · rw [xBX h4] at h2; cases h2
theorem xO3 {a : Str} : ¬ elt a a := fun h => xGk h h
theorem covers_ref (a b : SpanL) : xNL a b = xKJ a b := by
  unfold xNL xKJ
  cases hb : xAI b with
  | true => rfl
  | false =>
    simp only [Bool.false_or]
    have key : decide (xD8 a.hi b.hi ≥ 0) = !xCr a.hi b.hi := by
      rw [Bool.eq_iff_iff]
      simp only [decide_eq_true_eq, Bool.not_eq_true']
      constructor
      · intro h
        cases hl : xCr a.hi b.hi with
        | false => rfl
        | true => have := cmpEnd_lt.2 (less_iff.1 hl); omega
      · intro h
        have : ¬ xD8 a.hi b.hi < 0 := fun h' => by rw [less_iff.2 (cmpEnd_lt.1 h')] at h; cases h
        omega
    rw [key]
    cases hl : xCr a.hi b.hi with
    | true => simp
    | false =>
      simp only [Bool.not_false, Bool.and_true]
      rw [Bool.eq_iff_iff, has_iff, Bool.and_eq_true, Bool.not_eq_true', Bool.or_eq_true, beq_iff_eq, ← ble_iff]
      constructor
      · rintro ⟨h1, h2⟩
        refine ⟨?_, h1⟩
        cases he : xAI a with
        | false => rfl
        | true =>
          have := xAc he b.lo
          rw [has_iff.2 ⟨h1, h2⟩] at this; cases this
      · rintro ⟨h1, h2⟩
        refine ⟨h2, ?_⟩
        by_cases ha : a.hi = []
        · exact .inl ha
        · right
          have hbl := (has_iff.1 (xDJ hb)).2
          have hn : ¬ elt a.hi b.hi := fun h => by rw [less_iff.2 h] at hl; cases hl
          rcases hbl with hbl | hbl
          · exact absurd ⟨ha, .inl hbl⟩ hn
          · rcases xBw a.hi b.hi with h | h | h
            · exact absurd ⟨ha, .inr h⟩ hn
            · rw [h]; exact hbl
            · exact xAq hbl h
theorem xGF {a b k : Str} : ble (maxL a b) k = true ↔ ble a k = true ∧ ble b k = true := by
  unfold maxL
  split
  · rename_i h
    exact ⟨fun h' => ⟨xA1 (ble_iff.2 (.inl h)) h', h'⟩, fun h' => h'.2⟩
  · rename_i h
    have h : ble b a = true := by simp [ble, h]
    exact ⟨fun h' => ⟨h', xA1 h h'⟩, fun h' => h'.1⟩
theorem xMu {a b k : Str} : (xBp a b = [] ∨ Op.bytesLess k (xBp a b) = true) ↔ (a = [] ∨ Op.bytesLess k a = true) ∧ (b = [] ∨ Op.bytesLess k b = true) := by
  rw [xEc]
  split
  · rename_i h
    obtain ⟨h1, h2⟩ := less_iff.1 h
    constructor
    · rintro (h3 | h3)
      · exact absurd h3 h1
      · refine ⟨?_, .inr h3⟩
        rcases h2 with h2 | h2
        · exact .inl h2
        · exact .inr (xAq h3 h2)
    · exact fun h => h.2
  · rename_i h
    have h : ¬ elt b a := fun h' => h (less_iff.2 h')
    constructor
    · intro h3
      refine ⟨h3, ?_⟩
      by_cases hb : b = []
      · exact .inl hb
      · right
        rcases h3 with h3 | h3
        · exact absurd ⟨hb, .inl h3⟩ h
        · rcases xBw b a with h4 | h4 | h4
          · exact absurd ⟨hb, .inr h4⟩ h
          · rw [h4]; exact h3
          · exact xAq h3 h4
    · exact fun h => h.1
theorem xCL (a b : SpanL) (k : Str) : hasL (xAp a b) k = (hasL a k && hasL b k) := by
  have key : hasL ⟨maxL a.lo b.lo, xBp a.hi b.hi⟩ k = (hasL a k && hasL b k) := by
    rw [Bool.eq_iff_iff, Bool.and_eq_true, has_iff, has_iff, has_iff]
    simp only
    rw [xGF, xMu]
    constructor
    · rintro ⟨⟨h1, h2⟩, h3, h4⟩; exact ⟨⟨h1, h3⟩, h2, h4⟩
    · rintro ⟨⟨h1, h2⟩, h3, h4⟩; exact ⟨⟨h1, h3⟩, h2, h4⟩
  unfold xAp
  split
  · rename_i h
    rw [← key, xAc h]
    exact xAc (s := xG5) (by decide) k
  · exact key
theorem xOF (a b : Str) : maxL a b = maxL b a := by
  unfold maxL
  rcases xBw a b with h | h | h
  · rw [if_pos h, if_neg (by simp [xBX h])]
  · subst h; rfl
  · rw [if_neg (by simp [xBX h]), if_pos h]
theorem xLV (a b : Str) : xBp a b = xBp b a := by
  rw [xEc, xEc]
  rcases xNA a b with h | h | h
  · rw [if_neg (fun h' => xGk h (less_iff.1 h')), if_pos (less_iff.2 h)]
  · subst h; rfl
  · rw [if_pos (less_iff.2 h), if_neg (fun h' => xGk h (less_iff.1 h'))]
theorem meet_comm (a b : SpanL) : xAp a b = xAp b a := by
  unfold xAp
  rw [xOF a.lo, xLV a.hi]
theorem meet_empty {a b : SpanL} (h : xAI (xAp a b) = true) : xAp a b = xG5 := by
  unfold xAp at h ⊢
  split
  · rfl
  · rename_i h1
    rw [if_neg h1] at h
    exact absurd h h1
theorem xJj (k x : Str) : hasL (oneL k) x = (x == k) := by
  rw [Bool.eq_iff_iff, has_iff, beq_iff_eq]
  simp only [oneL]
  constructor
  · rintro ⟨h1, h2 | h2⟩
    · simp at h2
    · -- k ≤ x < k ++ [0]
      have key : ∀ k x : Str, ble k x = true → Op.bytesLess x (k ++ [0]) = true → x = k := by
        intro k
        induction k with
        | nil =>
          intro x h1 h2
          cases x with
          | nil => rfl
          | cons a x =>
            rw [List.nil_append, blt_cons] at h2
            rcases h2 with h2 | ⟨_, h2⟩
            · exact absurd h2 (UInt8.not_lt.2 (UInt8.le_iff_toNat_le.2 (by simp)))
            · rw [xBx] at h2; cases h2
        | cons b k ih =>
          intro x h1 h2
          cases x with
          | nil =>
            rw [ble_iff] at h1
            rcases h1 with h1 | h1
            · rw [xBx] at h1; cases h1
            · cases h1
          | cons a x =>
            rw [List.cons_append, blt_cons] at h2
            have h1' : ¬ (a < b ∨ a = b ∧ Op.bytesLess x k = true) := by
              intro h
              have h3 := blt_cons.2 h
              have h4 : Op.bytesLess (a :: x) (b :: k) = false := by simpa [ble] using h1
              rw [h4] at h3; cases h3
            rcases h2 with h2 | ⟨rfl, h2⟩
            · exact absurd (.inl h2) h1'
            · have : ble k x = true := by
                simp only [ble, Bool.not_eq_true']
                cases hx : Op.bytesLess x k with
                | false => rfl
                | true => exact absurd (.inr ⟨rfl, hx⟩) h1'
              rw [ih x this h2]
      exact key k x h1 h2
  · rintro rfl
    refine ⟨xDy _, .inr ?_⟩
    induction x with
    | nil => rfl
    | cons a x ih => exact blt_cons.2 (.inr ⟨rfl, ih⟩)
end Go.Pu
set_option linter.unusedVariables false
namespace Go.Pu
theorem begins_iff {k p : Str} : xAF k p = true ↔ ∃ r, k = p ++ r := by
  simp only [xAF, Bool.and_eq_true, decide_eq_true_eq, beq_iff_eq]
  constructor
  · rintro ⟨h1, h2⟩
    refine ⟨k.drop p.length, ?_⟩
    have := List.take_append_drop p.length k
    rw [h2] at this
    exact this.symm
  · rintro ⟨r, rfl⟩
    simp
theorem xEP {p a b : Str} : Op.bytesLess (p ++ a) (p ++ b) = Op.bytesLess a b := by
  induction p with
  | nil => rfl
  | cons x p ih =>
    rw [Bool.eq_iff_iff, List.cons_append, List.cons_append, blt_cons, ih]
    simp [UInt8.lt_irrefl]
theorem xCt {p a b : Str} : ble (p ++ a) (p ++ b) = ble a b := by simp [ble, xEP]
theorem xCk (p r : Str) : ble p (p ++ r) = true := by
  have := xCt (p := p) (a := []) (b := r)
  rw [List.append_nil] at this
  rw [this]; exact xDl r
theorem xFr (p : Str) : ∀ n, n ≤ p.length → (∀ i, xBP p n ≤ i → i < n → p[i]? = some 255) ∧ (∀ m, xBP p n = m + 1 → p[m]? ≠ some 255)
  | 0, _ => ⟨fun i _ h => by omega, fun m h => by cases h⟩
  | n + 1, hn => by
    obtain ⟨h1, h2⟩ := xFr p n (by omega)
    by_cases h : p[n]? = some 255
    · have e : xBP p (n + 1) = xBP p n := by rw [xBP, if_pos h]
      rw [e]
      refine ⟨fun i hi hl => ?_, h2⟩
      by_cases he : i = n
      · subst he; exact h
      · exact h1 i hi (by omega)
    · have e : xBP p (n + 1) = n + 1 := by rw [xBP, if_neg h]
      rw [e]
      refine ⟨fun i hi hl => by omega, fun m hm => ?_⟩
      have : m = n := by omega
      subst this; exact h
theorem lt_up {c : UInt8} (h : c ≠ 255) : c < c + 1 := by
  rw [UInt8.lt_iff_toNat_lt]
  have h1 : c.toNat ≠ 255 := fun e => h (UInt8.toNat_inj.1 e)
  have h2 : c.toNat < 256 := c.toNat_lt
  rw [UInt8.toNat_add]
  simp
  omega
theorem up_le {c x : UInt8} (h : c ≠ 255) (hx : x < c + 1) : x ≤ c := by
  rw [UInt8.lt_iff_toNat_lt, UInt8.toNat_add] at hx
  rw [UInt8.le_iff_toNat_le]
  have h1 : c.toNat ≠ 255 := fun e => h (UInt8.toNat_inj.1 e)
  have h2 : c.toNat < 256 := c.toNat_lt
  simp at hx
  omega
theorem le_255 (x : UInt8) : x ≤ 255 := by
  rw [UInt8.le_iff_toNat_le]
  have := x.toNat_lt
  show x.toNat ≤ 255
  omega
theorem xE2 : ∀ (p k : Str), (∀ c ∈ p, c = 255) → ble p k = true → xAF k p = true
  | [], k, _, _ => begins_iff.2 ⟨k, rfl⟩
  | c :: p, k, h, hk => by
    cases k with
    | nil =>
      rw [ble_iff] at hk
      rcases hk with hk | hk
      · rw [xBx] at hk; cases hk
      · cases hk
    | cons x k =>
      have hc : c = 255 := h c (by simp)
      subst hc
      have hx : ¬ (x < 255 ∨ x = 255 ∧ Op.bytesLess k p = true) := by
        intro h'
        have := blt_cons.2 h'
        simp [ble, this] at hk
      have hxe : x = 255 := UInt8.le_antisymm (le_255 x) (UInt8.not_lt.1 (fun h' => hx (.inl h')))
      subst hxe
      have : ble p k = true := by
        simp only [ble, Bool.not_eq_true']
        cases hb : Op.bytesLess k p with
        | false => rfl
        | true => exact absurd (.inr ⟨rfl, hb⟩) hx
      obtain ⟨r, rfl⟩ := begins_iff.1 (xE2 p k (fun c hc => h c (by simp [hc])) this)
      exact begins_iff.2 ⟨r, rfl⟩
theorem xNY {a : Str} {c : UInt8} {q : Str} (hc : c ≠ 255) (hq : ∀ x ∈ q, x = 255) (k : Str) : (ble (a ++ c :: q) k = true ∧ Op.bytesLess k (a ++ [c + 1]) = true) ↔ xAF k (a ++ c :: q) = true := by
  constructor
  · rintro ⟨h1, h2⟩
    have ha : ∀ (a k : Str), ble (a ++ c :: q) k = true → Op.bytesLess k (a ++ [c + 1]) = true → ∃ r, k = a ++ r := by
      intro a
      induction a with
      | nil => intro k _ _; exact ⟨k, rfl⟩
      | cons x a ih =>
        intro k h1 h2
        cases k with
        | nil =>
          rw [ble_iff] at h1
          rcases h1 with h1 | h1
          · rw [xBx] at h1; cases h1
          · cases h1
        | cons y k =>
          rw [List.cons_append, blt_cons] at h2
          have h1' : ¬ (y < x ∨ y = x ∧ Op.bytesLess k (a ++ c :: q) = true) := by
            intro h'
            have := blt_cons.2 h'
            rw [List.cons_append] at h1
            simp [ble, this] at h1
          have hxy : y = x := by
            rcases h2 with h2 | ⟨h2, _⟩
            · exact absurd (.inl h2) h1'
            · exact h2
          subst hxy
          have h2' : Op.bytesLess k (a ++ [c + 1]) = true := by
            rcases h2 with h2 | ⟨_, h2⟩
            · exact absurd h2 (UInt8.lt_irrefl _)
            · exact h2
          have : ble (a ++ c :: q) k = true := by
            simp only [ble, Bool.not_eq_true']
            cases hb : Op.bytesLess k (a ++ c :: q) with
            | false => rfl
            | true => exact absurd (.inr ⟨rfl, hb⟩) h1'
          obtain ⟨r, rfl⟩ := ih k this h2'
          exact ⟨r, rfl⟩
    obtain ⟨r, rfl⟩ := ha a k h1 h2
    rw [xCt] at h1
    rw [xEP] at h2
    cases r with
    | nil =>
      rw [ble_iff] at h1
      rcases h1 with h1 | h1
      · rw [xBx] at h1; cases h1
      · cases h1
    | cons y r =>
      rw [blt_cons] at h2
      have hyc : y ≤ c := by
        rcases h2 with h2 | ⟨_, h2⟩
        · exact up_le hc h2
        · rw [xBx] at h2; cases h2
      have h1' : ¬ (y < c ∨ y = c ∧ Op.bytesLess r q = true) := by
        intro h'
        have := blt_cons.2 h'
        simp [ble, this] at h1
      have hye : y = c := UInt8.le_antisymm hyc (UInt8.not_lt.1 (fun h' => h1' (.inl h')))
      subst hye
      have : ble q r = true := by
        simp only [ble, Bool.not_eq_true']
        cases hb : Op.bytesLess r q with
        | false => rfl
        | true => exact absurd (.inr ⟨rfl, hb⟩) h1'
      obtain ⟨s, rfl⟩ := begins_iff.1 (xE2 q r hq this)
      exact begins_iff.2 ⟨s, by simp⟩
  · intro h
    obtain ⟨r, rfl⟩ := begins_iff.1 h
    refine ⟨xCk _ _, ?_⟩
    rw [List.append_assoc, xEP, List.cons_append]
    exact blt_cons.2 (.inl (lt_up hc))
theorem xFq (p : Str) : (upL p = [] ∧ ∀ c ∈ p, c = 255) ∨ ∃ a c q, p = a ++ c :: q ∧ c ≠ 255 ∧ (∀ x ∈ q, x = 255) ∧ upL p = a ++ [c + 1] := by
  obtain ⟨h1, h2⟩ := xFr p p.length (Nat.le_refl _)
  have hle := xIX p p.length
  unfold upL
  cases hs : xBP p p.length with
  | zero =>
    left
    refine ⟨rfl, fun c hc => ?_⟩
    obtain ⟨i, hi⟩ := List.mem_iff_getElem?.1 hc
    have := h1 i (by omega) (List.getElem?_eq_some_iff.1 hi).1
    rw [hi] at this
    simpa using this
  | succ n =>
    right
    have hn : n < p.length := by omega
    have hg : p[n]? = some p[n] := List.getElem?_eq_getElem hn
    refine ⟨p.take n, p[n], p.drop (n + 1), ?_, ?_, ?_, ?_⟩
    · rw [← List.drop_eq_getElem_cons hn, List.take_append_drop]
    · intro e
      rw [e] at hg
      exact h2 n hs hg
    · intro x hx
      obtain ⟨i, hi⟩ := List.mem_iff_getElem?.1 hx
      rw [List.getElem?_drop] at hi
      have := h1 (n + 1 + i) (by omega) (List.getElem?_eq_some_iff.1 hi).1
      rw [hi] at this
      simpa using this
    · simp only [List.getD, hg, Option.getD_some]
theorem xBJ (p k : Str) : hasL (xAU p) k = xAF k p := by
  rw [Bool.eq_iff_iff, has_iff]
  simp only [xAU]
  rcases xFq p with ⟨h1, h2⟩ | ⟨a, c, q, rfl, hc, hq, hu⟩
  · rw [h1]
    constructor
    · rintro ⟨h3, _⟩; exact xE2 p k h2 h3
    · intro h
      obtain ⟨r, rfl⟩ := begins_iff.1 h
      exact ⟨xCk _ _, .inl rfl⟩
  · rw [hu, ← xNY hc hq k]
    constructor
    · rintro ⟨h3, h4 | h4⟩
      · simp at h4
      · exact ⟨h3, h4⟩
    · rintro ⟨h3, h4⟩; exact ⟨h3, .inr h4⟩
theorem xCD (p : Str) : xAI (xAU p) = false := by
  cases h : xAI (xAU p) with
  | false => rfl
  | true =>
    have := xAc h p
    rw [xBJ, begins_iff.2 ⟨[], by simp⟩] at this
    cases this
theorem xEW (p : Str) : xAI (oneL p) = false := by
  cases h : xAI (oneL p) with
  | false => rfl
  | true =>
    have := xAc h p
    rw [xJj] at this
    simp at this
theorem xJU (p : Str) : (upL p).length ≤ p.length := by
  rcases xFq p with ⟨h1, _⟩ | ⟨a, c, q, rfl, _, _, hu⟩
  · rw [h1]; simp
  · rw [hu]; simp
theorem moved_app (f x t : Str) : xFD (f ++ x) f t = (t ++ x, true) := by
  have : xAF (f ++ x) f = true := begins_iff.2 ⟨x, rfl⟩
  simp [xFD, this]
theorem moved_not {k f t : Str} (h : xAF k f = false) : xFD k f t = ([], false) := by simp [xFD, h]
end Go.Pu
set_option linter.unusedVariables false
set_option linter.unusedSimpArgs false
namespace Go.Pu
theorem xDm {a b : Str} (h1 : ble a b = true) (h2 : ble b a = true) : a = b := by
  rcases ble_iff.1 h1 with h | h
  · rw [ble, Bool.not_eq_true', h] at h2; cases h2
  · exact h
def insI (s : SpanL) : List SpanL → List SpanL → Bool → List SpanL × Bool
  | [], o, d => (o, d)
  | y :: l, o, d => if d = false ∧ Op.bytesLess s.lo y.lo = true then insI s l (o ++ [s] ++ [y]) true else insI s l (o ++ [y]) d
def insS (l : List SpanL) (s : SpanL) : List SpanL :=
  if (insI s l [] (xAI s)).2 = false then (insI s l [] (xAI s)).1 ++ [s] else (insI s l [] (xAI s)).1
def xHq (l : List SpanL) : List SpanL := l.foldl insS []
def xBr (out : List SpanL) (s : SpanL) : List SpanL :=
  match out[out.length - 1]? with
  | none => out ++ [s]
  | some x => if x.hi ≠ [] ∧ Op.bytesLess x.hi s.lo = true then out ++ [s] else if xCr x.hi s.hi = true then out.set (out.length - 1) ⟨x.lo, s.hi⟩ else out
def xJp (l : List SpanL) : List SpanL := l.foldl xBr []
def xAM (l : List SpanL) : List SpanL := xJp (xHq l)
theorem xIA (s : SpanL) : ∀ (l o : List SpanL) (d : Bool), (insI s l o d).1.length = o.length + l.length + (if d = false ∧ (insI s l o d).2 = true then 1 else 0)
  | [], o, d => by cases d <;> simp [insI]
  | y :: l, o, d => by
    unfold insI
    split
    · rename_i h
      have h2 : ∀ (l o : List SpanL), (insI s l o true).2 = true := by
        intro l
        induction l with
        | nil => intro o; rfl
        | cons z l ih => intro o; unfold insI; rw [if_neg (by simp)]; exact ih _
      have := xIA s l (o ++ [s] ++ [y]) true
      rw [h2, h.1]
      simp at this ⊢
      omega
    · have := xIA s l (o ++ [y]) d
      simp only [List.length_append, List.length_cons, List.length_nil] at this ⊢
      omega
theorem xH8 (l : List SpanL) (s : SpanL) : (insS l s).length ≤ l.length + 1 := by
  have := xIA s l [] (xAI s)
  unfold insS
  generalize insI s l [] (xAI s) = r at this
  generalize xAI s = d at this
  obtain ⟨r1, r2⟩ := r
  cases r2 <;> cases d <;> simp at this ⊢ <;> omega
theorem xFs (out : List SpanL) (s : SpanL) : (xBr out s).length ≤ out.length + 1 := by
  unfold xBr
  split
  · simp
  · split
    · simp
    · split
      · simp
      · omega
theorem xMe (l : List SpanL) : (xJp l).length ≤ l.length := by
  have key : ∀ (l o : List SpanL), (l.foldl xBr o).length ≤ o.length + l.length := by
    intro l
    induction l with
    | nil => intro o; exact Nat.le_refl _
    | cons s l ih =>
      intro o
      have := xFs o s
      have := ih (xBr o s)
      simp only [List.foldl_cons, List.length_cons] at this ⊢
      omega
  have := key l []
  simpa [xJp] using this
def Lo (l : List SpanL) : Prop := l.Pairwise (fun a b => ble a.lo b.lo = true)
theorem xDD (s : SpanL) : ∀ (l o : List SpanL) (d : Bool), insI s l o d = (o ++ (insI s l [] d).1, (insI s l [] d).2)
  | [], o, d => by simp [insI]
  | y :: l, o, d => by
    unfold insI
    split
    · rw [xDD s l (o ++ [s] ++ [y]), xDD s l ([] ++ [s] ++ [y])]; simp
    · rw [xDD s l (o ++ [y]), xDD s l ([] ++ [y])]; simp
def insP (s : SpanL) : List SpanL → List SpanL
  | [] => [s]
  | y :: l => if Op.bytesLess s.lo y.lo = true then s :: y :: l else y :: insP s l
theorem xGU (s : SpanL) : ∀ (l : List SpanL), insI s l [] true = (l, true)
  | [] => rfl
  | y :: l => by
    unfold insI
    rw [if_neg (by simp), xDD, xGU s l]; simp
theorem xP9 (l : List SpanL) (s : SpanL) : insS l s = if xAI s = true then l else insP s l := by
  unfold insS
  cases he : xAI s with
  | true => rw [xGU]; simp
  | false =>
    have key : ∀ l : List SpanL, (if (insI s l [] false).2 = false then (insI s l [] false).1 ++ [s] else (insI s l [] false).1) = insP s l := by
      intro l
      induction l with
      | nil => simp [insI, insP]
      | cons y l ih =>
        have hI : insI s (y :: l) [] false = if Op.bytesLess s.lo y.lo = true then (s :: y :: l, true) else (y :: (insI s l [] false).1, (insI s l [] false).2) := by
          rw [insI]
          by_cases h : Op.bytesLess s.lo y.lo = true
          · rw [if_pos ⟨rfl, h⟩, if_pos h, xDD, xGU]; simp
          · rw [if_neg (by simp [h]), if_neg h, xDD]; simp
        rw [hI, insP]
        by_cases h : Op.bytesLess s.lo y.lo = true
        · rw [if_pos h, if_pos h]; simp
        · rw [if_neg h, if_neg h, ← ih]
          cases h2 : (insI s l [] false).2 <;> simp [h2]
    simpa using key l
theorem insP_mem {s x : SpanL} : ∀ {l : List SpanL}, x ∈ insP s l ↔ x = s ∨ x ∈ l
  | [] => by simp [insP]
  | y :: l => by
    unfold insP
    split
    · simp
    · simp only [List.mem_cons, insP_mem (l := l)]
      constructor
      · rintro (h | h | h)
        · exact .inr (.inl h)
        · exact .inl h
        · exact .inr (.inr h)
      · rintro (h | h | h)
        · exact .inr (.inl h)
        · exact .inl h
        · exact .inr (.inr h)
theorem xM2 {s : SpanL} : ∀ {l : List SpanL}, Lo l → Lo (insP s l)
  | [], _ => by simp [insP, Lo]
  | y :: l, h => by
    unfold insP
    obtain ⟨h1, h2⟩ := List.pairwise_cons.1 h
    split
    · rename_i hb
      refine List.pairwise_cons.2 ⟨fun z hz => ?_, h⟩
      have hsy : ble s.lo y.lo = true := ble_iff.2 (.inl hb)
      rcases List.mem_cons.1 hz with rfl | hz
      · exact hsy
      · exact xA1 hsy (h1 z hz)
    · rename_i hb
      refine List.pairwise_cons.2 ⟨fun z hz => ?_, xM2 h2⟩
      rcases insP_mem.1 hz with rfl | hz
      · simp [ble, hb]
      · exact h1 z hz
theorem xEl (l : List SpanL) : Lo (xHq l) ∧ (∀ s ∈ xHq l, xAI s = false) ∧ ∀ s, s ∈ xHq l ↔ s ∈ l ∧ xAI s = false := by
  have key : ∀ (l o : List SpanL), Lo o → (∀ s ∈ o, xAI s = false) → Lo (l.foldl insS o) ∧ (∀ s ∈ l.foldl insS o, xAI s = false) ∧ ∀ s, s ∈ l.foldl insS o ↔ s ∈ o ∨ (s ∈ l ∧ xAI s = false) := by
    intro l
    induction l with
    | nil => intro o h1 h2; exact ⟨h1, h2, fun s => by simp⟩
    | cons x l ih =>
      intro o h1 h2
      have hx := xP9 o x
      cases he : xAI x with
      | true =>
        rw [he, if_pos rfl] at hx
        obtain ⟨g1, g2, g3⟩ := ih o h1 h2
        rw [List.foldl_cons, hx]
        refine ⟨g1, g2, fun s => (g3 s).trans ?_⟩
        constructor
        · rintro (h | ⟨h, h'⟩)
          · exact .inl h
          · exact .inr ⟨by simp [h], h'⟩
        · rintro (h | ⟨h, h'⟩)
          · exact .inl h
          · rcases List.mem_cons.1 h with rfl | h
            · rw [he] at h'; cases h'
            · exact .inr ⟨h, h'⟩
      | false =>
        rw [he, if_neg (by simp)] at hx
        obtain ⟨g1, g2, g3⟩ := ih (insP x o) (xM2 h1) (fun s hs => by rcases insP_mem.1 hs with rfl | hs; exact he; exact h2 s hs)
        rw [List.foldl_cons, hx]
        refine ⟨g1, g2, fun s => (g3 s).trans ?_⟩
        rw [insP_mem]
        constructor
        · rintro ((h | h) | ⟨h, h'⟩)
          · subst h; exact .inr ⟨by simp, he⟩
          · exact .inl h
          · exact .inr ⟨by simp [h], h'⟩
        · rintro (h | ⟨h, h'⟩)
          · exact .inl (.inr h)
          · rcases List.mem_cons.1 h with rfl | h
            · exact .inl (.inl rfl)
            · exact .inr ⟨h, h'⟩
  obtain ⟨h1, h2, h3⟩ := key l [] List.Pairwise.nil (by simp)
  exact ⟨h1, h2, fun s => (h3 s).trans (by simp)⟩
def inL (l : List SpanL) (k : Str) : Bool := l.any (fun s => hasL s k)
theorem inL_iff {l : List SpanL} {k : Str} : inL l k = true ↔ ∃ s ∈ l, hasL s k = true := by simp [inL]
def sep (a b : SpanL) : Prop := a.hi ≠ [] ∧ Op.bytesLess a.hi b.lo = true
structure Nrm (l : List SpanL) : Prop where
  ne : ∀ s ∈ l, xAI s = false
  pw : l.Pairwise sep
theorem Nrm.tail {s : SpanL} {l : List SpanL} (h : Nrm (s :: l)) : Nrm l := ⟨fun t ht => h.ne t (by simp [ht]), (List.pairwise_cons.1 h.pw).2⟩
theorem xBB {s : SpanL} (h : xAI s = false) (hh : s.hi ≠ []) : Op.bytesLess s.lo s.hi = true := by
  have := (has_iff.1 (xDJ h)).2
  rcases this with h1 | h1
  · exact absurd h1 hh
  · exact h1
theorem Nrm.above {s : SpanL} {l : List SpanL} (h : Nrm (s :: l)) {k : Str} (hk : inL l k = true) : s.hi ≠ [] ∧ Op.bytesLess s.hi k = true := by
  obtain ⟨t, ht, hk⟩ := inL_iff.1 hk
  obtain ⟨h1, h2⟩ := (List.pairwise_cons.1 h.pw).1 t ht
  exact ⟨h1, xAe h2 (has_iff.1 hk).1⟩
theorem xAR {s : SpanL} {l : List SpanL} {k : Str} : inL (s :: l) k = (hasL s k || inL l k) := by simp [inL]
theorem Nrm.ext : ∀ {l m : List SpanL}, Nrm l → Nrm m → (∀ k, inL l k = inL m k) → l = m
  | [], [], _, _, _ => rfl
  | [], t :: m, _, h, hk => by
    have := hk t.lo
    rw [xAR, xDJ (h.ne t (by simp))] at this
    simp [inL] at this
  | s :: l, [], h, _, hk => by
    have := hk s.lo
    rw [xAR, xDJ (h.ne s (by simp))] at this
    simp [inL] at this
  | s :: l, t :: m, h, g, hk => by
    have least : ∀ {s : SpanL} {l : List SpanL}, Nrm (s :: l) → ∀ {k : Str}, inL (s :: l) k = true → ble s.lo k = true := by
      intro s l h k hk
      rw [xAR, Bool.or_eq_true] at hk
      rcases hk with hk | hk
      · exact (has_iff.1 hk).1
      · obtain ⟨h1, h2⟩ := h.above hk
        exact ble_iff.2 (.inl (xAq (xBB (h.ne s (by simp)) h1) h2))
    have hlo : s.lo = t.lo := by
      have h1 := least h (k := t.lo) (by rw [hk, xAR, xDJ (g.ne t (by simp))]; rfl)
      have h2 := least g (k := s.lo) (by rw [← hk, xAR, xDJ (h.ne s (by simp))]; rfl)
      exact xDm h1 h2
    have ends : ∀ {s t : SpanL} {l m : List SpanL}, Nrm (s :: l) → Nrm (t :: m) → (∀ k, inL (s :: l) k = inL (t :: m) k) → s.lo = t.lo → ¬ elt s.hi t.hi := by
      intro s t l m h g hk hlo he
      have hs := xBB (h.ne s (by simp)) he.1
      have h1 : hasL t s.hi = true := has_iff.2 ⟨ble_iff.2 (.inl (hlo ▸ hs)), he.2⟩
      have h2 := hk s.hi
      rw [xAR (s := t), h1, xAR] at h2
      have h3 : hasL s s.hi = false := by
        cases h4 : hasL s s.hi with
        | false => rfl
        | true =>
          rcases (has_iff.1 h4).2 with h5 | h5
          · exact absurd h5 he.1
          · rw [xAk] at h5; cases h5
      rw [h3] at h2
      have h4 : inL l s.hi = true := by simpa using h2
      have := (h.above h4).2
      rw [xAk] at this; cases this
    have hhi : s.hi = t.hi := by
      rcases xNA s.hi t.hi with e | e | e
      · exact absurd e (ends h g hk hlo)
      · exact e
      · exact absurd e (ends g h (fun k => (hk k).symm) hlo.symm)
    have hst : s = t := by cases s; cases t; simp_all
    subst hst
    rw [Nrm.ext h.tail g.tail (fun k => ?_)]
    have := hk k
    rw [xAR, xAR] at this
    cases hs : hasL s k with
    | false => rw [hs] at this; simpa using this
    | true =>
      have no : ∀ {l : List SpanL}, Nrm (s :: l) → inL l k = false := by
        intro l h
        cases hl : inL l k with
        | false => rfl
        | true =>
          obtain ⟨h1, h2⟩ := h.above hl
          rcases (has_iff.1 hs).2 with h3 | h3
          · exact absurd h3 h1
          · rw [xBX h2] at h3; cases h3
      rw [no h, no g]
theorem xDP (o : List SpanL) (x s : SpanL) : xBr (o ++ [x]) s = if x.hi ≠ [] ∧ Op.bytesLess x.hi s.lo = true then o ++ [x] ++ [s] else if xCr x.hi s.hi = true then o ++ [⟨x.lo, s.hi⟩] else o ++ [x] := by
  unfold xBr
  simp
theorem xEo : ∀ (l o : List SpanL), Nrm o → Lo l → (∀ s ∈ l, xAI s = false) → (∀ x ∈ o, ∀ s ∈ l, ble x.lo s.lo = true) → Nrm (l.foldl xBr o) ∧ ∀ k, inL (l.foldl xBr o) k = (inL o k || inL l k)
  | [], o, h, _, _, _ => ⟨h, fun k => by simp [inL]⟩
  | s :: l, o, h, hl, hne, hb => by
    obtain ⟨hl1, hl2⟩ := List.pairwise_cons.1 hl
    have hse := hne s (by simp)
    have go : ∀ o', Nrm o' → (∀ x ∈ o', ∀ t ∈ l, ble x.lo t.lo = true) → (∀ k, inL o' k = (inL o k || hasL s k)) → xBr o s = o' → Nrm ((s :: l).foldl xBr o) ∧ ∀ k, inL ((s :: l).foldl xBr o) k = (inL o k || inL (s :: l) k) := by
      intro o' h1 h2 h3 h4
      obtain ⟨g1, g2⟩ := xEo l o' h1 hl2 (fun t ht => hne t (by simp [ht])) h2
      rw [List.foldl_cons, h4]
      refine ⟨g1, fun k => ?_⟩
      rw [g2, h3, xAR, Bool.or_assoc]
    rcases List.eq_nil_or_concat o with rfl | ⟨p, x, rfl⟩
    · exact go [s] ⟨by simpa using hse, by simp⟩ (by simpa using hl1) (fun k => by simp [inL]) rfl
    · rw [List.concat_eq_append] at *
      have hxs := hb x (by simp) s (by simp)
      have hxe := h.ne x (by simp)
      have hpx : ∀ y ∈ p, sep y x := fun y hy => (List.pairwise_append.1 h.pw).2.2 y hy x (by simp)
      have hpp := (List.pairwise_append.1 h.pw).1
      have inA : ∀ (q : List SpanL) (y : SpanL) (k : Str), inL (q ++ [y]) k = (inL q k || hasL y k) := by intro q y k; simp [inL]
      by_cases h1 : x.hi ≠ [] ∧ Op.bytesLess x.hi s.lo = true
      · refine go (p ++ [x] ++ [s]) ⟨fun t ht => ?_, ?_⟩ (fun y hy t ht => ?_) (fun k => by rw [inA]) (by rw [xDP, if_pos h1])
        · rcases List.mem_append.1 ht with ht | ht
          · exact h.ne t ht
          · rw [List.mem_singleton.1 ht]; exact hse
        · refine List.pairwise_append.2 ⟨h.pw, by simp, fun y hy t ht => ?_⟩
          rw [List.mem_singleton.1 ht]
          rcases List.mem_append.1 hy with hy | hy
          · obtain ⟨g1, g2⟩ := hpx y hy
            exact ⟨g1, xAe g2 hxs⟩
          · rw [List.mem_singleton.1 hy]; exact h1
        · rcases List.mem_append.1 hy with hy | hy
          · exact hb y hy t (by simp [ht])
          · rw [List.mem_singleton.1 hy]; exact hl1 t ht
      · -- s begins in x or at its end
        have hin : x.hi = [] ∨ ble s.lo x.hi = true := by
          by_cases hx : x.hi = []
          · exact .inl hx
          · right
            have : ¬ Op.bytesLess x.hi s.lo = true := fun h' => h1 ⟨hx, h'⟩
            simp [ble, this]
        by_cases h2 : xCr x.hi s.hi = true
        · have he := less_iff.1 h2
          have hx0 := he.1
          have hsx : ble s.lo x.hi = true := by rcases hin with h' | h'; exact absurd h' hx0; exact h'
          have hxlt := xBB hxe hx0
          have hnew : xAI ⟨x.lo, s.hi⟩ = false := by
            cases h' : xAI ⟨x.lo, s.hi⟩ with
            | false => rfl
            | true =>
              obtain ⟨g1, g2⟩ := empty_iff.1 h'
              rcases he.2 with h'' | h''
              · exact absurd h'' g1
              · have := xAe (xAq hxlt h'') g2
                rw [xAk] at this; cases this
          refine go (p ++ [⟨x.lo, s.hi⟩]) ⟨fun t ht => ?_, ?_⟩ (fun y hy t ht => ?_) (fun k => ?_) (by rw [xDP, if_neg h1, if_pos h2])
          · rcases List.mem_append.1 ht with ht | ht
            · exact h.ne t (by simp [ht])
            · rw [List.mem_singleton.1 ht]; exact hnew
          · refine List.pairwise_append.2 ⟨hpp, by simp, fun y hy t ht => ?_⟩
            rw [List.mem_singleton.1 ht]
            exact hpx y hy
          · rcases List.mem_append.1 hy with hy | hy
            · exact hb y (by simp [hy]) t (by simp [ht])
            · rw [List.mem_singleton.1 hy]; exact hb x (by simp) t (by simp [ht])
          · rw [inA, inA, Bool.or_assoc]
            congr 1
            rw [Bool.eq_iff_iff, Bool.or_eq_true, has_iff, has_iff, has_iff]
            simp only
            constructor
            · rintro ⟨g1, g2⟩
              cases hk : Op.bytesLess k x.hi with
              | true => exact .inl ⟨g1, .inr rfl⟩
              | false => exact .inr ⟨xA1 hsx (by simp [ble, hk]), g2⟩
            · rintro (⟨g1, g2⟩ | ⟨g1, g2⟩)
              · refine ⟨g1, ?_⟩
                rcases g2 with g2 | g2
                · exact absurd g2 hx0
                · rcases he.2 with h' | h'
                  · exact .inl h'
                  · exact .inr (xAq g2 h')
              · exact ⟨xA1 hxs g1, g2⟩
        · have hne2 : ¬ elt x.hi s.hi := fun h' => h2 (less_iff.2 h')
          refine go (p ++ [x]) h (fun y hy t ht => hb y hy t (by simp [ht])) (fun k => ?_) (by rw [xDP, if_neg h1, if_neg h2])
          have : hasL s k = true → hasL x k = true := by
            rw [has_iff, has_iff]
            rintro ⟨g1, g2⟩
            refine ⟨xA1 hxs g1, ?_⟩
            by_cases hx : x.hi = []
            · exact .inl hx
            · right
              rcases g2 with g2 | g2
              · exact absurd ⟨hx, .inl g2⟩ hne2
              · rcases xBw x.hi s.hi with h' | h' | h'
                · exact absurd ⟨hx, .inr h'⟩ hne2
                · rw [h']; exact g2
                · exact xAq g2 h'
          rw [inA]
          cases hs : hasL s k with
          | false => simp
          | true => rw [this hs]; simp
theorem xAd (l : List SpanL) : Nrm (xAM l) ∧ ∀ k, inL (xAM l) k = inL l k := by
  obtain ⟨h1, h2, h3⟩ := xEl l
  obtain ⟨g1, g2⟩ := xEo (xHq l) [] ⟨by simp, by simp⟩ h1 h2 (by simp)
  refine ⟨g1, fun k => (g2 k).trans ?_⟩
  rw [show inL [] k = false from rfl, Bool.false_or, Bool.eq_iff_iff, inL_iff, inL_iff]
  constructor
  · rintro ⟨s, hs, hk⟩; exact ⟨s, ((h3 s).1 hs).1, hk⟩
  · rintro ⟨s, hs, hk⟩
    refine ⟨s, (h3 s).2 ⟨hs, ?_⟩, hk⟩
    cases he : xAI s with
    | false => rfl
    | true => rw [xAc he] at hk; cases hk
theorem xMf {l m : List SpanL} (hm : Lo m) (hp : m.Perm (l.filter (fun s => !xAI s))) : xJp m = xAM l := by
  have he : ∀ s ∈ m, xAI s = false := fun s hs => by have := hp.mem_iff.1 hs; simp at this; exact this.2
  obtain ⟨g1, g2⟩ := xEo m [] ⟨by simp, by simp⟩ hm he (by simp)
  obtain ⟨r1, r2⟩ := xAd l
  refine Nrm.ext g1 r1 (fun k => ?_)
  show inL (m.foldl xBr []) k = _
  rw [g2, r2, show inL [] k = false from rfl, Bool.false_or, Bool.eq_iff_iff, inL_iff, inL_iff]
  constructor
  · rintro ⟨s, hs, hk⟩
    have := hp.mem_iff.1 hs
    exact ⟨s, (List.mem_filter.1 this).1, hk⟩
  · rintro ⟨s, hs, hk⟩
    refine ⟨s, hp.mem_iff.2 (List.mem_filter.2 ⟨hs, ?_⟩), hk⟩
    cases he : xAI s with
    | false => rfl
    | true => rw [xAc he] at hk; cases hk
end Go.Pu
set_option linter.unusedVariables false
set_option linter.unusedSimpArgs false
namespace Go.Pu
instance : Inhabited SpanL := ⟨⟨[], []⟩⟩
section
variable {α : Type} [Inhabited α]
theorem gb {xs : List α} {i : Nat} {x : α} (h : xs[i]? = some x) : xs.toArray[i]! = x := by
  simp [h]
theorem xBe {xs : List α} {i j : Nat} {x y : α} (hx : xs[i]? = some x) (hy : xs[j]? = some y) : Sort.swp xs.toArray i j = ((xs.set i y).set j x).toArray := by
  unfold Sort.swp
  rw [gb hx, gb hy]
  simp
theorem xCI (lt : α → α → Bool) (hi first root : Nat) (d : Array α) : (Sort.siftDown lt hi first root d).size = d.size := by
  fun_induction Sort.siftDown lt hi first root d <;> simp_all [Sort.size_swp]
theorem xD6 (lt : α → α → Bool) (hi first : Nat) : ∀ (k : Nat) (d : Array α), (Sort.heapBuild lt hi first k d).size = d.size
  | 0, d => rfl
  | k + 1, d => by rw [Sort.heapBuild, xD6 lt hi first k, xCI]
end
def ltS (a b : SpanL) : Bool := decide (xDk a.lo b.lo < 0)
theorem xKj (a b : SpanL) : ltS a b = Op.bytesLess a.lo b.lo := by
  rw [Bool.eq_iff_iff, ltS, decide_eq_true_eq, xJF]
theorem xMs : Sort.SWO ltS where
  irrefl x := by rw [xKj, xAk]
  trans x y z h1 h2 := by rw [xKj] at *; exact xAq h1 h2
  ntrans x y z h1 h2 := by
    rw [xKj] at *
    have g1 : ble y.lo x.lo = true := by simp [ble, h1]
    have g2 : ble z.lo y.lo = true := by simp [ble, h2]
    have := xA1 g2 g1
    simpa [ble] using this
end Go.Pu
set_option linter.unusedVariables false
set_option linter.unusedSimpArgs false
namespace Go.Pu
section
variable {α : Type} [Inhabited α]
theorem xCl (lt : α → α → Bool) : ∀ (j : Nat) (d : Array α), (Sort.shiftDown lt j d).size = d.size
  | 0, d => rfl
  | j + 1, d => by
    rw [Sort.shiftDown]
    split
    · rfl
    · rw [xCl lt j, Sort.size_swp]
theorem xIc (lt : α → α → Bool) (b j : Nat) (d : Array α) : (Sort.shiftUp lt b j d).size = d.size := by
  fun_induction Sort.shiftUp lt b j d <;> simp_all [Sort.size_swp]
theorem xCX (lt : α → α → Bool) (a b : Nat) : ∀ (s i : Nat) (d : Array α), (Sort.partialIns lt a b s i d).1.size = d.size
  | 0, i, d => rfl
  | s + 1, i, d => by
    rw [Sort.partialIns]
    simp only
    split
    · rfl
    · split
      · rfl
      · rw [xCX lt a b s]
        split
        · rw [xIc]
          split
          · rw [xCl, Sort.size_swp]
          · rw [Sort.size_swp]
        · split
          · rw [xCl, Sort.size_swp]
          · rw [Sort.size_swp]
theorem xIk (lt : α → α → Bool) {d : Array α} {a b pivot : Nat} (h1 : a ≤ pivot) (h2 : pivot < b) (hb : b ≤ d.size) : a < (Sort.partitionEqual lt d a b pivot).1 ∧ (Sort.partitionEqual lt d a b pivot).1 ≤ b ∧ (Sort.partitionEqual lt d a b pivot).2.size = d.size := by
  obtain ⟨g1, g2, g3, _⟩ := Sort.partEqLoop_spec (lt := lt) a b (b - 1 + 1 - (a + 1)) (a + 1) (b - 1) (Sort.swp d a pivot) (Nat.le_refl _) (by omega) (by omega) (by omega) (by rw [Sort.size_swp]; exact hb) (fun t h h' => by omega) (fun t h h' => by omega)
  exact ⟨g1, g2, by have := g3.1; rw [Sort.size_swp] at this; exact this⟩
theorem xEf (lt : α → α → Bool) (a : Nat) : ∀ (j : Nat) (d : Array α), (Sort.insInner lt a j d).size = d.size
  | 0, d => rfl
  | j + 1, d => by
    rw [Sort.insInner]
    split
    · rw [xEf lt a j, Sort.size_swp]
    · rfl
theorem xH9 (lt : α → α → Bool) (a b i : Nat) (d : Array α) : (Sort.insOuter lt a b i d).size = d.size := by
  fun_induction Sort.insOuter lt a b i d <;> simp_all [xEf]
theorem xFJ (lt : α → α → Bool) (first : Nat) : ∀ (k : Nat) (d : Array α), (Sort.heapPop lt first k d).size = d.size
  | 0, d => rfl
  | k + 1, d => by rw [Sort.heapPop, xFJ lt first k, xCI, Sort.size_swp]
theorem xIC (lt : α → α → Bool) (d : Array α) (a b : Nat) : (Sort.heapSort lt d a b).size = d.size := by
  unfold Sort.heapSort
  rw [xFJ, xD6]
theorem xFS (i j : Nat) (d : Array α) : (Sort.reverseLoop i j d).size = d.size := by
  fun_induction Sort.reverseLoop i j d <;> simp_all [Sort.size_swp]
theorem xIf (d : Array α) (a b : Nat) : (Sort.reverseRange d a b).size = d.size := xFS _ _ _
theorem xLi (d : Array α) (a b : Nat) : (Sort.breakPatterns d a b).size = d.size := by
  unfold Sort.breakPatterns Sort.breakStep
  simp only
  split
  · simp [Sort.size_swp]
  · rfl
theorem xHy (lt : α → α → Bool) (a i j : Nat) (d : Array α) : (Sort.partLoop lt a i j d).2.size = d.size := by
  fun_induction Sort.partLoop lt a i j d <;> simp_all [Sort.size_swp]
theorem xF1 (lt : α → α → Bool) (a i j : Nat) (d : Array α) : (Sort.partEqLoop lt a i j d).2.size = d.size := by
  fun_induction Sort.partEqLoop lt a i j d <;> simp_all [Sort.size_swp]
theorem xCm (lt : α → α → Bool) (d : Array α) (a b p : Nat) : (Sort.partition lt d a b p).2.2.size = d.size := by
  unfold Sort.partition
  simp only
  split
  · simp [Sort.size_swp]
  · simp [Sort.size_swp, xHy]
theorem xCW (lt : α → α → Bool) (d : Array α) (a b p : Nat) : (Sort.partitionEqual lt d a b p).2.size = d.size := by
  unfold Sort.partitionEqual
  rw [xF1, Sort.size_swp]
end
end Go.Pu
set_option linter.unusedVariables false
set_option linter.unusedSimpArgs false
namespace Go.Pu
def ne (s : SpanL) : Bool := !xAI s
def delL (xs : List SpanL) : List SpanL := xs.filter ne ++ List.replicate (xs.length - (xs.filter ne).length) ⟨[], []⟩
def xBQ (xs : List SpanL) : Array SpanL := Sort.pdq ltS (delL xs).toArray 0 (xs.filter ne).length (Sort.bitsLen (xs.filter ne).length) true true
theorem xK0 (xs : List SpanL) : (delL xs).length = xs.length := by
  have := List.length_filter_le ne xs
  simp [delL]; omega
theorem xIY (xs : List SpanL) : (xBQ xs).size = xs.length ∧ xJp ((xBQ xs).toList.take (xs.filter ne).length) = xAM xs := by
  have hk : (xs.filter ne).length ≤ (delL xs).toArray.size := by simp [delL]
  obtain ⟨h1, h2⟩ := Sort.pdq_sorts ltS xMs (delL xs).toArray 0 (xs.filter ne).length (Sort.bitsLen (xs.filter ne).length) true true (Nat.zero_le _) hk (.inl rfl)
  obtain ⟨g1, _, g3⟩ := h1
  have hs : (xBQ xs).size = xs.length := by unfold xBQ; rw [g1]; simp [xK0]
  refine ⟨hs, xMf ?_ ?_⟩
  · refine List.pairwise_iff_getElem.2 fun i j hi hj hij => ?_
    simp only [List.length_take, Array.length_toList] at hi hj
    rw [List.getElem_take, List.getElem_take, Array.getElem_toList, Array.getElem_toList]
    have := h2 i j (Nat.zero_le _) hij (by omega)
    rw [xKj] at this
    have e1 : (xBQ xs)[i]! = (xBQ xs)[i] := getElem!_pos (xBQ xs) i (by omega)
    have e2 : (xBQ xs)[j]! = (xBQ xs)[j] := getElem!_pos (xBQ xs) j (by omega)
    have h3 : Op.bytesLess (xBQ xs)[j]!.lo (xBQ xs)[i]!.lo = false := this
    rw [e1, e2] at h3
    simp [ble, h3]
  · have : ((delL xs).toArray.extract 0 (xs.filter ne).length).toList = xs.filter ne := by simp [delL]
    rw [this] at g3
    have e : ((xBQ xs).extract 0 (xs.filter ne).length).toList = (xBQ xs).toList.take (xs.filter ne).length := by simp
    rw [← e]
    exact g3
end Go.Pu
set_option linter.unusedVariables false
namespace Go.Pu
theorem xD7 : ∀ (l o : List SpanL), (l.foldl insS o).length ≤ o.length + l.length
  | [], o => by simp
  | s :: l, o => by
    rw [List.foldl_cons, List.length_cons]
    have h1 := xD7 l (insS o s)
    have h2 := xH8 o s
    omega
theorem xB5 (l : List SpanL) : (xAM l).length ≤ l.length := by
  have h1 := xMe (xHq l)
  have h2 := xD7 l []
  unfold xAM
  unfold xHq at *
  simp only [List.length_nil] at h2
  omega
theorem xNh (o : List SpanL) (s t : SpanL) (h : t ∈ xBr o s) : (∃ x ∈ o, x.lo = t.lo) ∨ t.lo = s.lo := by
  rcases List.eq_nil_or_concat o with rfl | ⟨o, x, rfl⟩
  · right
    have : t = s := by simpa [xBr] using h
    rw [this]
  · rw [List.concat_eq_append, xDP] at h
    split at h
    · rcases List.mem_append.1 h with h | h
      · exact .inl ⟨t, by simpa using h, rfl⟩
      · exact .inr (by rw [List.mem_singleton.1 h])
    · split at h
      · rcases List.mem_append.1 h with h | h
        · exact .inl ⟨t, by simp [h], rfl⟩
        · exact .inl ⟨x, by simp, by rw [List.mem_singleton.1 h]⟩
      · exact .inl ⟨t, by simpa using h, rfl⟩
theorem xKX : ∀ (l o : List SpanL) (t : SpanL), t ∈ l.foldl xBr o → (∃ x ∈ o, x.lo = t.lo) ∨ ∃ x ∈ l, x.lo = t.lo
  | [], o, t, h => .inl ⟨t, h, rfl⟩
  | s :: l, o, t, h => by
    rw [List.foldl_cons] at h
    rcases xKX l _ t h with ⟨x, hx, hxt⟩ | ⟨x, hx, hxt⟩
    · rcases xNh o s x hx with ⟨y, hy, hyx⟩ | h2
      · exact .inl ⟨y, hy, hyx.trans hxt⟩
      · exact .inr ⟨s, by simp, h2.symm.trans hxt⟩
    · exact .inr ⟨x, by simp [hx], hxt⟩
theorem xEU {l : List SpanL} {t : SpanL} (h : t ∈ xAM l) : ∃ x ∈ l, x.lo = t.lo ∧ xAI x = false := by
  rcases xKX _ _ t h with ⟨x, hx, _⟩ | ⟨x, hx, hxt⟩
  · exact absurd hx (by simp)
  · have := ((xEl l).2.2 x).1 hx
    exact ⟨x, this.1, hxt, this.2⟩
theorem xNi (o : List SpanL) (s t : SpanL) (h : t ∈ xBr o s) : (∃ x ∈ o, x.hi = t.hi) ∨ t.hi = s.hi := by
  rcases List.eq_nil_or_concat o with rfl | ⟨o, x, rfl⟩
  · right
    have : t = s := by simpa [xBr] using h
    rw [this]
  · rw [List.concat_eq_append, xDP] at h
    split at h
    · rcases List.mem_append.1 h with h | h
      · exact .inl ⟨t, by simpa using h, rfl⟩
      · exact .inr (by rw [List.mem_singleton.1 h])
    · split at h
      · rcases List.mem_append.1 h with h | h
        · exact .inl ⟨t, by simp [h], rfl⟩
        · exact .inr (by rw [List.mem_singleton.1 h])
      · exact .inl ⟨t, by simpa using h, rfl⟩
theorem xKY : ∀ (l o : List SpanL) (t : SpanL), t ∈ l.foldl xBr o → (∃ x ∈ o, x.hi = t.hi) ∨ ∃ x ∈ l, x.hi = t.hi
  | [], o, t, h => .inl ⟨t, h, rfl⟩
  | s :: l, o, t, h => by
    rw [List.foldl_cons] at h
    rcases xKY l _ t h with ⟨x, hx, hxt⟩ | ⟨x, hx, hxt⟩
    · rcases xNi o s x hx with ⟨y, hy, hyx⟩ | h2
      · exact .inl ⟨y, hy, hyx.trans hxt⟩
      · exact .inr ⟨s, by simp, h2.symm.trans hxt⟩
    · exact .inr ⟨x, by simp [hx], hxt⟩
theorem xHt {l : List SpanL} {t : SpanL} (h : t ∈ xAM l) : ∃ x ∈ l, x.hi = t.hi := by
  rcases xKY _ _ t h with ⟨x, hx, _⟩ | ⟨x, hx, hxt⟩
  · exact absurd hx (by simp)
  · exact ⟨x, (((xEl l).2.2 x).1 hx).1, hxt⟩
def xCb : Str → List SpanL → List SpanL → List SpanL
  | lo, [], out => out ++ [⟨lo, []⟩]
  | lo, s :: l, out => if s.hi = [] then (if s.lo = [] then out else out ++ [⟨lo, s.lo⟩]) else xCb s.hi l (if s.lo = [] then out else out ++ [⟨lo, s.lo⟩])
theorem xGb : ∀ (l : List SpanL) (lo : Str) (out : List SpanL), (xCb lo l out).length ≤ out.length + l.length + 1
  | [], lo, out => by simp [xCb]
  | s :: l, lo, out => by
    have h2 : (if s.lo = [] then out else out ++ [⟨lo, s.lo⟩]).length ≤ out.length + 1 := by split <;> simp
    rw [xCb, List.length_cons]
    generalize (if s.lo = [] then out else out ++ [(⟨lo, s.lo⟩ : SpanL)]) = o2 at *
    split
    · omega
    · have := xGb l s.hi o2
      omega
theorem xFd : ∀ (l : List SpanL) (lo : Str) (out : List SpanL) (t : SpanL), t ∈ xCb lo l out → t ∈ out ∨ t.lo = lo ∨ ∃ x ∈ l, x.hi = t.lo
  | [], lo, out, t, h => by
    rw [xCb] at h
    rcases List.mem_append.1 h with h | h
    · exact .inl h
    · exact .inr (.inl (by rw [List.mem_singleton.1 h]))
  | s :: l, lo, out, t, h => by
    have h2 : t ∈ (if s.lo = [] then out else out ++ [⟨lo, s.lo⟩]) → t ∈ out ∨ t.lo = lo := by
      split
      · exact .inl
      · intro h
        rcases List.mem_append.1 h with h | h
        · exact .inl h
        · exact .inr (by rw [List.mem_singleton.1 h])
    rw [xCb] at h
    generalize (if s.lo = [] then out else out ++ [(⟨lo, s.lo⟩ : SpanL)]) = o2 at *
    split at h
    · rcases h2 h with h | h
      · exact .inl h
      · exact .inr (.inl h)
    · rcases xFd l s.hi o2 t h with h | h | ⟨x, hx, hxt⟩
      · rcases h2 h with h | h
        · exact .inl h
        · exact .inr (.inl h)
      · exact .inr (.inr ⟨s, by simp, h.symm⟩)
      · exact .inr (.inr ⟨x, by simp [hx], hxt⟩)
theorem xCO {a b : List SpanL} {k : Str} : inL (a ++ b) k = (inL a k || inL b k) := by simp [inL]
theorem xGa {lo hi k : Str} (h : hi ≠ []) : hasL ⟨lo, hi⟩ k = (ble lo k && Op.bytesLess k hi) := by
  have : (hi == []) = false := by simpa using h
  simp only [hasL, ble, this, Bool.false_or]
theorem xFc {lo k : Str} : hasL ⟨lo, []⟩ k = ble lo k := by simp [hasL, ble]
theorem xHZ : ∀ (l : List SpanL) (lo : Str) (out : List SpanL) (k : Str), Nrm l → (∀ x, inL l x = true → ble lo x = true) →
    inL (xCb lo l out) k = (inL out k || (ble lo k && !inL l k))
  | [], lo, out, k, _, _ => by
    rw [xCb, xCO]
    simp [inL, xFc]
  | s :: l, lo, out, k, hn, ha => by
    have hls : ble lo s.lo = true := ha s.lo (by rw [xAR, xDJ (hn.ne s (by simp))]; rfl)
    have h2 : inL (if s.lo = [] then out else out ++ [⟨lo, s.lo⟩]) k = (inL out k || (ble lo k && Op.bytesLess k s.lo)) := by
      split
      · next h => rw [h]; simp [xBx]
      · next h => rw [xCO]; simp [inL, xGa h]
    rw [xCb, xAR]
    generalize (if s.lo = [] then out else out ++ [(⟨lo, s.lo⟩ : SpanL)]) = o2 at *
    have hnl : inL l k = true → Op.bytesLess k s.lo = true → False := by
      intro h h3
      obtain ⟨h4, h5⟩ := hn.above h
      have h6 := xAe (xBB (hn.ne s (by simp)) h4) (ble_iff.2 (.inl h5))
      have h7 := xAe h3 (ble_iff.2 (.inl h6))
      rw [xAk] at h7
      cases h7
    have hsl : ble lo k = false → ble s.lo k = false := by
      intro h
      cases h3 : ble s.lo k with
      | false => rfl
      | true => rw [xA1 hls h3] at h; cases h
    split
    · next h =>
      have hl : inL l k = false := by
        cases h3 : inL l k with
        | false => rfl
        | true => exact absurd h (hn.above h3).1
      rw [h2, hl]
      simp [hasL, h]
    · next h =>
      rw [xHZ l s.hi o2 k hn.tail (fun x hx => ble_iff.2 (.inl (hn.above hx).2)), h2]
      have hlt := xBB (hn.ne s (by simp)) h
      have e1 : hasL s k = (ble s.lo k && Op.bytesLess k s.hi) := xGa (lo := s.lo) h
      rw [e1]
      cases h3 : inL out k with
      | true => simp
      | false =>
        have e2 : ble s.lo k = !Op.bytesLess k s.lo := rfl
        have e3 : ble s.hi k = !Op.bytesLess k s.hi := rfl
        cases h4 : Op.bytesLess k s.lo with
        | true =>
          have h5 : Op.bytesLess k s.hi = true := xAe h4 (ble_iff.2 (.inl hlt))
          have h6 : inL l k = false := by
            cases h7 : inL l k with
            | false => rfl
            | true => exact (hnl h7 h4).elim
          simp [e2, e3, h4, h5, h6]
        | false =>
          cases h5 : Op.bytesLess k s.hi with
          | true => simp [e2, e3, h4, h5]
          | false =>
            have h6 : ble lo k = true := xA1 hls (by rw [e2, h4]; rfl)
            simp [e2, e3, h4, h5, h6]
def xBl (l m : List SpanL) : List SpanL := (xCb [] (xAM m) []).flatMap (fun g => l.map (xAp g))
def xBM (l m : List SpanL) : List SpanL := xAM (xBl l m)
theorem xIB {α : Type} (f : α → List SpanL) (k : Str) : ∀ (l : List α), inL (l.flatMap f) k = l.any (fun a => inL (f a) k)
  | [] => rfl
  | a :: l => by rw [List.flatMap_cons, xCO, xIB f k l, List.any_cons]
theorem xFI (g : SpanL) (k : Str) : ∀ (l : List SpanL), inL (l.map (xAp g)) k = (hasL g k && inL l k)
  | [] => by simp [inL]
  | s :: l => by rw [List.map_cons, xAR, xAR, xFI g k l, xCL]; cases hasL g k <;> simp
theorem xBg (l m : List SpanL) (k : Str) : inL (xBM l m) k = (inL l k && !inL m k) := by
  have h1 := xHZ (xAM m) [] [] k (xAd m).1 (fun x _ => xDl x)
  rw [xBM, (xAd _).2, xBl, xIB]
  simp only [xFI]
  have h2 : ∀ (gs : List SpanL), gs.any (fun g => hasL g k && inL l k) = (inL gs k && inL l k) := by
    intro gs
    induction gs with
    | nil => rfl
    | cons g gs ih => rw [List.any_cons, ih, xAR]; cases hasL g k <;> cases inL gs k <;> cases inL l k <;> rfl
  rw [h2, h1, (xAd m).2, xDl]
  simp [inL, Bool.and_comm]
theorem xDa (l m : List SpanL) : Nrm (xBM l m) := (xAd _).1
def cutL (s c : SpanL) : List SpanL := (if c.lo = [] then [] else [xAp s ⟨[], c.lo⟩]) ++ (if c.hi = [] then [] else [xAp s ⟨c.hi, []⟩])
def xDE (left : List SpanL) (c : SpanL) : List SpanL := if xAI c = true then left else xAM (left.flatMap (fun s => cutL s c))
def xFy (l m : List SpanL) : List SpanL := m.foldl xDE (xAM l)
theorem xNH (s c : SpanL) (k : Str) : inL (cutL s c) k = (hasL s k && !hasL c k) := by
  have e : hasL c k = (ble c.lo k && (c.hi == [] || Op.bytesLess k c.hi)) := rfl
  have e1 : ble c.lo k = !Op.bytesLess k c.lo := rfl
  have e2 : ble c.hi k = !Op.bytesLess k c.hi := rfl
  have e3 : inL (if c.lo = [] then [] else [xAp s ⟨[], c.lo⟩]) k = (hasL s k && Op.bytesLess k c.lo) := by
    split
    · next h => rw [h, xBx]; simp [inL]
    · next h => rw [xAR, xCL, xGa h, xDl]; simp [inL]
  have e4 : inL (if c.hi = [] then [] else [xAp s ⟨c.hi, []⟩]) k = (hasL s k && (!(c.hi == []) && !Op.bytesLess k c.hi)) := by
    split
    · next h => rw [h]; simp [inL]
    · next h => 
      have h9 : (c.hi == []) = false := by simpa using h
      rw [xAR, xCL, xFc, e2, h9]; simp [inL]
  rw [cutL, xCO, e3, e4, e, e1]
  cases hasL s k <;> cases Op.bytesLess k c.lo <;> cases (c.hi == []) <;> cases Op.bytesLess k c.hi <;> rfl
theorem xNF (l : List SpanL) (c : SpanL) (k : Str) : inL (xDE l c) k = (inL l k && !hasL c k) := by
  unfold xDE
  split
  · next h => rw [xAc h]; simp
  · rw [(xAd _).2, xIB]
    simp only [xNH]
    induction l with
    | nil => rfl
    | cons g gs ih => rw [List.any_cons, ih, xAR]; cases hasL g k <;> cases inL gs k <;> cases hasL c k <;> rfl
theorem xK2 {l : List SpanL} (h : Nrm l) (c : SpanL) : Nrm (xDE l c) := by
  unfold xDE
  split
  · exact h
  · exact (xAd _).1
theorem xJD : ∀ (m l : List SpanL), Nrm l → Nrm (m.foldl xDE l) ∧ ∀ k, inL (m.foldl xDE l) k = (inL l k && !inL m k)
  | [], l, h => ⟨h, fun k => by simp [inL]⟩
  | c :: m, l, h => by
    obtain ⟨h1, h2⟩ := xJD m (xDE l c) (xK2 h c)
    refine ⟨h1, fun k => ?_⟩
    rw [List.foldl_cons, h2, xNF, xAR]
    cases inL l k <;> cases hasL c k <;> cases inL m k <;> rfl
theorem xMi (l m : List SpanL) : xBM l m = xFy l m := by
  obtain ⟨h1, h2⟩ := xJD m (xAM l) (xAd l).1
  refine Nrm.ext (xDa l m) h1 (fun k => ?_)
  rw [xBg]
  exact ((h2 k).trans (by rw [(xAd l).2])).symm
theorem xFe {α : Type} (f : α → List SpanL) (n : Nat) : ∀ (l : List α), (∀ a ∈ l, (f a).length ≤ n) → (l.flatMap f).length ≤ n * l.length
  | [], _ => by simp
  | a :: l, h => by
    rw [List.flatMap_cons, List.length_append, List.length_cons, Nat.mul_succ]
    have h1 := xFe f n l (fun b hb => h b (by simp [hb]))
    have h2 := h a (by simp)
    omega
theorem xK3 (s c : SpanL) : (cutL s c).length ≤ 2 := by
  unfold cutL
  split <;> split <;> simp
theorem cuts_len (l : List SpanL) (c : SpanL) : (xDE l c).length ≤ 2 * l.length := by
  unfold xDE
  split
  · omega
  · exact Nat.le_trans (xB5 _) (xFe _ 2 l (fun s _ => xK3 s c))
theorem xIp (l m : List SpanL) : (xBl l m).length ≤ l.length * (m.length + 1) := by
  unfold xBl
  refine Nat.le_trans (xFe _ l.length _ (fun g _ => by simp)) (Nat.mul_le_mul_left _ ?_)
  have h1 := xGb (xAM m) [] []
  have h2 := xB5 m
  simp only [List.length_nil] at h1
  omega
theorem xF6 : ∀ (a b : List Str), a.Nodup → (∀ x ∈ a, x ∈ b) → a.length ≤ b.length
  | [], b, _, _ => by simp
  | x :: a, b, hn, hs => by
    obtain ⟨h1, h2⟩ := List.nodup_cons.1 hn
    have h3 := xF6 a (b.erase x) h2 (fun y hy => by
      refine (List.mem_erase_of_ne ?_).2 (hs y (by simp [hy]))
      intro h; subst h; exact h1 hy)
    rw [List.length_erase_of_mem (hs x (by simp))] at h3
    have : 0 < b.length := List.length_pos_of_mem (hs x (by simp))
    rw [List.length_cons]
    omega
theorem xJm : ∀ {l : List SpanL}, Nrm l → (l.map SpanL.lo).Nodup
  | [], _ => by simp
  | s :: l, h => by
    rw [List.map_cons, List.nodup_cons]
    refine ⟨?_, xJm h.tail⟩
    intro hm
    obtain ⟨t, ht, hts⟩ := List.mem_map.1 hm
    obtain ⟨h1, h2⟩ := (List.pairwise_cons.1 h.pw).1 t ht
    have h3 := xAe (xBB (h.ne s (by simp)) h1) (ble_iff.2 (.inl h2))
    rw [hts, xAk] at h3
    cases h3
theorem xHR (a b : Str) : maxL a b = a ∨ maxL a b = b := by unfold maxL; split <;> simp
theorem xGA (l m : List SpanL) : (xBM l m).length ≤ l.length + m.length := by
  have h := xF6 _ (l.map SpanL.lo ++ m.map SpanL.hi) (xJm (xDa l m)) ?_
  · simpa using h
  · intro x hx
    obtain ⟨t, ht, rfl⟩ := List.mem_map.1 hx
    obtain ⟨y, hy, hyt, hye⟩ := xEU ht
    rw [← hyt]
    obtain ⟨g, hg, hy⟩ := List.mem_flatMap.1 hy
    obtain ⟨s, hs, rfl⟩ := List.mem_map.1 hy
    have hm : (xAp g s).lo = maxL g.lo s.lo := by
      unfold xAp at hye ⊢
      split
      · next h => rw [if_pos h] at hye; exact absurd hye (by decide)
      · rfl
    rw [hm]
    have hsl : s.lo ∈ l.map SpanL.lo ++ m.map SpanL.hi := List.mem_append.2 (.inl (List.mem_map.2 ⟨s, hs, rfl⟩))
    rcases xFd _ _ _ g hg with h | h | ⟨z, hz, hzg⟩
    · cases h
    · rw [h]
      have : maxL [] s.lo = s.lo := by
        unfold maxL
        split
        · rfl
        · next h3 =>
          have h4 : ble s.lo [] = true := by simpa [ble] using h3
          rcases ble_iff.1 h4 with h5 | h5
          · rw [xBx] at h5; cases h5
          · exact h5.symm
      rw [this]
      exact hsl
    · rcases xHR g.lo s.lo with h | h
      · rw [h, ← hzg]
        obtain ⟨w, hw, hwz⟩ := xHt hz
        exact List.mem_append.2 (.inr (List.mem_map.2 ⟨w, hw, hwz⟩))
      · rw [h]
        exact hsl
end Go.Pu
set_option linter.unusedVariables false
set_option linter.unusedSimpArgs false
namespace Go.Pu
structure MsgL where
  kind : Int
  key : Str
  val : Str
  sp : SpanL
  fr : Str
  to : Str
  n : Int
  deriving DecidableEq
def xAh (m : MsgL) : List SpanL :=
  if m.kind = 1 ∨ m.kind = 2 then [oneL m.key] else if m.kind = 4 then [xAU m.fr, xAU m.to] else if m.kind = 5 then [xAU m.to] else [m.sp]
def xCU (m : MsgL) : List SpanL := if m.kind = 4 ∨ m.kind = 5 then [xAU m.fr] else if m.kind = 6 then [m.sp] else []
def xA5 (m : MsgL) : List SpanL := if m.kind = 6 then [] else xAh m
structure MsgOk (m : MsgL) : Prop where
  k : 1 ≤ m.kind ∧ m.kind ≤ 6
  ap : m.kind = 4 ∨ m.kind = 5 → xAF m.fr m.to = false ∧ xAF m.to m.fr = false
  ne : m.kind = 4 ∨ m.kind = 5 → m.fr ≠ [] ∧ m.to ≠ []
def bkL (m : MsgL) (k : Str) : Option Str :=
  if m.kind = 1 ∨ m.kind = 2 then (if m.key = k then none else some k) else
  if m.kind = 3 then (if hasL m.sp k = true then none else some k) else
  if m.kind = 6 then some k else
  if m.kind = 4 ∧ xAF k m.fr = true then none else
  if xAF k m.to = true then some (m.fr ++ k.drop m.to.length) else some k
def bksL : List MsgL → Str → Option Str
  | [], k => some k
  | m :: r, k => (bkL m k).bind (bksL r)
theorem bks_append (a b : List MsgL) (k : Str) : bksL (a ++ b) k = (bksL a k).bind (bksL b) := by
  induction a generalizing k with
  | nil => rfl
  | cons m a ih =>
    rw [List.cons_append, bksL, bksL]
    cases bkL m k with
    | none => rfl
    | some x => exact ih x
def xDZ (f t : Str) (s : SpanL) : SpanL := ⟨t ++ s.lo.drop f.length, if xAF s.hi f = true ∧ s.hi ≠ [] then t ++ s.hi.drop f.length else upL t⟩
def xI9 (m : MsgL) : List SpanL := xAU m.to :: (if m.kind = 4 then [xAU m.fr] else [])
def inTo (m : MsgL) (l : List SpanL) : List SpanL := (l.map fun x => xAp x (xAU m.to)).filter fun s => !xAI s
def xEj (l : List SpanL) (m : MsgL) : List SpanL :=
  if m.kind = 1 ∨ m.kind = 2 then xBM l [oneL m.key] else
  if m.kind = 3 then xBM l [m.sp] else
  if m.kind = 6 then l else
  xAM (xBM l (xI9 m) ++ (inTo m l).map (xDZ m.to m.fr))
def xHD (s : SpanL) (r : List MsgL) : List SpanL := r.foldl xEj (xAM [s])
theorem xGz : ∀ {p a x : Str}, Op.bytesLess (p ++ a) x = true → xAF x p = false → ∀ r, Op.bytesLess (p ++ r) x = true
  | [], a, x, h, hb, r => by simp [xAF] at hb
  | c :: p, a, [], h, hb, r => by simp [Op.bytesLess] at h
  | c :: p, a, d :: x, h, hb, r => by
    rw [List.cons_append, blt_cons] at h ⊢
    rcases h with h | ⟨rfl, h⟩
    · exact .inl h
    · refine .inr ⟨rfl, xGz h ?_ r⟩
      cases hx : xAF x p with
      | false => rfl
      | true =>
        obtain ⟨q, rfl⟩ := begins_iff.1 hx
        have : xAF (c :: (p ++ q)) (c :: p) = true := begins_iff.2 ⟨q, rfl⟩
        rw [this] at hb
        cases hb
theorem xBy (p r : Str) : xAF (p ++ r) p = true := begins_iff.2 ⟨r, rfl⟩
theorem begins_le {k p : Str} (h : xAF k p = true) : ble p k = true := by
  obtain ⟨r, rfl⟩ := begins_iff.1 h
  exact xCk p r
theorem xHO {f t : Str} (ht : t ≠ []) {s : SpanL} (hn : xAI s = false) (hs : ∀ k, hasL s k = true → xAF k f = true) (k : Str) :
    hasL (xDZ f t s) k = true ↔ ∃ r, k = t ++ r ∧ hasL s (f ++ r) = true := by
  obtain ⟨a, ha⟩ := begins_iff.1 (hs _ (xDJ hn))
  have hd : s.lo.drop f.length = a := by rw [ha]; simp
  by_cases hh : xAF s.hi f = true ∧ s.hi ≠ []
  · obtain ⟨b, hb⟩ := begins_iff.1 hh.1
    have hd2 : s.hi.drop f.length = b := by rw [hb]; simp
    have e : xDZ f t s = ⟨t ++ a, t ++ b⟩ := by unfold xDZ; rw [if_pos hh, hd, hd2]
    have hne : t ++ b ≠ [] := by simp [ht]
    rw [e, has_iff]
    simp only [hne, false_or]
    constructor
    · rintro ⟨h1, h2⟩
      have hk : xAF k t = true := by
        cases hk : xAF k t with
        | true => rfl
        | false =>
          exfalso
          rcases ble_iff.1 h1 with h3 | h3
          · have := xGz h3 hk b
            rw [xBX this] at h2
            cases h2
          · rw [← h3, xBy] at hk
            cases hk
      obtain ⟨r, rfl⟩ := begins_iff.1 hk
      refine ⟨r, rfl, has_iff.2 ⟨?_, .inr ?_⟩⟩
      · rw [ha, xCt]; rwa [xCt] at h1
      · rw [hb, xEP]; rwa [xEP] at h2
    · rintro ⟨r, rfl, h⟩
      obtain ⟨h1, h2⟩ := has_iff.1 h
      rw [ha, xCt] at h1
      have h2 := h2.resolve_left hh.2
      rw [hb, xEP] at h2
      exact ⟨by rwa [xCt], by rwa [xEP]⟩
  · have e : xDZ f t s = ⟨t ++ a, upL t⟩ := by unfold xDZ; rw [if_neg hh, hd]
    have hup : ∀ r, s.hi = [] ∨ Op.bytesLess (f ++ r) s.hi = true := by
      intro r
      by_cases h0 : s.hi = []
      · exact .inl h0
      · have hb : xAF s.hi f = false := by
          cases hb : xAF s.hi f with
          | false => rfl
          | true => exact (hh ⟨hb, h0⟩).elim
        have := xBB hn h0
        rw [ha] at this
        exact .inr (xGz this hb r)
    have hp := xBJ t k
    have e2 : xAU t = ⟨t, upL t⟩ := rfl
    rw [e, has_iff]
    constructor
    · rintro ⟨h1, h2⟩
      have h3 : hasL (xAU t) k = true := by rw [e2, has_iff]; exact ⟨xA1 (xCk t a) h1, h2⟩
      rw [hp] at h3
      obtain ⟨r, rfl⟩ := begins_iff.1 h3
      refine ⟨r, rfl, has_iff.2 ⟨?_, hup r⟩⟩
      rw [ha, xCt]; rwa [xCt] at h1
    · rintro ⟨r, rfl, h⟩
      obtain ⟨h1, h2⟩ := has_iff.1 h
      rw [ha, xCt] at h1
      have h3 : hasL (xAU t) (t ++ r) = true := by rw [xBJ]; exact xBy t r
      rw [e2, has_iff] at h3
      exact ⟨by rwa [xCt], h3.2⟩
theorem xGW (m : MsgL) (l : List SpanL) (k : Str) (h : ∃ s ∈ inTo m l, hasL s k = true) : inL l k = true ∧ xAF k m.to = true := by
  obtain ⟨s, hs, hk⟩ := h
  unfold inTo at hs
  rw [List.mem_filter, List.mem_map] at hs
  obtain ⟨⟨x, hx, rfl⟩, _⟩ := hs
  rw [xCL, Bool.and_eq_true, xBJ] at hk
  exact ⟨inL_iff.2 ⟨x, hx, hk.1⟩, hk.2⟩
theorem xOY (m : MsgL) (l : List SpanL) (k : Str) : (∃ s ∈ inTo m l, hasL s k = true) ↔ inL l k = true ∧ xAF k m.to = true := by
  refine ⟨xGW m l k, ?_⟩
  rintro ⟨h1, h2⟩
  obtain ⟨x, hx, hk⟩ := inL_iff.1 h1
  have hm : hasL (xAp x (xAU m.to)) k = true := by rw [xCL, Bool.and_eq_true, xBJ]; exact ⟨hk, h2⟩
  refine ⟨_, List.mem_filter.2 ⟨List.mem_map.2 ⟨x, hx, rfl⟩, ?_⟩, hm⟩
  cases he : xAI (xAp x (xAU m.to)) with
  | false => rfl
  | true => rw [xAc he] at hm; cases hm
theorem xGV {m : MsgL} {l : List SpanL} {s : SpanL} (h : s ∈ inTo m l) : xAI s = false ∧ ∀ k, hasL s k = true → xAF k m.to = true := by
  refine ⟨?_, fun k hk => (xGW m l k ⟨s, h, hk⟩).2⟩
  unfold inTo at h
  rw [List.mem_filter] at h
  simpa using h.2
theorem xM3 {m : MsgL} (hf : m.fr ≠ []) (l : List SpanL) (k : Str) : inL ((inTo m l).map (xDZ m.to m.fr)) k = true ↔ ∃ r, k = m.fr ++ r ∧ inL l (m.to ++ r) = true := by
  rw [inL_iff]
  constructor
  · rintro ⟨x, hx, hk⟩
    obtain ⟨s, hs, rfl⟩ := List.mem_map.1 hx
    obtain ⟨h1, h2⟩ := xGV hs
    obtain ⟨r, rfl, hr⟩ := (xHO hf h1 h2 k).1 hk
    exact ⟨r, rfl, (xGW m l _ ⟨s, hs, hr⟩).1⟩
  · rintro ⟨r, rfl, hr⟩
    obtain ⟨s, hs, hk⟩ := (xOY m l (m.to ++ r)).2 ⟨hr, xBy _ _⟩
    obtain ⟨h1, h2⟩ := xGV hs
    exact ⟨_, List.mem_map.2 ⟨s, hs, rfl⟩, (xHO hf h1 h2 _).2 ⟨r, rfl, hk⟩⟩
theorem xHp {l : List SpanL} (h : Nrm l) (m : MsgL) : Nrm (xEj l m) := by
  unfold xEj
  split
  · exact xDa _ _
  · split
    · exact xDa _ _
    · split
      · exact h
      · exact (xAd _).1
theorem xIT {m : MsgL} (hm : MsgOk m) (l : List SpanL) (k : Str) : inL (xEj l m) k = true ↔ ∃ x, inL l x = true ∧ bkL m x = some k := by
  unfold xEj bkL
  by_cases h1 : m.kind = 1 ∨ m.kind = 2
  · simp only [if_pos h1]
    rw [xBg, xAR, xJj]
    simp only [inL, List.any_nil, Bool.or_false, Bool.and_eq_true, Bool.not_eq_true', beq_eq_false_iff_ne, ne_eq]
    constructor
    · rintro ⟨g1, g2⟩
      exact ⟨k, g1, by rw [if_neg fun e => g2 e.symm]⟩
    · rintro ⟨x, g1, g2⟩
      split at g2
      · cases g2
      · rename_i hx
        cases g2
        exact ⟨g1, fun e => hx e.symm⟩
  simp only [if_neg h1]
  by_cases h3 : m.kind = 3
  · simp only [if_pos h3]
    rw [xBg, xAR]
    simp only [inL, List.any_nil, Bool.or_false, Bool.and_eq_true, Bool.not_eq_true']
    constructor
    · rintro ⟨g1, g2⟩
      exact ⟨k, g1, by rw [if_neg (by rw [g2]; simp)]⟩
    · rintro ⟨x, g1, g2⟩
      split at g2
      · cases g2
      · rename_i hx
        cases g2
        exact ⟨g1, by simpa using hx⟩
  simp only [if_neg h3]
  by_cases h6 : m.kind = 6
  · simp only [if_pos h6]
    exact ⟨fun h => ⟨k, h, rfl⟩, fun ⟨x, h, e⟩ => by cases e; exact h⟩
  simp only [if_neg h6]
  have hk := hm.k
  have h45 : m.kind = 4 ∨ m.kind = 5 := by omega
  obtain ⟨ap1, ap2⟩ := hm.ap h45
  obtain ⟨ne1, ne2⟩ := hm.ne h45
  have both : ∀ x, xAF x m.fr = true → xAF x m.to = true → False := by
    intro x b1 b2
    obtain ⟨r, rfl⟩ := begins_iff.1 b1
    obtain ⟨q, hq⟩ := begins_iff.1 b2
    rcases Nat.le_total m.fr.length m.to.length with hlen | hlen
    · have : xAF m.to m.fr = true := begins_iff.2 ⟨m.to.drop m.fr.length, by
        have := congrArg (List.take m.fr.length) hq
        rw [List.take_left, List.take_append_of_le_length hlen] at this
        conv => lhs; rw [← List.take_append_drop m.fr.length m.to]
        rw [← this]⟩
      rw [this] at ap2; cases ap2
    · have : xAF m.fr m.to = true := begins_iff.2 ⟨m.fr.drop m.to.length, by
        have := congrArg (List.take m.to.length) hq
        rw [List.take_left, List.take_append_of_le_length hlen] at this
        conv => lhs; rw [← List.take_append_drop m.to.length m.fr]
        rw [this]⟩
      rw [this] at ap1; cases ap1
  rw [(xAd _).2, xCO, Bool.or_eq_true, xBg, xM3 ne1]
  have hg : inL (xI9 m) k = (xAF k m.to || (decide (m.kind = 4) && xAF k m.fr)) := by
    unfold xI9
    rw [xAR, xBJ]
    by_cases h4 : m.kind = 4
    · rw [if_pos h4, xAR, xBJ]; simp [inL, h4]
    · rw [if_neg h4]; simp [inL, h4]
  rw [hg]
  simp only [Bool.and_eq_true, Bool.not_eq_true', Bool.or_eq_false_iff]
  constructor
  · rintro (⟨g1, g2, g3⟩ | ⟨r, rfl, g⟩)
    · refine ⟨k, g1, ?_⟩
      rw [if_neg (fun hc => by rw [hc.2, decide_eq_true hc.1] at g3; cases g3), if_neg (by rw [g2]; simp)]
    · refine ⟨m.to ++ r, g, ?_⟩
      rw [if_neg fun hc => both _ hc.2 (xBy _ _), if_pos (xBy _ _)]
      simp
  · rintro ⟨x, g1, g2⟩
    split at g2
    · cases g2
    · rename_i hc
      split at g2
      · rename_i hb
        obtain ⟨r, rfl⟩ := begins_iff.1 hb
        simp only [List.drop_left, Option.some.injEq] at g2
        exact .inr ⟨r, g2.symm, g1⟩
      · rename_i hb
        cases g2
        refine .inl ⟨g1, by simpa using hb, ?_⟩
        by_cases h4 : m.kind = 4
        · rw [decide_eq_true h4, Bool.true_and]
          cases hx : xAF k m.fr with
          | false => rfl
          | true => exact (hc ⟨h4, hx⟩).elim
        · rw [decide_eq_false h4]; rfl
theorem spans_nrm (s : SpanL) (r : List MsgL) : Nrm (xHD s r) := by
  unfold xHD
  have key : ∀ (r : List MsgL) (l : List SpanL), Nrm l → Nrm (r.foldl xEj l) := by
    intro r
    induction r with
    | nil => intro l h; exact h
    | cons m r ih => intro l h; exact ih _ (xHp h m)
  exact key r _ (xAd _).1
theorem xHB : ∀ (r : List MsgL) (l : List SpanL) (k : Str), (∀ m ∈ r, MsgOk m) → (inL (r.foldl xEj l) k = true ↔ ∃ x, inL l x = true ∧ bksL r x = some k)
  | [], l, k, _ => ⟨fun h => ⟨k, h, rfl⟩, fun ⟨x, h, e⟩ => by cases e; exact h⟩
  | m :: r, l, k, h => by
    rw [List.foldl_cons, xHB r _ k fun x hx => h x (by simp [hx])]
    constructor
    · rintro ⟨x, g1, g2⟩
      obtain ⟨y, g3, g4⟩ := (xIT (h m (by simp)) l x).1 g1
      exact ⟨y, g3, by rw [bksL, g4]; exact g2⟩
    · rintro ⟨y, g1, g2⟩
      rw [bksL] at g2
      obtain ⟨x, g3, g4⟩ := Option.bind_eq_some_iff.1 g2
      exact ⟨x, (xIT (h m (by simp)) l x).2 ⟨y, g1, g3⟩, g4⟩
theorem spans_keys (s : SpanL) {r : List MsgL} (h : ∀ m ∈ r, MsgOk m) (k : Str) : inL (xHD s r) k = true ↔ ∃ x, hasL s x = true ∧ bksL r x = some k := by
  unfold xHD
  rw [xHB r _ k h]
  have e : ∀ x, inL (xAM [s]) x = hasL s x := fun x => by rw [(xAd _).2]; simp [inL]
  simp only [e]
end Go.Pu
set_option linter.unusedVariables false
set_option linter.unusedSimpArgs false
namespace Go.Pu
theorem xQI {x a b : Str} (b1 : xAF x a = true) (b2 : xAF x b = true) : xAF a b = true ∨ xAF b a = true := by
  obtain ⟨r, rfl⟩ := begins_iff.1 b1
  obtain ⟨q, hq⟩ := begins_iff.1 b2
  rcases Nat.le_total a.length b.length with hlen | hlen
  · refine .inr (begins_iff.2 ⟨b.drop a.length, ?_⟩)
    have := congrArg (List.take a.length) hq
    rw [List.take_left, List.take_append_of_le_length hlen] at this
    conv => lhs; rw [← List.take_append_drop a.length b]
    rw [← this]
  · refine .inl (begins_iff.2 ⟨a.drop b.length, ?_⟩)
    have := congrArg (List.take b.length) hq
    rw [List.take_left, List.take_append_of_le_length hlen] at this
    conv => lhs; rw [← List.take_append_drop b.length a]
    rw [this]
theorem bk_inj {m : MsgL} (hm : MsgOk m) (hc : m.kind ≠ 5) {a b k : Str} (ha : bkL m a = some k) (hb : bkL m b = some k) : a = b := by
  unfold bkL at ha hb
  by_cases h1 : m.kind = 1 ∨ m.kind = 2
  · rw [if_pos h1] at ha hb
    split at ha
    · cases ha
    · split at hb
      · cases hb
      · cases ha; cases hb; rfl
  rw [if_neg h1] at ha hb
  by_cases h3 : m.kind = 3
  · rw [if_pos h3] at ha hb
    split at ha
    · cases ha
    · split at hb
      · cases hb
      · cases ha; cases hb; rfl
  rw [if_neg h3] at ha hb
  by_cases h6 : m.kind = 6
  · rw [if_pos h6] at ha hb
    cases ha; cases hb; rfl
  rw [if_neg h6] at ha hb
  have hk := hm.k
  have h4 : m.kind = 4 := by omega
  simp only [h4, true_and] at ha hb
  split at ha
  · cases ha
  · rename_i na
    split at hb
    · cases hb
    · rename_i nb
      split at ha
      · rename_i ta
        obtain ⟨r, rfl⟩ := begins_iff.1 ta
        simp only [List.drop_left, Option.some.injEq] at ha
        split at hb
        · rename_i tb
          obtain ⟨q, rfl⟩ := begins_iff.1 tb
          simp only [List.drop_left, Option.some.injEq] at hb
          rw [← hb, List.append_cancel_left_eq] at ha
          rw [ha]
        · cases hb
          rw [← ha] at nb
          exact (nb (xBy _ _)).elim
      · cases ha
        split at hb
        · rename_i tb
          obtain ⟨q, rfl⟩ := begins_iff.1 tb
          simp only [List.drop_left, Option.some.injEq] at hb
          rw [← hb] at na
          exact (na (xBy _ _)).elim
        · cases hb; rfl
theorem xQH : ∀ {r : List MsgL}, (∀ m ∈ r, MsgOk m) → (∀ m ∈ r, m.kind ≠ 5) → ∀ {a b k : Str}, bksL r a = some k → bksL r b = some k → a = b
  | [], _, _, a, b, k, ha, hb => by cases ha; cases hb; rfl
  | m :: r, h, hc, a, b, k, ha, hb => by
    rw [bksL] at ha hb
    obtain ⟨x, g1, g2⟩ := Option.bind_eq_some_iff.1 ha
    obtain ⟨y, g3, g4⟩ := Option.bind_eq_some_iff.1 hb
    have := xQH (fun m hm => h m (by simp [hm])) (fun m hm => hc m (by simp [hm])) g2 g4
    subst this
    exact bk_inj (h m (by simp)) (hc m (by simp)) g1 g3
theorem xMt {l : List SpanL} (h : Nrm l) {b : List Str} (hb : ∀ s ∈ l, s.lo ∈ b) : l.length ≤ b.length := by
  have := xF6 (l.map SpanL.lo) b (xJm h) (by
    intro x hx
    obtain ⟨s, hs, rfl⟩ := List.mem_map.1 hx
    exact hb s hs)
  simpa using this
theorem xJq {l g : List SpanL} {t : SpanL} (h : t ∈ xBl l g) : xAI t = false → (∃ x ∈ l, x.lo = t.lo) ∨ ∃ x ∈ g, x.hi = t.lo := by
  intro hne
  unfold xBl at h
  rw [List.mem_flatMap] at h
  obtain ⟨c, hc, ht⟩ := h
  obtain ⟨x, hx, rfl⟩ := List.mem_map.1 ht
  have hm : xAp c x = ⟨maxL c.lo x.lo, xBp c.hi x.hi⟩ ∨ xAp c x = xG5 := by unfold xAp; split <;> simp
  rcases hm with hm | hm
  · rw [hm]
    simp only
    rcases xHR c.lo x.lo with e | e
    · rw [e]
      rcases xFd _ _ _ _ hc with h1 | h1 | ⟨y, hy, h1⟩
      · cases h1
      · rw [h1] at e ⊢
        left
        refine ⟨x, hx, ?_⟩
        have h2 : ble x.lo [] = true := by
          have := (xGF (a := c.lo) (b := x.lo) (k := maxL c.lo x.lo)).1 (xDy _)
          rw [h1, e] at this
          exact this.2
        exact xDm h2 (xDl _)
      · right
        obtain ⟨z, hz, e2⟩ := xHt hy
        exact ⟨z, hz, by rw [e2, h1]⟩
    · rw [e]
      exact .inl ⟨x, hx, rfl⟩
  · rw [hm] at hne
    exact absurd hne (by decide)
theorem xOD {l g : List SpanL} {t : SpanL} (h : t ∈ xBM l g) : (∃ x ∈ l, x.lo = t.lo) ∨ ∃ x ∈ g, x.hi = t.lo := by
  unfold xBM at h
  obtain ⟨y, hy, e, hne⟩ := xEU h
  rw [← e]
  exact xJq hy hne
theorem xOB (f t : Str) (s : SpanL) : (xDZ f t s).lo = t ++ s.lo.drop f.length := rfl
theorem xP0 (a b : SpanL) : (xAp a b).lo = maxL a.lo b.lo ∨ xAp a b = xG5 := by
  unfold xAp
  split
  · exact .inr rfl
  · exact .inl rfl
theorem xNg {m : MsgL} (hm : MsgOk m) {l : List SpanL} (h : Nrm l) : (xEj l m).length ≤ l.length + 3 := by
  have hn := xHp h m
  unfold xEj at hn ⊢
  split
  · have := xGA l [oneL m.key]
    simp at this
    omega
  · split
    · have := xGA l [m.sp]
      simp at this
      omega
    · split
      · omega
      · rename_i h1 h3 h6
        rw [if_neg h1, if_neg h3, if_neg h6] at hn
        have hk := hm.k
        have h45 : m.kind = 4 ∨ m.kind = 5 := by omega
        refine Nat.le_trans (xMt hn (b := (l.map fun x => if xAF x.lo m.to = true then m.fr ++ x.lo.drop m.to.length else x.lo) ++ [upL m.to, upL m.fr, m.fr]) ?_) (by simp)
        intro s hs
        obtain ⟨y, hy, e, hne⟩ := xEU hs
        rw [← e]
        rw [List.mem_append] at hy
        rcases hy with hy | hy
        · rcases xOD hy with ⟨x, hx, e1⟩ | ⟨x, hx, e1⟩
          · have hx2 : xAF y.lo m.to = false := by
              have h7 : inL (xBM l (xI9 m)) y.lo = true := inL_iff.2 ⟨y, hy, xDJ hne⟩
              rw [xBg, Bool.and_eq_true, xI9, xAR, xBJ] at h7
              have h8 := h7.2
              simp only [Bool.not_eq_true', Bool.or_eq_false_iff] at h8
              exact h8.1
            rw [List.mem_append]
            left
            rw [List.mem_map]
            refine ⟨x, hx, ?_⟩
            rw [e1, if_neg (by rw [hx2]; simp)]
          · rw [List.mem_append]
            right
            rw [← e1]
            unfold xI9 at hx
            split at hx
            · simp at hx
              rcases hx with rfl | rfl
              · simp [xAU]
              · simp [xAU]
            · simp at hx
              subst hx
              simp [xAU]
        · obtain ⟨s2, hs2, rfl⟩ := List.mem_map.1 hy
          obtain ⟨hne2, hbg⟩ := xGV hs2
          have hb2 := hbg _ (xDJ hne2)
          unfold inTo at hs2
          rw [List.mem_filter, List.mem_map] at hs2
          obtain ⟨⟨x, hx, rfl⟩, _⟩ := hs2
          rw [xOB, List.mem_append]
          rcases xP0 x (xAU m.to) with e2 | e2
          · rw [e2] at hb2 ⊢
            rcases xHR x.lo (xAU m.to).lo with e3 | e3
            · rw [e3] at hb2 ⊢
              left
              rw [List.mem_map]
              exact ⟨x, hx, by rw [if_pos hb2]⟩
            · rw [e3]
              right
              simp [xAU]
          · rw [e2] at hne2
            exact absurd hne2 (by decide)
theorem spans_len (s : SpanL) {r : List MsgL} (h : ∀ m ∈ r, MsgOk m) : (xHD s r).length ≤ 1 + 3 * r.length := by
  unfold xHD
  have key : ∀ (r : List MsgL) (l : List SpanL), Nrm l → (∀ m ∈ r, MsgOk m) → (r.foldl xEj l).length ≤ l.length + 3 * r.length := by
    intro r
    induction r with
    | nil => intro l h _; simp
    | cons m r ih =>
      intro l hl h
      have h1 := ih _ (xHp hl m) fun x hx => h x (by simp [hx])
      have h2 := xNg (h m (by simp)) hl
      simp only [List.foldl_cons, List.length_cons]
      omega
  have h1 := key r _ (xAd [s]).1 h
  have h2 := xB5 [s]
  simp only [List.length_cons, List.length_nil] at h2
  omega
end Go.Pu
set_option linter.unusedVariables false
set_option linter.unusedSimpArgs false
namespace Go.Pu
theorem xNE {l : List SpanL} (h : Nrm l) (c : SpanL) : (xDE l c).length ≤ l.length + 1 := by
  have hn := xK2 h c
  have : (xDE l c).length ≤ (l.map SpanL.lo ++ [c.hi]).length := xMt hn fun s hs => by
    unfold xDE at hs
    split at hs
    · exact List.mem_append.2 (.inl (List.mem_map.2 ⟨s, hs, rfl⟩))
    · obtain ⟨y, hy, e, hne⟩ := xEU hs
      rw [← e]
      obtain ⟨x, hx, hy⟩ := List.mem_flatMap.1 hy
      unfold cutL at hy
      have two : ∀ z : SpanL, y = xAp x z → (z.lo = [] ∨ z.lo = c.hi) → y.lo ∈ l.map SpanL.lo ++ [c.hi] := by
        rintro z rfl hz
        have hm : xAp x z = ⟨maxL x.lo z.lo, xBp x.hi z.hi⟩ ∨ xAp x z = xG5 := by unfold xAp; split <;> simp
        rcases hm with hm | hm
        · rw [hm]
          rcases xHR x.lo z.lo with e2 | e2
          · simp only [e2]
            exact List.mem_append.2 (.inl (List.mem_map.2 ⟨x, hx, rfl⟩))
          · simp only [e2]
            rcases hz with hz | hz
            · rw [hz] at e2 ⊢
              have h2 : ble x.lo [] = true := by
                have := (xGF (a := x.lo) (b := []) (k := maxL x.lo [])).1 (xDy _)
                rw [e2] at this
                exact this.1
              have h3 := xDm h2 (xDl _)
              exact List.mem_append.2 (.inl (List.mem_map.2 ⟨x, hx, h3⟩))
            · rw [hz]
              simp
        · rw [hm] at hne
          exact absurd hne (by decide)
      rw [List.mem_append] at hy
      rcases hy with hy | hy
      · split at hy
        · cases hy
        · exact two _ (List.mem_singleton.1 hy) (.inl rfl)
      · split at hy
        · cases hy
        · exact two _ (List.mem_singleton.1 hy) (.inr rfl)
  simpa using this
end Go.Pu
set_option linter.unusedVariables false
set_option linter.unusedSimpArgs false
namespace Go.Pu
theorem xKu : ∀ (l : List SpanL) (lo : Str) (out : List SpanL) (t : SpanL), t ∈ xCb lo l out → t ∈ out ∨ t.hi = [] ∨ ∃ x ∈ l, x.lo = t.hi
  | [], lo, out, t, h => by
    rw [xCb] at h
    rcases List.mem_append.1 h with h | h
    · exact .inl h
    · exact .inr (.inl (by rw [List.mem_singleton.1 h]))
  | s :: l, lo, out, t, h => by
    have h2 : t ∈ (if s.lo = [] then out else out ++ [⟨lo, s.lo⟩]) → t ∈ out ∨ s.lo = t.hi := by
      split
      · exact .inl
      · intro h
        rcases List.mem_append.1 h with h | h
        · exact .inl h
        · exact .inr (by rw [List.mem_singleton.1 h])
    rw [xCb] at h
    generalize (if s.lo = [] then out else out ++ [(⟨lo, s.lo⟩ : SpanL)]) = o2 at *
    split at h
    · rcases h2 h with h | h
      · exact .inl h
      · exact .inr (.inr ⟨s, by simp, h⟩)
    · rcases xKu l s.hi o2 t h with h | h | ⟨x, hx, hxt⟩
      · rcases h2 h with h | h
        · exact .inl h
        · exact .inr (.inr ⟨s, by simp, h⟩)
      · exact .inr (.inl h)
      · exact .inr (.inr ⟨x, by simp [hx], hxt⟩)
def SpLen (n : Nat) (l : List SpanL) : Prop := ∀ s ∈ l, s.lo.length ≤ n ∧ s.hi.length ≤ n
theorem SpLen.mono {n m : Nat} (h : n ≤ m) {l : List SpanL} (hl : SpLen n l) : SpLen m l := fun s hs => ⟨Nat.le_trans (hl s hs).1 h, Nat.le_trans (hl s hs).2 h⟩
theorem SpLen.app {n : Nat} {a b : List SpanL} (ha : SpLen n a) (hb : SpLen n b) : SpLen n (a ++ b) := fun s hs => (List.mem_append.1 hs).elim (ha s) (hb s)
theorem xEC {n : Nat} {l : List SpanL} (h : SpLen n l) : SpLen n (xAM l) := by
  intro s hs
  obtain ⟨x, hx, e, _⟩ := xEU hs
  obtain ⟨y, hy, e2⟩ := xHt hs
  rw [← e, ← e2]
  exact ⟨(h x hx).1, (h y hy).2⟩
theorem xOT (a b : Str) : xBp a b = a ∨ xBp a b = b := by unfold xBp; split <;> simp
theorem xHQ {n : Nat} (hn : 1 ≤ n) {a b : SpanL} (ha : a.lo.length ≤ n ∧ a.hi.length ≤ n) (hb : b.lo.length ≤ n ∧ b.hi.length ≤ n) : (xAp a b).lo.length ≤ n ∧ (xAp a b).hi.length ≤ n := by
  unfold xAp
  split
  · exact ⟨hn, hn⟩
  · simp only
    constructor
    · rcases xHR a.lo b.lo with e | e <;> rw [e]
      · exact ha.1
      · exact hb.1
    · rcases xOT a.hi b.hi with e | e <;> rw [e]
      · exact ha.2
      · exact hb.2
theorem xLa {n : Nat} {g : List SpanL} (hg : SpLen n g) : SpLen n (xCb [] (xAM g) []) := by
  have h := xEC hg
  intro s hs
  constructor
  · rcases xFd _ _ _ _ hs with h1 | h1 | ⟨x, hx, h1⟩
    · cases h1
    · rw [h1]; simp
    · rw [← h1]; exact (h x hx).2
  · rcases xKu _ _ _ _ hs with h1 | h1 | ⟨x, hx, h1⟩
    · cases h1
    · rw [h1]; simp
    · rw [← h1]; exact (h x hx).1
theorem xEH {n : Nat} (hn : 1 ≤ n) {l g : List SpanL} (hl : SpLen n l) (hg : SpLen n g) : SpLen n (xBM l g) := by
  unfold xBM
  refine xEC fun s hs => ?_
  unfold xBl at hs
  rw [List.mem_flatMap] at hs
  obtain ⟨c, hc, ht⟩ := hs
  obtain ⟨x, hx, rfl⟩ := List.mem_map.1 ht
  exact xHQ hn (xLa hg c hc) (hl x hx)
structure MsgLen (b : Nat) (m : MsgL) : Prop where
  key : m.key.length ≤ b
  lo : m.sp.lo.length ≤ b
  hi : m.sp.hi.length ≤ b
  fr : m.fr.length ≤ b
  to : m.to.length ≤ b
theorem xCh {n : Nat} {p : Str} (h : p.length ≤ n) : (xAU p).lo.length ≤ n ∧ (xAU p).hi.length ≤ n := ⟨h, Nat.le_trans (xJU p) h⟩
theorem xLZ {b : Nat} {m : MsgL} (hm : MsgLen b m) : SpLen b (xI9 m) := by
  intro s hs
  unfold xI9 at hs
  split at hs
  · simp at hs
    rcases hs with rfl | rfl
    · exact xCh hm.to
    · exact xCh hm.fr
  · simp at hs
    subst hs
    exact xCh hm.to
theorem xLX {n : Nat} (hn : 1 ≤ n) {l : List SpanL} (hl : SpLen n l) {m : MsgL} (hm : m.to.length ≤ n) : SpLen n (inTo m l) := by
  intro s hs
  unfold inTo at hs
  rw [List.mem_filter, List.mem_map] at hs
  obtain ⟨⟨x, hx, rfl⟩, _⟩ := hs
  exact xHQ hn (hl x hx) (xCh hm)
theorem xIo {n b : Nat} {s : SpanL} (hs : s.lo.length ≤ n ∧ s.hi.length ≤ n) {f t : Str} (ht : t.length ≤ b) : (xDZ f t s).lo.length ≤ n + b ∧ (xDZ f t s).hi.length ≤ n + b := by
  unfold xDZ
  simp only
  constructor
  · simp only [List.length_append, List.length_drop]; omega
  · split
    · simp only [List.length_append, List.length_drop]; omega
    · have := xJU t; omega
theorem xLE {n b : Nat} (hb : b + 1 ≤ n) {l : List SpanL} (hl : SpLen n l) {m : MsgL} (hm : MsgLen b m) : SpLen (n + b) (xEj l m) := by
  unfold xEj
  split
  · refine (xEH (by omega) hl ?_).mono (by omega)
    intro s hs
    simp at hs
    subst hs
    have := hm.key
    unfold oneL
    simp
    omega
  · split
    · refine (xEH (by omega) hl ?_).mono (by omega)
      intro s hs
      simp at hs
      subst hs
      have h1 := hm.lo
      have h2 := hm.hi
      omega
    · split
      · exact hl.mono (by omega)
      · refine xEC (SpLen.app ((xEH (by omega) hl ((xLZ hm).mono (by omega))).mono (by omega)) ?_)
        intro s hs
        obtain ⟨x, hx, rfl⟩ := List.mem_map.1 hs
        exact xIo (xLX (by omega) hl (by have := hm.to; omega) x hx) hm.fr
theorem xJX {b : Nat} : ∀ (r : List MsgL) (n : Nat) (l : List SpanL), b + 1 ≤ n → SpLen n l → (∀ m ∈ r, MsgLen b m) → SpLen (n + b * r.length) (r.foldl xEj l)
  | [], n, l, _, h, _ => by simpa using h
  | m :: r, n, l, hb, h, hm => by
    have := xJX r (n + b) _ (by omega) (xLE hb h (hm m (by simp))) fun x hx => hm x (by simp [hx])
    rw [List.foldl_cons]
    refine this.mono ?_
    rw [List.length_cons, Nat.mul_add]
    omega
end Go.Pu
set_option linter.unusedVariables false
set_option linter.unusedSimpArgs false
namespace Go.Pu
structure RawM where
  a : Nat
  b : Nat
  c : Nat
  d : Nat
  e : Nat
  f : Nat
  deriving DecidableEq
def RawM.ok (r : RawM) : Prop := r.a < 256 ∧ r.b < 256 ∧ r.c < 256 ∧ r.d < 256 ∧ r.e < 256 ∧ r.f < 256
def paths5 : List Str := [[97, 47], [98, 47], [97, 47, 98, 47], [99, 47], [100, 47]]
def xAt (n : Nat) : Str := (paths5[n % 5]?).getD []
def ends5 : List Str := [[1], [2, 0, 0], [2, 0, 1], [2, 0, 2], [3, 120]]
def endM (n : Nat) : Str := (ends5[n % 5]?).getD []
def keyM (n : Nat) : Str := xAt (n % 4) ++ endM (n / 4)
def vals5 : List Str := [[], [120], [121, 121], [49, 50, 51, 52, 53, 54, 55, 56, 57, 48], [0, 255]]
def valM (n : Nat) : Str := (vals5[n % 5]?).getD []
def minS (a b : Str) : Str := if Op.bytesLess b a = true then b else a
def spM (x : RawM) : SpanL :=
  if x.e % 4 = 0 then xAU (xAt x.b) else
  if x.e % 16 = 1 then ⟨keyM x.b, []⟩ else
  if x.e % 16 = 5 then ⟨[], []⟩ else
  if keyM x.b = keyM x.d then oneL (keyM x.b) else ⟨minS (keyM x.b) (keyM x.d), maxL (keyM x.b) (keyM x.d)⟩
def toM (x : RawM) : Str :=
  if xAF (xAt x.b) (xAt x.d) = true ∨ xAF (xAt x.d) (xAt x.b) = true then (if xAt x.b = [100, 47] then [99, 47] else [100, 47]) else xAt x.d
def xAW (x : RawM) : MsgL :=
  if x.a % 6 = 0 then ⟨1, keyM x.b, valM x.c, ⟨[], []⟩, [], [], (x.f % 8 : Nat)⟩ else
  if x.a % 6 = 1 then ⟨2, keyM x.b, [], ⟨[], []⟩, [], [], 0⟩ else
  if x.a % 6 = 2 then ⟨3, [], [], spM x, [], [], 0⟩ else
  if x.a % 6 = 3 then ⟨4, [], [], ⟨[], []⟩, xAt x.b, toM x, 0⟩ else
  if x.a % 6 = 4 then ⟨5, [], [], ⟨[], []⟩, xAt x.b, toM x, 0⟩ else ⟨6, [], [], spM x, [], [], (x.f % 8 : Nat)⟩
def xCZ (l : List RawM) (n : Nat) : List MsgL := (l.take n).map xAW
theorem xCK (n : Nat) : xAt n ∈ paths5 := by
  unfold xAt paths5
  have : n % 5 < 5 := Nat.mod_lt _ (by omega)
  generalize n % 5 = m at this
  match m, this with
  | 0, _ => simp
  | 1, _ => simp
  | 2, _ => simp
  | 3, _ => simp
  | 4, _ => simp
theorem xM9 (n : Nat) : endM n ∈ ends5 := by
  unfold endM ends5
  have : n % 5 < 5 := Nat.mod_lt _ (by omega)
  generalize n % 5 = m at this
  match m, this with
  | 0, _ => simp
  | 1, _ => simp
  | 2, _ => simp
  | 3, _ => simp
  | 4, _ => simp
theorem xCi {p : Str} (h : p ∈ paths5) : p.length ≤ 4 ∧ p ≠ [] := by
  have : ∀ p ∈ paths5, p.length ≤ 4 ∧ p ≠ [] := by decide
  exact this p h
theorem xJt (n : Nat) : (keyM n).length ≤ 7 := by
  have h1 := (xCi (xCK (n % 4))).1
  have h2 : ∀ p ∈ ends5, p.length ≤ 3 := by decide
  have h3 := h2 _ (xM9 (n / 4))
  unfold keyM
  simp only [List.length_append]
  omega
theorem xOq (x : RawM) : toM x ∈ paths5 := by
  unfold toM
  split
  · split
    · decide
    · decide
  · exact xCK _
theorem xNf (x : RawM) : xAF (xAt x.b) (toM x) = false ∧ xAF (toM x) (xAt x.b) = false := by
  have key : ∀ p ∈ paths5, ∀ q ∈ paths5, xAF p (if xAF p q = true ∨ xAF q p = true then (if p = [100, 47] then [99, 47] else [100, 47]) else q) = false ∧ xAF (if xAF p q = true ∨ xAF q p = true then (if p = [100, 47] then [99, 47] else [100, 47]) else q) p = false := by decide
  exact key _ (xCK _) _ (xCK _)
theorem xNj (x : RawM) : xAI (spM x) = false := by
  unfold spM
  split
  · exact xCD _
  · split
    · simp [xAI]
    · split
      · simp [xAI]
      · split
        · exact xEW _
        · rename_i h
          generalize keyM x.b = a at h
          generalize keyM x.d = b at h
          unfold minS maxL xAI
          simp only
          rcases xBw a b with h1 | h1 | h1
          · have h2 := xBX h1
            simp [h1, h2, (xJL h1).symm]
          · exact absurd h1 h
          · have h2 := xBX h1
            simp [h1, h2, (xJL h1).symm]
theorem xGJ (x : RawM) : MsgOk (xAW x) := by
  have ha := xNf x
  have h1 := (xCi (xCK x.b)).2
  have h2 := (xCi (xOq x)).2
  unfold xAW
  repeat' split
  all_goals refine ⟨by simp, ?_, ?_⟩
  all_goals first | (intro h; exact ha) | (intro h; exact ⟨h1, h2⟩) | (intro h; simp at h)
theorem xIt (x : RawM) (h : (xAW x).kind = 3 ∨ (xAW x).kind = 6) : xAI (xAW x).sp = false := by
  have hs := xNj x
  unfold xAW at h ⊢
  repeat' split
  all_goals first | exact hs | simp_all
theorem xLU {a b : Str} {n : Nat} (ha : a.length ≤ n) (hb : b.length ≤ n) : (minS a b).length ≤ n ∧ (maxL a b).length ≤ n := by
  unfold minS maxL
  constructor <;> split <;> assumption
theorem xKi (x : RawM) : MsgLen 8 (xAW x) := by
  have h1 := (xCi (xCK x.b)).1
  have h2 := (xCi (xOq x)).1
  have h3 := xJt x.b
  have h4 := xJt x.d
  have h5 := xJU (xAt x.b)
  have h6 := xLU (n := 8) (a := keyM x.b) (b := keyM x.d) (by omega) (by omega)
  have hs : (spM x).lo.length ≤ 8 ∧ (spM x).hi.length ≤ 8 := by
    unfold spM
    repeat' split
    · exact ⟨by show (xAt x.b).length ≤ 8; omega, by show (upL (xAt x.b)).length ≤ 8; omega⟩
    · exact ⟨by simp only; omega, by simp⟩
    · simp
    · exact ⟨by show (keyM x.b).length ≤ 8; omega, by show (keyM x.b ++ [0]).length ≤ 8; simp; omega⟩
    · exact h6
  unfold xAW
  repeat' split
  all_goals (refine ⟨?_, ?_, ?_, ?_, ?_⟩ <;> simp only [List.length_nil] <;> omega)
theorem xP6 {l : List RawM} {n : Nat} : ∀ m ∈ xCZ l n, MsgOk m := by
  intro m hm
  obtain ⟨x, _, rfl⟩ := List.mem_map.1 hm
  exact xGJ x
theorem xOQ {l : List RawM} {n : Nat} : ∀ m ∈ xCZ l n, MsgLen 8 m := by
  intro m hm
  obtain ⟨x, _, rfl⟩ := List.mem_map.1 hm
  exact xKi x
end Go.Pu
set_option linter.unusedVariables false
set_option linter.unusedSimpArgs false
namespace Go.Pu
def covL (m : MsgL) (d : List SpanL) : Bool := (xBM (xAh m) d).length == 0
def nxtL (m : MsgL) (d : List SpanL) : List SpanL := xBM (d ++ xA5 m) (xCU m)
def xBW : List MsgL → List SpanL → List MsgL
  | [], _ => []
  | m :: r, d => if covL m d = true then xBW r d else m :: xBW r (nxtL m d)
def xFV : List MsgL → List SpanL → List SpanL
  | [], d => d
  | m :: r, d => if covL m d = true then xFV r d else xFV r (nxtL m d)
def xBm (l : List MsgL) (dead : List SpanL) : List MsgL × List SpanL := ((xBW l.reverse (xAM dead)).reverse, xFV l.reverse (xAM dead))
def xAT (l : List MsgL) : List MsgL := (xBm l []).1
theorem xIe : xAM [] = [] := rfl
theorem xDo (m : MsgL) : (xAh m).length ≤ 2 := by
  unfold xAh
  repeat' split
  all_goals simp
theorem xGP (m : MsgL) : (xA5 m).length ≤ 2 := by unfold xA5; split; simp; exact xDo m
theorem xF0 (m : MsgL) : (xCU m).length ≤ 1 := by
  unfold xCU
  repeat' split
  all_goals simp
theorem xJl (m : MsgL) (d : List SpanL) : (nxtL m d).length ≤ d.length + 3 := by
  have h1 := xGA (d ++ xA5 m) (xCU m)
  have h2 := xGP m
  have h3 := xF0 m
  unfold nxtL
  rw [List.length_append] at h1
  omega
theorem cov_iff {m : MsgL} {d : List SpanL} : covL m d = true ↔ ∀ k, inL (xAh m) k = true → inL d k = true := by
  unfold covL
  have e : ((xBM (xAh m) d).length == 0) = true ↔ xBM (xAh m) d = [] := by simp
  rw [e]
  constructor
  · intro h k hk
    have := xBg (xAh m) d k
    rw [h, hk] at this
    cases hd : inL d k with
    | true => rfl
    | false => rw [hd] at this; simp [inL] at this
  · intro h
    refine Nrm.ext (xDa _ _) ⟨by simp, by simp⟩ fun k => ?_
    rw [xBg]
    cases hw : inL (xAh m) k with
    | false => simp [inL]
    | true => rw [h k hw]; simp [inL]
theorem xH0 (m : MsgL) (d : List SpanL) (k : Str) : inL (nxtL m d) k = ((inL d k || inL (xA5 m) k) && !inL (xCU m) k) := by
  unfold nxtL
  rw [xBg, xCO]
structure MsgW (m : MsgL) : Prop extends MsgOk m where
  w : ∃ k, inL (xAh m) k = true
theorem xMp (x : RawM) : MsgW (xAW x) := by
  refine ⟨xGJ x, ?_⟩
  have hk := (xGJ x).k
  unfold xAh
  split
  · exact ⟨(xAW x).key, by rw [xAR, xJj]; simp⟩
  · split
    · exact ⟨(xAW x).fr, by rw [xAR, xBJ]; simp [begins_iff]⟩
    · split
      · exact ⟨(xAW x).to, by rw [xAR, xBJ]; simp [begins_iff]⟩
      · have h := xIt x (by omega)
        exact ⟨(xAW x).sp.lo, by rw [xAR, xDJ h]; rfl⟩
theorem xJn {m : MsgL} (h : MsgW m) : covL m [] = false := by
  cases hc : covL m [] with
  | false => rfl
  | true =>
    obtain ⟨k, hk⟩ := h.w
    have := cov_iff.1 hc k hk
    simp [inL] at this
theorem xEd : ∀ (r : List MsgL) (d : List SpanL), (xBW r d).Sublist r
  | [], d => by simp [xBW]
  | m :: r, d => by
    rw [xBW]
    split
    · exact (xEd r d).cons m
    · exact (xEd r _).cons_cons m
theorem xGR : ∀ (r : List MsgL) (d : List SpanL), xBW (xBW r d) d = xBW r d
  | [], d => rfl
  | m :: r, d => by
    rw [xBW]
    cases h : covL m d with
    | true => simp only [if_true]; exact xGR r d
    | false =>
      simp only [Bool.false_eq_true, if_false]
      rw [xBW, h]
      simp only [Bool.false_eq_true, if_false]
      rw [xGR r]
theorem xHv (l : List MsgL) : xAT (xAT l) = xAT l := by
  unfold xAT xBm
  simp only [List.reverse_reverse, xIe]
  rw [xGR]
theorem xDr (l : List MsgL) : (xAT l).Sublist l := by
  have := (xEd l.reverse (xAM [])).reverse
  rw [List.reverse_reverse] at this
  exact this
theorem xCT {l : List MsgL} {m : MsgL} (h : MsgW m) : xAT (l ++ [m]) = (xBW l.reverse (nxtL m [])).reverse ++ [m] := by
  unfold xAT xBm
  simp only [List.reverse_append, List.reverse_cons, List.reverse_nil, List.nil_append, List.singleton_append, xIe]
  rw [xBW, xJn h]
  simp
theorem xKq : ∀ (r : List MsgL) (d : List SpanL), (∀ k, inL d k = true) → xBW r d = []
  | [], d, _ => rfl
  | m :: r, d, h => by
    rw [xBW, if_pos (cov_iff.2 fun k _ => h k)]
    exact xKq r d h
def xA9 : MsgL := ⟨3, [], [], ⟨[], []⟩, [], [], 0⟩
theorem xNC : MsgW xA9 := ⟨⟨by simp [xA9], by simp [xA9], by simp [xA9]⟩, [], by simp [xAh, xA9, inL, hasL, xAk]⟩
theorem xG3 (l : List MsgL) : xAT (l ++ [xA9]) = [xA9] := by
  rw [xCT xNC, xKq]
  · rfl
  · intro k
    rw [xH0]
    have h1 : inL (xA5 xA9) k = true := by simp [xA5, xAh, xA9, inL, hasL, xBx]
    have h2 : inL (xCU xA9) k = false := by simp [xCU, xA9, inL]
    rw [h1, h2]
    simp
theorem xIg {l : List MsgL} {m : MsgL} (h : MsgW m) (hk : m.kind = 1 ∨ m.kind = 2 ∨ m.kind = 3) : xAT (l ++ [m, m]) = xAT (l ++ [m]) := by
  have e : l ++ [m, m] = (l ++ [m]) ++ [m] := by simp
  rw [e, xCT h, xCT h]
  congr 1
  rw [List.reverse_append]
  simp only [List.reverse_cons, List.reverse_nil, List.nil_append, List.singleton_append]
  rw [xBW, if_pos]
  refine cov_iff.2 fun k hw => ?_
  rw [xH0]
  have h1 : xA5 m = xAh m := by unfold xA5; rw [if_neg (by omega)]
  have h2 : xCU m = [] := by unfold xCU; rw [if_neg (by omega), if_neg (by omega)]
  rw [h1, h2, hw]
  simp [inL]
def xA0 (s d : SpanL) : Bool := !Op.bytesLess s.lo d.lo && (d.hi == [] || (!(s.hi == []) && (Op.bytesLess s.hi d.hi || s.hi == d.hi)))
def xB1 (m d : MsgL) : Bool := (xAh m).all fun s => xA0 s d.sp
theorem xFN {s d : SpanL} (hs : xAI s = false) : xA0 s d = true ↔ ∀ k, hasL s k = true → hasL d k = true := by
  unfold xA0
  simp only [Bool.and_eq_true, Bool.not_eq_true', Bool.or_eq_true, beq_iff_eq, beq_eq_false_iff_ne, ne_eq]
  constructor
  · rintro ⟨h1, h2⟩ k hk
    obtain ⟨g1, g2⟩ := has_iff.1 hk
    have h3 : ble d.lo s.lo = true := by simp [ble, h1]
    refine has_iff.2 ⟨xA1 h3 g1, ?_⟩
    rcases h2 with h2 | ⟨h2, h4⟩
    · exact .inl h2
    · have g2 := g2.resolve_left h2
      rcases h4 with h4 | h4
      · exact .inr (xAq g2 h4)
      · rw [← h4]; exact .inr g2
  · intro h
    have h1 := (has_iff.1 (h _ (xDJ hs))).1
    refine ⟨by simpa [ble] using h1, ?_⟩
    by_cases hd : d.hi = []
    · exact .inl hd
    · refine .inr ?_
      have no : ∀ k, ble d.hi k = true → hasL d k = false := by
        intro k hk
        cases hh : hasL d k with
        | false => rfl
        | true =>
          have := (has_iff.1 hh).2.resolve_left hd
          simp [ble, this] at hk
      have hm : ble d.hi (maxL s.lo d.hi) = true := by
        have := (xGF (a := s.lo) (b := d.hi) (k := maxL s.lo d.hi)).1 (xDy _)
        exact this.2
      have hm1 : ble s.lo (maxL s.lo d.hi) = true := by
        have := (xGF (a := s.lo) (b := d.hi) (k := maxL s.lo d.hi)).1 (xDy _)
        exact this.1
      by_cases hsh : s.hi = []
      · have := h (maxL s.lo d.hi) (has_iff.2 ⟨hm1, .inl hsh⟩)
        rw [no _ hm] at this
        cases this
      · refine ⟨hsh, ?_⟩
        rcases xBw s.hi d.hi with h4 | h4 | h4
        · exact .inl h4
        · exact .inr h4
        · have h5 : Op.bytesLess (maxL s.lo d.hi) s.hi = true := by
            rcases xHR s.lo d.hi with e | e <;> rw [e]
            · exact xBB hs hsh
            · exact h4
          have := h (maxL s.lo d.hi) (has_iff.2 ⟨hm1, .inr h5⟩)
          rw [no _ hm] at this
          cases this
theorem xFh (x : RawM) : ∀ s ∈ xAh (xAW x), xAI s = false := by
  intro s hs
  have hk := (xGJ x).k
  unfold xAh at hs
  split at hs
  · rw [List.mem_singleton.1 hs]; exact xEW _
  · split at hs
    · simp only [List.mem_cons, List.not_mem_nil, or_false] at hs
      rcases hs with rfl | rfl <;> exact xCD _
    · split at hs
      · rw [List.mem_singleton.1 hs]; exact xCD _
      · rw [List.mem_singleton.1 hs]; exact xIt x (by omega)
theorem xJ1 (x y : RawM) (hy : (xAW y).kind = 3) : ((xAT [xAW x, xAW y]).length == 1) = xB1 (xAW x) (xAW y) := by
  have e : ([xAW x, xAW y] : List MsgL) = [xAW x] ++ [xAW y] := rfl
  rw [e, xCT (xMp y)]
  have hw : xAh (xAW y) = [(xAW y).sp] := by unfold xAh; rw [if_neg (by omega), if_neg (by omega), if_neg (by omega)]
  have hkl : xA5 (xAW y) = [(xAW y).sp] := by unfold xA5; rw [if_neg (by omega), hw]
  have hrd : xCU (xAW y) = [] := by unfold xCU; rw [if_neg (by omega), if_neg (by omega)]
  have hd : ∀ k, inL (nxtL (xAW y) []) k = hasL (xAW y).sp k := by
    intro k
    rw [xH0, hkl, hrd]
    simp [inL]
  have hc : covL (xAW x) (nxtL (xAW y) []) = xB1 (xAW x) (xAW y) := by
    rw [Bool.eq_iff_iff, cov_iff]
    unfold xB1
    rw [List.all_eq_true]
    constructor
    · intro h s hs
      refine (xFN (xFh x s hs)).2 fun k hk => ?_
      rw [← hd]
      exact h k (inL_iff.2 ⟨s, hs, hk⟩)
    · intro h k hk
      obtain ⟨s, hs, hk⟩ := inL_iff.1 hk
      rw [hd]
      exact (xFN (xFh x s hs)).1 (h s hs) k hk
  simp only [List.reverse_cons, List.reverse_nil, List.nil_append]
  rw [xBW, hc]
  cases xB1 (xAW x) (xAW y) <;> simp [xBW]
end Go.Pu
