/- The order of texts, and sorted tables: plain Lean. -/
import GoSem.Op.String
set_option linter.unusedVariables false
namespace Go.Pu

abbrev Str := List UInt8

theorem blt_nil (a : Str) : Op.bytesLess a [] = false := by cases a <;> rfl
theorem blt_irrefl : ∀ a : Str, Op.bytesLess a a = false
  | [] => rfl
  | x :: a => by
    simp only [Op.bytesLess, Op.bytesLess, Bool.or_eq_false_iff, decide_eq_false_iff_not, Bool.and_eq_false_iff]
    exact ⟨UInt8.lt_irrefl x, .inr (blt_irrefl a)⟩
theorem blt_cons {x y : UInt8} {a b : Str} : Op.bytesLess (x :: a) (y :: b) = true ↔ x < y ∨ (x = y ∧ Op.bytesLess a b = true) := by
  simp [Op.bytesLess, Op.bytesLess]
theorem blt_trans : ∀ {a b c : Str}, Op.bytesLess a b = true → Op.bytesLess b c = true → Op.bytesLess a c = true
  | _, _, [], _, h => by rw [blt_nil] at h; cases h
  | _, [], _ :: _, h, _ => by rw [blt_nil] at h; cases h
  | [], _ :: _, _ :: _, _, _ => rfl
  | x :: a, y :: b, z :: c, h1, h2 => by
    rw [blt_cons] at h1 h2 ⊢
    rcases h1 with h1 | ⟨rfl, h1⟩
    · rcases h2 with h2 | ⟨rfl, h2⟩
      · exact .inl (UInt8.lt_trans h1 h2)
      · exact .inl h1
    · rcases h2 with h2 | ⟨rfl, h2⟩
      · exact .inl h2
      · exact .inr ⟨rfl, blt_trans h1 h2⟩
theorem blt_tri : ∀ (a b : Str), Op.bytesLess a b = true ∨ a = b ∨ Op.bytesLess b a = true
  | [], [] => .inr (.inl rfl)
  | [], _ :: _ => .inl rfl
  | _ :: _, [] => .inr (.inr rfl)
  | x :: a, y :: b => by
    rw [blt_cons, blt_cons]
    by_cases h : x < y
    · exact .inl (.inl h)
    · by_cases h' : y < x
      · exact .inr (.inr (.inl h'))
      · have e : x = y := UInt8.le_antisymm (UInt8.not_lt.1 h') (UInt8.not_lt.1 h)
        subst e
        rcases blt_tri a b with h1 | h1 | h1
        · exact .inl (.inr ⟨rfl, h1⟩)
        · exact .inr (.inl (by rw [h1]))
        · exact .inr (.inr (.inr ⟨rfl, h1⟩))
theorem blt_asymm {a b : Str} (h : Op.bytesLess a b = true) : Op.bytesLess b a = false := by
  cases h' : Op.bytesLess b a with
  | false => rfl
  | true => have := blt_trans h h'; rw [blt_irrefl] at this; cases this
theorem blt_ne {a b : Str} (h : Op.bytesLess a b = true) : a ≠ b := by
  intro e; subst e; rw [blt_irrefl] at h; cases h
theorem blt_of_not {a b : Str} (h : Op.bytesLess a b = false) (hne : a ≠ b) : Op.bytesLess b a = true := by
  rcases blt_tri a b with h1 | h1 | h1
  · rw [h] at h1; cases h1
  · exact absurd h1 hne
  · exact h1
/-- a ≤ b -/
def ble (a b : Str) : Bool := !Op.bytesLess b a
theorem ble_iff {a b : Str} : ble a b = true ↔ Op.bytesLess a b = true ∨ a = b := by
  unfold ble
  constructor
  · intro h
    have h : Op.bytesLess b a = false := by simpa using h
    rcases blt_tri a b with h1 | h1 | h1
    · exact .inl h1
    · exact .inr h1
    · rw [h] at h1; cases h1
  · rintro (h | rfl)
    · simp [blt_asymm h]
    · simp [blt_irrefl]
theorem ble_refl (a : Str) : ble a a = true := ble_iff.2 (.inr rfl)
theorem ble_trans {a b c : Str} (h1 : ble a b = true) (h2 : ble b c = true) : ble a c = true := by
  rw [ble_iff] at *
  rcases h1 with h1 | rfl
  · rcases h2 with h2 | rfl
    · exact .inl (blt_trans h1 h2)
    · exact .inl h1
  · exact h2
theorem blt_of_ble_of_blt {a b c : Str} (h1 : ble a b = true) (h2 : Op.bytesLess b c = true) : Op.bytesLess a c = true := by
  rw [ble_iff] at h1
  rcases h1 with h1 | rfl
  · exact blt_trans h1 h2
  · exact h2
theorem blt_of_blt_of_ble {a b c : Str} (h1 : Op.bytesLess a b = true) (h2 : ble b c = true) : Op.bytesLess a c = true := by
  rw [ble_iff] at h2
  rcases h2 with h2 | rfl
  · exact blt_trans h1 h2
  · exact h1
theorem blt_nil_left {a : Str} : Op.bytesLess [] a = true ↔ a ≠ [] := by cases a <;> simp [Op.bytesLess, Op.bytesLess]
theorem ble_nil (a : Str) : ble [] a = true := by simp [ble, blt_nil]

structure PairL where
  key : Str
  val : Str
  stamp : Int
  deriving DecidableEq

/-- A table. -/
def Srt (t : List PairL) : Prop := t.Pairwise fun a b => Op.bytesLess a.key b.key = true
def sortedL : List PairL → Bool
  | a :: b :: r => Op.bytesLess a.key b.key && sortedL (b :: r)
  | _ => true
theorem sortedL_iff : ∀ {t : List PairL}, sortedL t = true ↔ Srt t
  | [] => by simp [sortedL, Srt]
  | [a] => by simp [sortedL, Srt]
  | a :: b :: r => by
    rw [sortedL, Bool.and_eq_true, sortedL_iff (t := b :: r)]
    unfold Srt
    rw [List.pairwise_cons (a := a)]
    constructor
    · rintro ⟨h1, h2⟩
      refine ⟨fun c hc => ?_, h2⟩
      rcases List.mem_cons.1 hc with rfl | hc
      · exact h1
      · exact blt_trans h1 ((List.pairwise_cons.1 h2).1 c hc)
    · rintro ⟨h1, h2⟩
      exact ⟨h1 b (by simp), h2⟩

def putStep (p : PairL) (s : List PairL × Bool) (x : PairL) : List PairL × Bool :=
  let s1 := if (!s.2 && !(Op.bytesLess x.key p.key)) = true then (s.1 ++ [p], true) else s
  (if (!(x.key == p.key)) = true then s1.1 ++ [x] else s1.1, s1.2)
def putL (t : List PairL) (p : PairL) : List PairL :=
  let s := t.foldl (putStep p) ([], false)
  if s.2 = true then s.1 else s.1 ++ [p]
/-- The same, told from the front. -/
def insL (p : PairL) : List PairL → List PairL
  | [] => [p]
  | x :: r => if Op.bytesLess x.key p.key = true then x :: insL p r else p :: (x :: r).filter fun y => !(y.key == p.key)
theorem putT (p : PairL) : ∀ (l o : List PairL), l.foldl (putStep p) (o, true) = (o ++ l.filter (fun y => !(y.key == p.key)), true)
  | [], o => by simp
  | x :: l, o => by
    rw [List.foldl_cons]
    have : putStep p (o, true) x = (o ++ [x].filter (fun y => !(y.key == p.key)), true) := by
      simp only [putStep, Bool.not_true, Bool.false_and, Bool.false_eq_true, if_false, List.filter_cons, List.filter_nil]
      split <;> simp
    rw [this, putT p l, List.append_assoc, ← List.filter_append]
    rfl
theorem putF (p : PairL) : ∀ (l o : List PairL), (if (l.foldl (putStep p) (o, false)).2 = true then (l.foldl (putStep p) (o, false)).1 else (l.foldl (putStep p) (o, false)).1 ++ [p]) = o ++ insL p l
  | [], o => by simp [insL]
  | x :: l, o => by
    rw [List.foldl_cons, insL]
    by_cases h : Op.bytesLess x.key p.key = true
    · have hne : (x.key == p.key) = false := by simpa using blt_ne h
      have : putStep p (o, false) x = (o ++ [x], false) := by
        simp [putStep, h, blt_ne h]
      rw [this, putF p l, if_pos h, List.append_assoc]
      rfl
    · have h' : Op.bytesLess x.key p.key = false := by simpa using h
      have : putStep p (o, false) x = (o ++ [p] ++ [x].filter (fun y => !(y.key == p.key)), true) := by
        simp only [putStep, Bool.not_false, h', Bool.and_self, if_true, List.filter_cons, List.filter_nil]
        split <;> simp
      rw [this, putT, if_neg h]
      simp only [if_true]
      rw [List.append_assoc, List.append_assoc, ← List.filter_append]
      rfl
theorem putL_eq (t : List PairL) (p : PairL) : putL t p = insL p t := by
  have := putF p t []
  simpa [putL] using this
theorem insL_mem {p y : PairL} : ∀ {t : List PairL}, y ∈ insL p t → y = p ∨ y ∈ t
  | [], h => by simp [insL] at h; exact .inl h
  | x :: r, h => by
    rw [insL] at h
    split at h
    · rcases List.mem_cons.1 h with rfl | h
      · exact .inr (by simp)
      · rcases insL_mem h with h | h
        · exact .inl h
        · exact .inr (List.mem_cons_of_mem _ h)
    · rcases List.mem_cons.1 h with rfl | h
      · exact .inl rfl
      · exact .inr (List.mem_filter.1 h).1
theorem insL_srt {p : PairL} : ∀ {t : List PairL}, Srt t → Srt (insL p t)
  | [], _ => by simp [insL, Srt]
  | x :: r, h => by
    obtain ⟨h1, h2⟩ := List.pairwise_cons.1 h
    rw [insL]
    split
    · rename_i hx
      refine List.pairwise_cons.2 ⟨fun y hy => ?_, insL_srt h2⟩
      rcases insL_mem hy with rfl | hy
      · exact hx
      · exact h1 y hy
    · rename_i hx
      have hx : Op.bytesLess x.key p.key = false := by simpa using hx
      refine List.pairwise_cons.2 ⟨fun y hy => ?_, h.filter _⟩
      obtain ⟨hy1, hy2⟩ := List.mem_filter.1 hy
      have hne : y.key ≠ p.key := by simpa using hy2
      rcases List.mem_cons.1 hy1 with rfl | hy1
      · exact blt_of_not hx hne
      · have := h1 y hy1
        rcases blt_tri p.key y.key with h3 | h3 | h3
        · exact h3
        · exact absurd h3.symm hne
        · have := blt_trans this h3
          rw [hx] at this; cases this
theorem insL_len {p : PairL} : ∀ t : List PairL, (insL p t).length ≤ t.length + 1
  | [] => by simp [insL]
  | x :: r => by
    rw [insL]
    split
    · have := insL_len (p := p) r; simp; omega
    · simp only [List.length_cons]
      have := List.length_filter_le (fun y : PairL => !(y.key == p.key)) (x :: r)
      simp at this ⊢
      omega
theorem putL_len (t : List PairL) (p : PairL) : (putL t p).length ≤ t.length + 1 := by rw [putL_eq]; exact insL_len t
theorem putL_srt {t : List PairL} {p : PairL} (h : Srt t) : Srt (putL t p) := by rw [putL_eq]; exact insL_srt h
theorem drop_get {α : Type} {l : List α} {i : Nat} {x : α} (h : l[i]? = some x) : l.drop i = x :: l.drop (i + 1) := by
  have hl := (List.getElem?_eq_some_iff.1 h).1
  rw [List.drop_eq_getElem_cons hl]
  congr 1
  exact (List.getElem?_eq_some_iff.1 h).2
theorem sortedL_drop {xs : List PairL} {i : Nat} {a b : PairL} (ha : xs[i]? = some a) (hb : xs[i + 1]? = some b) : sortedL (xs.drop i) = (Op.bytesLess a.key b.key && sortedL (xs.drop (i + 1))) := by
  rw [drop_get ha, drop_get hb, sortedL]
end Go.Pu
/- Spans of keys: plain Lean. -/
set_option linter.unusedVariables false
namespace Go.Pu

structure SpanL where
  lo : Str
  hi : Str
  deriving DecidableEq

def hasL (s : SpanL) (k : Str) : Bool := !(Op.bytesLess k s.lo) && (s.hi == [] || Op.bytesLess k s.hi)
def emptyL (s : SpanL) : Bool := !(s.hi == []) && (Op.bytesLess s.hi s.lo || s.hi == s.lo)
def cmpStr (a b : Str) : Int := if Op.bytesLess a b = true then -1 else if a = b then 0 else 1
def cmpEnd (e f : Str) : Int := if e = f then 0 else if e = [] then 1 else if f = [] then -1 else cmpStr e f
def leastL (a b : Str) : Str := if cmpEnd b a < 0 then b else a
def maxL (a b : Str) : Str := if Op.bytesLess a b = true then b else a
def noneL : SpanL := ⟨[97], [97]⟩
def meetL (a b : SpanL) : SpanL := if emptyL ⟨maxL a.lo b.lo, leastL a.hi b.hi⟩ = true then noneL else ⟨maxL a.lo b.lo, leastL a.hi b.hi⟩
def coversL (a b : SpanL) : Bool := emptyL b || (hasL a b.lo && decide (cmpEnd a.hi b.hi ≥ 0))
def lessL (a b : Str) : Bool := !(a == []) && (b == [] || Op.bytesLess a b)
def rmeetL (a b : SpanL) : SpanL :=
  let s : SpanL := ⟨maxL a.lo b.lo, if lessL b.hi a.hi = true then b.hi else a.hi⟩
  if emptyL s = true then noneL else s
def rcoversL (a b : SpanL) : Bool := emptyL b || (!emptyL a && (Op.bytesLess a.lo b.lo || a.lo == b.lo) && !lessL a.hi b.hi)
def beginsL (k p : Str) : Bool := decide (k.length ≥ p.length) && (k.take p.length == p)
def movedL (k f t : Str) : Str × Bool := if beginsL k f = true then (t ++ k.drop f.length, true) else ([], false)
def oneL (k : Str) : SpanL := ⟨k, k ++ [0]⟩

/-- Without the bytes 255 at the end. -/
def stripN (p : Str) : Nat → Nat
  | 0 => 0
  | n + 1 => if p[n]? = some 255 then stripN p n else n + 1
def upL (p : Str) : Str :=
  match stripN p p.length with
  | 0 => []
  | n + 1 => p.take n ++ [p.getD n 0 + 1]
def prefixL (p : Str) : SpanL := ⟨p, upL p⟩

theorem stripN_le (p : Str) : ∀ n, stripN p n ≤ n
  | 0 => Nat.le_refl _
  | n + 1 => by
    rw [stripN]
    split
    · exact Nat.le_succ_of_le (stripN_le p n)
    · exact Nat.le_refl _

/-! ### Laws -/
theorem has_iff {s : SpanL} {k : Str} : hasL s k = true ↔ ble s.lo k = true ∧ (s.hi = [] ∨ Op.bytesLess k s.hi = true) := by
  simp [hasL, ble]
theorem empty_iff {s : SpanL} : emptyL s = true ↔ s.hi ≠ [] ∧ ble s.hi s.lo = true := by
  simp only [emptyL, Bool.and_eq_true, Bool.not_eq_true', Bool.or_eq_true, beq_iff_eq, beq_eq_false_iff_ne, ble_iff]
theorem not_has_of_empty {s : SpanL} (h : emptyL s = true) (k : Str) : hasL s k = false := by
  cases hk : hasL s k with
  | false => rfl
  | true =>
    obtain ⟨h1, h2⟩ := empty_iff.1 h
    obtain ⟨h3, h4⟩ := has_iff.1 hk
    rcases h4 with h4 | h4
    · exact absurd h4 h1
    · have := blt_of_blt_of_ble h4 (ble_trans h2 h3)
      rw [blt_irrefl] at this; cases this
theorem has_lo {s : SpanL} (h : emptyL s = false) : hasL s s.lo = true := by
  refine has_iff.2 ⟨ble_refl _, ?_⟩
  by_cases he : s.hi = []
  · exact .inl he
  · right
    cases hb : Op.bytesLess s.lo s.hi with
    | true => rfl
    | false =>
      have : emptyL s = true := empty_iff.2 ⟨he, by simp [ble, hb]⟩
      rw [h] at this; cases this

/-- the ends' order: [] is the greatest. -/
def elt (a b : Str) : Prop := a ≠ [] ∧ (b = [] ∨ Op.bytesLess a b = true)
theorem less_iff {a b : Str} : lessL a b = true ↔ elt a b := by simp [lessL, elt]
theorem cmpStr_lt {a b : Str} : cmpStr a b < 0 ↔ Op.bytesLess a b = true := by
  unfold cmpStr
  split
  · rename_i h; simp [h]
  · rename_i h
    split <;> simp [h]
theorem cmpStr_eq {a b : Str} : cmpStr a b = 0 ↔ a = b := by
  unfold cmpStr
  split
  · rename_i h
    constructor
    · intro h'; simp at h'
    · intro e; subst e; rw [blt_irrefl] at h; cases h
  · split
    · rename_i h; simp [h]
    · rename_i h; simp [h]
theorem cmpEnd_lt {a b : Str} : cmpEnd a b < 0 ↔ elt a b := by
  unfold cmpEnd elt
  split
  · rename_i h
    subst h
    simp
    intro h; exact ⟨h, blt_irrefl a⟩
  · rename_i h
    split
    · rename_i h1; simp [h1]
    · rename_i h1
      split
      · rename_i h2; simp [h1, h2]
      · rename_i h2; simp [h1, h2, cmpStr_lt]
theorem cmpEnd_eq {a b : Str} : cmpEnd a b = 0 ↔ a = b := by
  unfold cmpEnd
  split
  · rename_i h; simp [h]
  · rename_i h
    split
    · simp [h]
    · split
      · simp [h]
      · rw [cmpStr_eq]
theorem leastL_eq (a b : Str) : leastL a b = if lessL b a = true then b else a := by
  unfold leastL
  by_cases h : elt b a
  · rw [if_pos (cmpEnd_lt.2 h), if_pos (less_iff.2 h)]
  · rw [if_neg (fun h' => h (cmpEnd_lt.1 h')), if_neg (fun h' => h (less_iff.1 h'))]
theorem meet_ref (a b : SpanL) : meetL a b = rmeetL a b := by
  unfold meetL rmeetL
  rw [leastL_eq]
theorem elt_tri (a b : Str) : elt a b ∨ a = b ∨ elt b a := by
  unfold elt
  by_cases ha : a = []
  · by_cases hb : b = []
    · exact .inr (.inl (ha.trans hb.symm))
    · exact .inr (.inr ⟨hb, .inl ha⟩)
  · by_cases hb : b = []
    · exact .inl ⟨ha, .inl hb⟩
    · rcases blt_tri a b with h | h | h
      · exact .inl ⟨ha, .inr h⟩
      · exact .inr (.inl h)
      · exact .inr (.inr ⟨hb, .inr h⟩)
theorem elt_asymm {a b : Str} (h : elt a b) : ¬ elt b a := by
  rintro ⟨h1, h2⟩
  obtain ⟨h3, h4⟩ := h
  rcases h4 with h4 | h4
  · exact h1 h4
  · rcases h2 with h2 | h2
    · exact h3 h2
    · rw [blt_asymm h4] at h2; cases h2
theorem not_elt_self {a : Str} : ¬ elt a a := fun h => elt_asymm h h

theorem covers_ref (a b : SpanL) : coversL a b = rcoversL a b := by
  unfold coversL rcoversL
  cases hb : emptyL b with
  | true => rfl
  | false =>
    simp only [Bool.false_or]
    have key : decide (cmpEnd a.hi b.hi ≥ 0) = !lessL a.hi b.hi := by
      rw [Bool.eq_iff_iff]
      simp only [decide_eq_true_eq, Bool.not_eq_true']
      constructor
      · intro h
        cases hl : lessL a.hi b.hi with
        | false => rfl
        | true => have := cmpEnd_lt.2 (less_iff.1 hl); omega
      · intro h
        have : ¬ cmpEnd a.hi b.hi < 0 := fun h' => by rw [less_iff.2 (cmpEnd_lt.1 h')] at h; cases h
        omega
    rw [key]
    cases hl : lessL a.hi b.hi with
    | true => simp
    | false =>
      simp only [Bool.not_false, Bool.and_true]
      rw [Bool.eq_iff_iff, has_iff, Bool.and_eq_true, Bool.not_eq_true', Bool.or_eq_true, beq_iff_eq, ← ble_iff]
      constructor
      · rintro ⟨h1, h2⟩
        refine ⟨?_, h1⟩
        cases he : emptyL a with
        | false => rfl
        | true =>
          have := not_has_of_empty he b.lo
          rw [has_iff.2 ⟨h1, h2⟩] at this; cases this
      · rintro ⟨h1, h2⟩
        refine ⟨h2, ?_⟩
        by_cases ha : a.hi = []
        · exact .inl ha
        · right
          -- b.lo < b.hi ≤ a.hi
          have hbl := (has_iff.1 (has_lo hb)).2
          have hn : ¬ elt a.hi b.hi := fun h => by rw [less_iff.2 h] at hl; cases hl
          rcases hbl with hbl | hbl
          · exact absurd ⟨ha, .inl hbl⟩ hn
          · rcases blt_tri a.hi b.hi with h | h | h
            · exact absurd ⟨ha, .inr h⟩ hn
            · rw [h]; exact hbl
            · exact blt_trans hbl h
theorem max_ble {a b k : Str} : ble (maxL a b) k = true ↔ ble a k = true ∧ ble b k = true := by
  unfold maxL
  split
  · rename_i h
    exact ⟨fun h' => ⟨ble_trans (ble_iff.2 (.inl h)) h', h'⟩, fun h' => h'.2⟩
  · rename_i h
    have h : ble b a = true := by simp [ble, h]
    exact ⟨fun h' => ⟨h', ble_trans h h'⟩, fun h' => h'.1⟩
theorem least_has {a b k : Str} : (leastL a b = [] ∨ Op.bytesLess k (leastL a b) = true) ↔ (a = [] ∨ Op.bytesLess k a = true) ∧ (b = [] ∨ Op.bytesLess k b = true) := by
  rw [leastL_eq]
  split
  · rename_i h
    obtain ⟨h1, h2⟩ := less_iff.1 h
    constructor
    · rintro (h3 | h3)
      · exact absurd h3 h1
      · refine ⟨?_, .inr h3⟩
        rcases h2 with h2 | h2
        · exact .inl h2
        · exact .inr (blt_trans h3 h2)
    · exact fun h => h.2
  · rename_i h
    have h : ¬ elt b a := fun h' => h (less_iff.2 h')
    constructor
    · intro h3
      refine ⟨h3, ?_⟩
      by_cases hb : b = []
      · exact .inl hb
      · right
        rcases h3 with h3 | h3
        · exact absurd ⟨hb, .inl h3⟩ h
        · rcases blt_tri b a with h4 | h4 | h4
          · exact absurd ⟨hb, .inr h4⟩ h
          · rw [h4]; exact h3
          · exact blt_trans h3 h4
    · exact fun h => h.1
theorem meet_has (a b : SpanL) (k : Str) : hasL (meetL a b) k = (hasL a k && hasL b k) := by
  have key : hasL ⟨maxL a.lo b.lo, leastL a.hi b.hi⟩ k = (hasL a k && hasL b k) := by
    rw [Bool.eq_iff_iff, Bool.and_eq_true, has_iff, has_iff, has_iff]
    simp only
    rw [max_ble, least_has]
    constructor
    · rintro ⟨⟨h1, h2⟩, h3, h4⟩; exact ⟨⟨h1, h3⟩, h2, h4⟩
    · rintro ⟨⟨h1, h2⟩, h3, h4⟩; exact ⟨⟨h1, h3⟩, h2, h4⟩
  unfold meetL
  split
  · rename_i h
    rw [← key, not_has_of_empty h]
    exact not_has_of_empty (s := noneL) (by decide) k
  · exact key
theorem max_comm (a b : Str) : maxL a b = maxL b a := by
  unfold maxL
  rcases blt_tri a b with h | h | h
  · rw [if_pos h, if_neg (by simp [blt_asymm h])]
  · subst h; rfl
  · rw [if_neg (by simp [blt_asymm h]), if_pos h]
theorem least_comm (a b : Str) : leastL a b = leastL b a := by
  rw [leastL_eq, leastL_eq]
  rcases elt_tri a b with h | h | h
  · rw [if_neg (fun h' => elt_asymm h (less_iff.1 h')), if_pos (less_iff.2 h)]
  · subst h; rfl
  · rw [if_pos (less_iff.2 h), if_neg (fun h' => elt_asymm h (less_iff.1 h'))]
theorem meet_comm (a b : SpanL) : meetL a b = meetL b a := by
  unfold meetL
  rw [max_comm a.lo, least_comm a.hi]
theorem meet_empty {a b : SpanL} (h : emptyL (meetL a b) = true) : meetL a b = noneL := by
  unfold meetL at h ⊢
  split
  · rfl
  · rename_i h1
    rw [if_neg h1] at h
    exact absurd h h1
theorem one_has (k x : Str) : hasL (oneL k) x = (x == k) := by
  rw [Bool.eq_iff_iff, has_iff, beq_iff_eq]
  simp only [oneL]
  constructor
  · rintro ⟨h1, h2 | h2⟩
    · simp at h2
    · -- k ≤ x < k ++ [0]
      have key : ∀ k x : Str, ble k x = true → Op.bytesLess x (k ++ [0]) = true → x = k := by
        intro k
        induction k with
        | nil =>
          intro x h1 h2
          cases x with
          | nil => rfl
          | cons a x =>
            rw [List.nil_append, blt_cons] at h2
            rcases h2 with h2 | ⟨_, h2⟩
            · exact absurd h2 (UInt8.not_lt.2 (UInt8.le_iff_toNat_le.2 (by simp)))
            · rw [blt_nil] at h2; cases h2
        | cons b k ih =>
          intro x h1 h2
          cases x with
          | nil =>
            rw [ble_iff] at h1
            rcases h1 with h1 | h1
            · rw [blt_nil] at h1; cases h1
            · cases h1
          | cons a x =>
            rw [List.cons_append, blt_cons] at h2
            have h1' : ¬ (a < b ∨ a = b ∧ Op.bytesLess x k = true) := by
              intro h
              have h3 := blt_cons.2 h
              have h4 : Op.bytesLess (a :: x) (b :: k) = false := by simpa [ble] using h1
              rw [h4] at h3; cases h3
            rcases h2 with h2 | ⟨rfl, h2⟩
            · exact absurd (.inl h2) h1'
            · have : ble k x = true := by
                simp only [ble, Bool.not_eq_true']
                cases hx : Op.bytesLess x k with
                | false => rfl
                | true => exact absurd (.inr ⟨rfl, hx⟩) h1'
              rw [ih x this h2]
      exact key k x h1 h2
  · rintro rfl
    refine ⟨ble_refl _, .inr ?_⟩
    induction x with
    | nil => rfl
    | cons a x ih => exact blt_cons.2 (.inr ⟨rfl, ih⟩)
end Go.Pu
/- Prefixes of keys, keys that are moved: plain Lean. -/
set_option linter.unusedVariables false
namespace Go.Pu

theorem begins_iff {k p : Str} : beginsL k p = true ↔ ∃ r, k = p ++ r := by
  simp only [beginsL, Bool.and_eq_true, decide_eq_true_eq, beq_iff_eq]
  constructor
  · rintro ⟨h1, h2⟩
    refine ⟨k.drop p.length, ?_⟩
    have := List.take_append_drop p.length k
    rw [h2] at this
    exact this.symm
  · rintro ⟨r, rfl⟩
    simp
theorem blt_app {p a b : Str} : Op.bytesLess (p ++ a) (p ++ b) = Op.bytesLess a b := by
  induction p with
  | nil => rfl
  | cons x p ih =>
    rw [Bool.eq_iff_iff, List.cons_append, List.cons_append, blt_cons, ih]
    simp [UInt8.lt_irrefl]
theorem ble_app {p a b : Str} : ble (p ++ a) (p ++ b) = ble a b := by simp [ble, blt_app]
theorem ble_self_app (p r : Str) : ble p (p ++ r) = true := by
  have := ble_app (p := p) (a := []) (b := r)
  rw [List.append_nil] at this
  rw [this]; exact ble_nil r

/-- What stripN tells. -/
theorem stripN_spec (p : Str) : ∀ n, n ≤ p.length → (∀ i, stripN p n ≤ i → i < n → p[i]? = some 255) ∧ (∀ m, stripN p n = m + 1 → p[m]? ≠ some 255)
  | 0, _ => ⟨fun i _ h => by omega, fun m h => by cases h⟩
  | n + 1, hn => by
    obtain ⟨h1, h2⟩ := stripN_spec p n (by omega)
    by_cases h : p[n]? = some 255
    · have e : stripN p (n + 1) = stripN p n := by rw [stripN, if_pos h]
      rw [e]
      refine ⟨fun i hi hl => ?_, h2⟩
      by_cases he : i = n
      · subst he; exact h
      · exact h1 i hi (by omega)
    · have e : stripN p (n + 1) = n + 1 := by rw [stripN, if_neg h]
      rw [e]
      refine ⟨fun i hi hl => by omega, fun m hm => ?_⟩
      have : m = n := by omega
      subst this; exact h

theorem lt_up {c : UInt8} (h : c ≠ 255) : c < c + 1 := by
  rw [UInt8.lt_iff_toNat_lt]
  have h1 : c.toNat ≠ 255 := fun e => h (UInt8.toNat_inj.1 e)
  have h2 : c.toNat < 256 := c.toNat_lt
  rw [UInt8.toNat_add]
  simp
  omega
theorem up_le {c x : UInt8} (h : c ≠ 255) (hx : x < c + 1) : x ≤ c := by
  rw [UInt8.lt_iff_toNat_lt, UInt8.toNat_add] at hx
  rw [UInt8.le_iff_toNat_le]
  have h1 : c.toNat ≠ 255 := fun e => h (UInt8.toNat_inj.1 e)
  have h2 : c.toNat < 256 := c.toNat_lt
  simp at hx
  omega
theorem le_255 (x : UInt8) : x ≤ 255 := by
  rw [UInt8.le_iff_toNat_le]
  have := x.toNat_lt
  show x.toNat ≤ 255
  omega

/-- A key that is not less than p and has p's end below it begins with p. -/
theorem begins_255 : ∀ (p k : Str), (∀ c ∈ p, c = 255) → ble p k = true → beginsL k p = true
  | [], k, _, _ => begins_iff.2 ⟨k, rfl⟩
  | c :: p, k, h, hk => by
    cases k with
    | nil =>
      rw [ble_iff] at hk
      rcases hk with hk | hk
      · rw [blt_nil] at hk; cases hk
      · cases hk
    | cons x k =>
      have hc : c = 255 := h c (by simp)
      subst hc
      have hx : ¬ (x < 255 ∨ x = 255 ∧ Op.bytesLess k p = true) := by
        intro h'
        have := blt_cons.2 h'
        simp [ble, this] at hk
      have hxe : x = 255 := UInt8.le_antisymm (le_255 x) (UInt8.not_lt.1 (fun h' => hx (.inl h')))
      subst hxe
      have : ble p k = true := by
        simp only [ble, Bool.not_eq_true']
        cases hb : Op.bytesLess k p with
        | false => rfl
        | true => exact absurd (.inr ⟨rfl, hb⟩) hx
      obtain ⟨r, rfl⟩ := begins_iff.1 (begins_255 p k (fun c hc => h c (by simp [hc])) this)
      exact begins_iff.2 ⟨r, rfl⟩

theorem begins_up {a : Str} {c : UInt8} {q : Str} (hc : c ≠ 255) (hq : ∀ x ∈ q, x = 255) (k : Str) : (ble (a ++ c :: q) k = true ∧ Op.bytesLess k (a ++ [c + 1]) = true) ↔ beginsL k (a ++ c :: q) = true := by
  constructor
  · rintro ⟨h1, h2⟩
    -- k begins with a
    have ha : ∀ (a k : Str), ble (a ++ c :: q) k = true → Op.bytesLess k (a ++ [c + 1]) = true → ∃ r, k = a ++ r := by
      intro a
      induction a with
      | nil => intro k _ _; exact ⟨k, rfl⟩
      | cons x a ih =>
        intro k h1 h2
        cases k with
        | nil =>
          rw [ble_iff] at h1
          rcases h1 with h1 | h1
          · rw [blt_nil] at h1; cases h1
          · cases h1
        | cons y k =>
          rw [List.cons_append, blt_cons] at h2
          have h1' : ¬ (y < x ∨ y = x ∧ Op.bytesLess k (a ++ c :: q) = true) := by
            intro h'
            have := blt_cons.2 h'
            rw [List.cons_append] at h1
            simp [ble, this] at h1
          have hxy : y = x := by
            rcases h2 with h2 | ⟨h2, _⟩
            · exact absurd (.inl h2) h1'
            · exact h2
          subst hxy
          have h2' : Op.bytesLess k (a ++ [c + 1]) = true := by
            rcases h2 with h2 | ⟨_, h2⟩
            · exact absurd h2 (UInt8.lt_irrefl _)
            · exact h2
          have : ble (a ++ c :: q) k = true := by
            simp only [ble, Bool.not_eq_true']
            cases hb : Op.bytesLess k (a ++ c :: q) with
            | false => rfl
            | true => exact absurd (.inr ⟨rfl, hb⟩) h1'
          obtain ⟨r, rfl⟩ := ih k this h2'
          exact ⟨r, rfl⟩
    obtain ⟨r, rfl⟩ := ha a k h1 h2
    rw [ble_app] at h1
    rw [blt_app] at h2
    cases r with
    | nil =>
      rw [ble_iff] at h1
      rcases h1 with h1 | h1
      · rw [blt_nil] at h1; cases h1
      · cases h1
    | cons y r =>
      rw [blt_cons] at h2
      have hyc : y ≤ c := by
        rcases h2 with h2 | ⟨_, h2⟩
        · exact up_le hc h2
        · rw [blt_nil] at h2; cases h2
      have h1' : ¬ (y < c ∨ y = c ∧ Op.bytesLess r q = true) := by
        intro h'
        have := blt_cons.2 h'
        simp [ble, this] at h1
      have hye : y = c := UInt8.le_antisymm hyc (UInt8.not_lt.1 (fun h' => h1' (.inl h')))
      subst hye
      have : ble q r = true := by
        simp only [ble, Bool.not_eq_true']
        cases hb : Op.bytesLess r q with
        | false => rfl
        | true => exact absurd (.inr ⟨rfl, hb⟩) h1'
      obtain ⟨s, rfl⟩ := begins_iff.1 (begins_255 q r hq this)
      exact begins_iff.2 ⟨s, by simp⟩
  · intro h
    obtain ⟨r, rfl⟩ := begins_iff.1 h
    refine ⟨ble_self_app _ _, ?_⟩
    rw [List.append_assoc, blt_app, List.cons_append]
    exact blt_cons.2 (.inl (lt_up hc))

/-- p, in parts: what stands before the last byte that is not 255, that byte, and the rest. -/
theorem strip_parts (p : Str) : (upL p = [] ∧ ∀ c ∈ p, c = 255) ∨ ∃ a c q, p = a ++ c :: q ∧ c ≠ 255 ∧ (∀ x ∈ q, x = 255) ∧ upL p = a ++ [c + 1] := by
  obtain ⟨h1, h2⟩ := stripN_spec p p.length (Nat.le_refl _)
  have hle := stripN_le p p.length
  unfold upL
  cases hs : stripN p p.length with
  | zero =>
    left
    refine ⟨rfl, fun c hc => ?_⟩
    obtain ⟨i, hi⟩ := List.mem_iff_getElem?.1 hc
    have := h1 i (by omega) (List.getElem?_eq_some_iff.1 hi).1
    rw [hi] at this
    simpa using this
  | succ n =>
    right
    have hn : n < p.length := by omega
    have hg : p[n]? = some p[n] := List.getElem?_eq_getElem hn
    refine ⟨p.take n, p[n], p.drop (n + 1), ?_, ?_, ?_, ?_⟩
    · rw [← List.drop_eq_getElem_cons hn, List.take_append_drop]
    · intro e
      rw [e] at hg
      exact h2 n hs hg
    · intro x hx
      obtain ⟨i, hi⟩ := List.mem_iff_getElem?.1 hx
      rw [List.getElem?_drop] at hi
      have := h1 (n + 1 + i) (by omega) (List.getElem?_eq_some_iff.1 hi).1
      rw [hi] at this
      simpa using this
    · simp only [List.getD, hg, Option.getD_some]

theorem prefix_has (p k : Str) : hasL (prefixL p) k = beginsL k p := by
  rw [Bool.eq_iff_iff, has_iff]
  simp only [prefixL]
  rcases strip_parts p with ⟨h1, h2⟩ | ⟨a, c, q, rfl, hc, hq, hu⟩
  · rw [h1]
    constructor
    · rintro ⟨h3, _⟩; exact begins_255 p k h2 h3
    · intro h
      obtain ⟨r, rfl⟩ := begins_iff.1 h
      exact ⟨ble_self_app _ _, .inl rfl⟩
  · rw [hu, ← begins_up hc hq k]
    constructor
    · rintro ⟨h3, h4 | h4⟩
      · simp at h4
      · exact ⟨h3, h4⟩
    · rintro ⟨h3, h4⟩; exact ⟨h3, .inr h4⟩
theorem prefix_not_empty (p : Str) : emptyL (prefixL p) = false := by
  cases h : emptyL (prefixL p) with
  | false => rfl
  | true =>
    have := not_has_of_empty h p
    rw [prefix_has, begins_iff.2 ⟨[], by simp⟩] at this
    cases this
theorem one_not_empty (p : Str) : emptyL (oneL p) = false := by
  cases h : emptyL (oneL p) with
  | false => rfl
  | true =>
    have := not_has_of_empty h p
    rw [one_has] at this
    simp at this
theorem upL_len (p : Str) : (upL p).length ≤ p.length := by
  rcases strip_parts p with ⟨h1, _⟩ | ⟨a, c, q, rfl, _, _, hu⟩
  · rw [h1]; simp
  · rw [hu]; simp
theorem moved_app (f x t : Str) : movedL (f ++ x) f t = (t ++ x, true) := by
  have : beginsL (f ++ x) f = true := begins_iff.2 ⟨x, rfl⟩
  simp [movedL, this]
theorem moved_not {k f t : Str} (h : beginsL k f = false) : movedL k f t = ([], false) := by simp [movedL, h]
end Go.Pu
/- Locks: what the program and the reference compute, in plain Lean. -/
set_option linter.unusedVariables false
namespace Go.Pu

structure LockL where
  own : Int
  path : Str
  lo : Int
  hi : Int
  sh : Bool
  deriving DecidableEq, Inhabited

def rightL (x : LockL) : Bool := decide (0 ≤ x.own) && decide (x.own ≤ 1000000000) && decide (x.path.length ≤ 200) && decide (0 ≤ x.lo) && decide (x.lo < x.hi) && decide (x.hi ≤ 60000)
/-- The program's conflict. -/
def confL (a b : LockL) : Bool := !(a.own == b.own) && a.path == b.path && decide (max a.lo b.lo < min a.hi b.hi) && !(a.sh && b.sh)
/-- The reference's. -/
def rconfL (a b : LockL) : Bool := !(a.own == b.own) && a.path == b.path && decide (a.lo < b.hi) && decide (b.lo < a.hi) && !(a.sh && b.sh)
def rmeetsL (l : List LockL) (x : LockL) : Bool := l.any fun y => rconfL y x
def meetsL (x : LockL) (l : List LockL) : Bool := l.any fun y => confL x y

structure LocksL where
  held : List LockL
  waits : List LockL
  deriving DecidableEq, Inhabited

def allowsL (l : LocksL) (x : LockL) : Bool := rightL x && !(meetsL x l.held || meetsL x l.waits)
def rallowsL (l : LocksL) (x : LockL) : Bool := rightL x && !rmeetsL l.held x && !rmeetsL l.waits x
/-- The place of a lock in a list. -/
def findL (l : List LockL) (x : LockL) : Option Nat := l.findIdx? (· == x)
def withoutL (l : List LockL) (i : Nat) : List LockL := l.take i ++ l.drop (i + 1)
def othersL (l : List LockL) (o : Int) : List LockL := l.filter fun y => !(y.own == o)

/-- Granting: what is held, what waits, what was granted. -/
def grantF (m : LockL → List LockL → Bool) : List LockL → List LockL → List LockL → List LockL → List LockL × List LockL × List LockL
  | [], h, w, g => (h, w, g)
  | x :: r, h, w, g => if m x h || m x w then grantF m r h (w ++ [x]) g else grantF m r (h ++ [x]) w (g ++ [x])

/-- The owners for which an owner waits, in the reference's order. -/
def nextW (c : LockL → LockL → Bool) (held : List LockL) (o : Int) : List LockL → List LockL → List Int
  | _, [] => []
  | w0, x :: r => (if x.own = o then ((held ++ w0).filter fun y => c y x).map (·.own) else []) ++ nextW c held o (w0 ++ [x]) r
def nextL (l : LocksL) (o : Int) : List Int := nextW rconfL l.held o [] l.waits

end Go.Pu
/- Who waits for whom. -/
set_option linter.unusedVariables false
set_option linter.unusedSimpArgs false
namespace Go.Pu

inductive Rch (e : Int → Int → Prop) : Int → Int → Prop
  | one {a b : Int} (h : e a b) : Rch e a b
  | more {a b c : Int} (h : Rch e a b) (h' : e b c) : Rch e a c

theorem Rch.stays {e : Int → Int → Prop} {S : Int → Prop} {o z : Int} (h1 : ∀ y, e o y → S y) (h2 : ∀ k, S k → ∀ y, e k y → S y) (h : Rch e o z) : S z := by
  induction h with
  | one h => exact h1 _ h
  | more h h' ih => exact h2 _ ih _ h'
theorem Rch.mono {e e' : Int → Int → Prop} (he : ∀ a b, e a b → e' a b) {o z : Int} (h : Rch e o z) : Rch e' o z := by
  induction h with
  | one h => exact .one (he _ _ h)
  | more h h' ih => exact .more ih (he _ _ h')

/-- a waits for b. -/
def Edge (c : LockL → LockL → Bool) (l : LocksL) (a b : Int) : Prop :=
  ∃ i x y, l.waits[i]? = some x ∧ x.own = a ∧ y ∈ l.held ++ l.waits.take i ∧ c y x = true ∧ y.own = b

theorem mem_nextW {c : LockL → LockL → Bool} {held : List LockL} {o b : Int} : ∀ (r w0 : List LockL), b ∈ nextW c held o w0 r ↔ ∃ i x y, r[i]? = some x ∧ x.own = o ∧ y ∈ held ++ (w0 ++ r.take i) ∧ c y x = true ∧ y.own = b
  | [], w0 => by simp [nextW]
  | x :: r, w0 => by
    rw [nextW, List.mem_append, mem_nextW r (w0 ++ [x])]
    constructor
    · rintro (h | ⟨i, x', y, h1, h2, h3, h4, h5⟩)
      · split at h
        · rename_i hx
          rw [List.mem_map] at h
          obtain ⟨y, hy, rfl⟩ := h
          rw [List.mem_filter] at hy
          exact ⟨0, x, y, rfl, hx, by simpa using hy.1, hy.2, rfl⟩
        · cases h
      · exact ⟨i + 1, x', y, by simpa using h1, h2, by simpa [List.append_assoc] using h3, h4, h5⟩
    · rintro ⟨i, x', y, h1, h2, h3, h4, h5⟩
      cases i with
      | zero =>
        left
        simp at h1
        subst h1
        rw [if_pos h2, List.mem_map]
        exact ⟨y, List.mem_filter.2 ⟨by simpa using h3, h4⟩, h5⟩
      | succ i =>
        right
        exact ⟨i, x', y, by simpa using h1, h2, by simpa [List.append_assoc] using h3, h4, h5⟩
theorem mem_nextL {l : LocksL} {o b : Int} : b ∈ nextL l o ↔ Edge rconfL l o b := by
  unfold nextL Edge
  rw [mem_nextW]
  simp

def ownersL (l : LocksL) : List Int := (l.held ++ l.waits).map (·.own)
theorem edge_owner {c : LockL → LockL → Bool} {l : LocksL} {a b : Int} (h : Edge c l a b) : b ∈ ownersL l := by
  obtain ⟨i, x, y, _, _, h3, _, rfl⟩ := h
  unfold ownersL
  rw [List.mem_map]
  refine ⟨y, ?_, rfl⟩
  rw [List.mem_append] at h3 ⊢
  exact h3.imp id List.mem_of_mem_take

/-- How many of some owners are not known. -/
def unk (os ks : List Int) : Nat := (os.filter fun o => !ks.contains o).length
theorem unk_lt {os ks : List Int} {x : Int} (h1 : x ∈ os) (h2 : ks.contains x = false) : unk os (ks ++ [x]) < unk os ks := by
  unfold unk
  induction os with
  | nil => cases h1
  | cons o os ih =>
    have key : ∀ os : List Int, (os.filter fun o => !(ks ++ [x]).contains o).length ≤ (os.filter fun o => !ks.contains o).length := by
      intro os
      induction os with
      | nil => simp
      | cons o os ih =>
        simp only [List.filter_cons]
        by_cases h : ks.contains o = true
        · have : (ks ++ [x]).contains o = true := by simp at h ⊢; exact .inl h
          rw [this, h]
          simpa using ih
        · have h : ks.contains o = false := by simpa using h
          rw [h]
          simp only [Bool.not_false, if_true, List.length_cons]
          split
          · simp only [List.length_cons]; omega
          · omega
    simp only [List.filter_cons]
    by_cases hx : o = x
    · subst hx
      have : (ks ++ [o]).contains o = true := by simp
      rw [this, h2]
      simp only [Bool.not_true, Bool.false_eq_true, if_false, Bool.not_false, if_true, List.length_cons]
      have := key os
      omega
    · have h1' : x ∈ os := by
        rcases List.mem_cons.1 h1 with h | h
        · exact (hx h.symm).elim
        · exact h
      have := ih h1'
      by_cases h : ks.contains o = true
      · have h3 : (ks ++ [x]).contains o = true := by simp at h ⊢; exact .inl h
        rw [h3, h]
        simpa using this
      · have h : ks.contains o = false := by simpa using h
        have h3 : (ks ++ [x]).contains o = false := by simp at h ⊢; exact ⟨h, hx⟩
        rw [h3, h]
        simpa using this

theorem nextW_len {c : LockL → LockL → Bool} {held : List LockL} {o : Int} : ∀ (r w0 : List LockL), (nextW c held o w0 r).length ≤ r.length * (held.length + w0.length + r.length)
  | [], w0 => by simp [nextW]
  | x :: r, w0 => by
    rw [nextW, List.length_append]
    have h1 := nextW_len (c := c) (held := held) (o := o) r (w0 ++ [x])
    have h2 : (if x.own = o then ((held ++ w0).filter fun y => c y x).map (·.own) else []).length ≤ held.length + w0.length := by
      split
      · rw [List.length_map]
        have := List.length_filter_le (fun y => c y x) (held ++ w0)
        simpa using this
      · simp
    simp only [List.length_append, List.length_cons, List.length_nil] at h1 ⊢
    have e : held.length + (w0.length + (0 + 1)) + r.length = held.length + w0.length + (r.length + 1) := by omega
    rw [e] at h1
    rw [Nat.add_mul, Nat.one_mul]
    omega
theorem nextL_len (l : LocksL) (o : Int) : (nextL l o).length ≤ l.waits.length * (l.held.length + l.waits.length) := by
  have := nextW_len (c := rconfL) (held := l.held) (o := o) l.waits []
  simpa [nextL] using this

/-- The owner waits for itself. -/
def Cyc (c : LockL → LockL → Bool) (l : LocksL) (o : Int) : Prop := Rch (Edge c l) o o
noncomputable def cycB (c : LockL → LockL → Bool) (l : LocksL) (o : Int) : Bool := @decide (Cyc c l o) (Classical.propDecidable _)
theorem cycB_iff {c : LockL → LockL → Bool} {l : LocksL} {o : Int} : cycB c l o = true ↔ Cyc c l o := by
  unfold cycB; exact @decide_eq_true_iff _ (Classical.propDecidable _)
theorem cycB_false {c : LockL → LockL → Bool} {l : LocksL} {o : Int} : cycB c l o = false ↔ ¬ Cyc c l o := by
  rw [← cycB_iff]; simp

/-- What a search by breadth knows. -/
structure Bfs (l : LocksL) (o : Int) (todo ks : List Int) : Prop where
  tod : ∀ y ∈ todo, Rch (Edge rconfL l) o y
  kn : ∀ k ∈ ks, Rch (Edge rconfL l) o k ∧ k ≠ o ∧ ∀ y, Edge rconfL l k y → y ∈ ks ∨ y ∈ todo
  fst : ∀ y, Edge rconfL l o y → y ∈ ks ∨ y ∈ todo
theorem Bfs.start (l : LocksL) (o : Int) : Bfs l o (nextL l o) [] :=
  ⟨fun y h => .one (mem_nextL.1 h), by simp, fun y h => .inr (mem_nextL.2 h)⟩
theorem Bfs.found {l : LocksL} {o : Int} {todo ks : List Int} (h : Bfs l o (o :: todo) ks) : cycB rconfL l o = true := cycB_iff.2 (h.tod o (by simp))
theorem Bfs.none {l : LocksL} {o : Int} {ks : List Int} (h : Bfs l o [] ks) : cycB rconfL l o = false := by
  rw [cycB_false]
  intro hc
  have := Rch.stays (S := fun z => z ∈ ks) (fun y hy => (h.fst y hy).resolve_right (by simp)) (fun k hk y hy => ((h.kn k hk).2.2 y hy).resolve_right (by simp)) hc
  exact (h.kn o this).2.1 rfl
theorem Bfs.old {l : LocksL} {o x : Int} {todo ks : List Int} (h : Bfs l o (x :: todo) ks) (hx : ks.contains x = true) : Bfs l o todo ks := by
  have hx : x ∈ ks := by simpa using hx
  have key : ∀ y, y ∈ ks ∨ y ∈ x :: todo → y ∈ ks ∨ y ∈ todo := by
    rintro y (h | h)
    · exact .inl h
    · rcases List.mem_cons.1 h with rfl | h
      · exact .inl hx
      · exact .inr h
  exact ⟨fun y hy => h.tod y (by simp [hy]), fun k hk => ⟨(h.kn k hk).1, (h.kn k hk).2.1, fun y hy => key y ((h.kn k hk).2.2 y hy)⟩, fun y hy => key y (h.fst y hy)⟩
theorem Bfs.new {l : LocksL} {o x : Int} {todo ks : List Int} (h : Bfs l o (x :: todo) ks) (hx : x ≠ o) : Bfs l o (todo ++ nextL l x) (ks ++ [x]) := by
  have key : ∀ y, y ∈ ks ∨ y ∈ x :: todo → y ∈ ks ++ [x] ∨ y ∈ todo ++ nextL l x := by
    rintro y (h | h)
    · exact .inl (by simp [h])
    · rcases List.mem_cons.1 h with rfl | h
      · exact .inl (by simp)
      · exact .inr (by simp [h])
  refine ⟨fun y hy => ?_, fun k hk => ?_, fun y hy => key y (h.fst y hy)⟩
  · rcases List.mem_append.1 hy with h1 | h1
    · exact h.tod y (by simp [h1])
    · exact .more (h.tod x (by simp)) (mem_nextL.1 h1)
  · rcases List.mem_append.1 hk with h1 | h1
    · exact ⟨(h.kn k h1).1, (h.kn k h1).2.1, fun y hy => key y ((h.kn k h1).2.2 y hy)⟩
    · simp at h1
      subst h1
      exact ⟨h.tod k (by simp), hx, fun y hy => .inr (by simp [mem_nextL.2 hy])⟩
theorem Bfs.owner {l : LocksL} {o x : Int} {todo ks : List Int} (h : Bfs l o (x :: todo) ks) : x ∈ ownersL l := by
  have := h.tod x (by simp)
  cases this with
  | one h => exact edge_owner h
  | more _ h => exact edge_owner h
end Go.Pu
/- Locks: what the functions answer. -/
set_option linter.unusedVariables false
set_option linter.unusedSimpArgs false
namespace Go.Pu

/-- A list's locks with how Meets and Circle look at them: the reference's (R) or the program's. -/
abbrev rmt (x : LockL) (l : List LockL) : Bool := rmeetsL l x
noncomputable def takeG (ok : LocksL → LockL → Bool) (cy : LocksL → Int → Bool) (l : LocksL) (x : LockL) : LocksL × Bool × Int :=
  if rightL x = false then (l, false, 1) else
  if 32 ≤ l.held.length + l.waits.length then (l, false, 322) else
  if ok l x = true then (⟨l.held ++ [x], l.waits⟩, true, 0) else
  if cy ⟨l.held, l.waits ++ [x]⟩ x.own = true then (l, false, 321) else (⟨l.held, l.waits ++ [x]⟩, false, 0)
noncomputable def rtakeL : LocksL → LockL → LocksL × Bool × Int := takeG rallowsL (cycB rconfL)

/-- What granting leaves. -/
structure GrL where
  l : LocksL
  g : List LockL
  e : Int
  deriving DecidableEq
def grG (m : LockL → List LockL → Bool) (l : LocksL) : GrL := let r := grantF m l.waits l.held [] []; ⟨⟨r.1, r.2.1⟩, r.2.2, 0⟩
def outL (l : List LockL) (x : LockL) : List LockL := withoutL l (l.findIdx (· == x))
def dropG (m : LockL → List LockL → Bool) (l : LocksL) (x : LockL) : GrL :=
  if x ∈ l.held then grG m ⟨outL l.held x, l.waits⟩ else
  if x ∈ l.waits then grG m ⟨l.held, outL l.waits x⟩ else ⟨l, [], 330⟩
def leaveG (m : LockL → List LockL → Bool) (l : LocksL) (o : Int) : GrL := grG m ⟨othersL l.held o, othersL l.waits o⟩
def renL (l : List LockL) (f t : Str) : List LockL :=
  (l.filter fun y => !beginsL y.path t).map fun y => if beginsL y.path f = true then { y with path := (movedL y.path f t).1 } else y
def movedG (m : LockL → List LockL → Bool) (l : LocksL) (f t : Str) : LocksL := (grG m ⟨renL l.held f t, renL l.waits f t⟩).l

structure RawL where
  k : Nat
  a : Nat
  b : Nat
  c : Nat
  d : Nat
  deriving DecidableEq, Inhabited
def RawL.ok (r : RawL) : Prop := r.k < 256 ∧ r.a < 256 ∧ r.b < 256 ∧ r.c < 256 ∧ r.d < 256
def pathsL : List Str := [[97, 47], [98, 47], [97, 47, 98, 47], [99, 47]]
def pathL (n : Nat) : Str := (pathsL[n % 4]?).getD []
def lockL (r : RawL) : LockL := ⟨(r.a % 5 : Nat), pathL r.b, (r.c % 8 : Nat), (r.c % 8 + 1 + r.d % 8 : Nat), decide (128 ≤ r.d)⟩
def fromL (n : Nat) : Str := if n % 2 = 0 then [98, 47] else [99, 47]
def toL (n : Nat) : Str := if n % 2 = 0 then [97, 47] else [100, 47]
noncomputable def stepL (l : LocksL) (r : RawL) : LocksL :=
  if r.k % 12 < 2 ∧ 0 < (l.held ++ l.waits).length then (dropG rmt l (((l.held ++ l.waits)[r.a % (l.held ++ l.waits).length]?).getD default)).l else
  if r.k % 12 = 2 then (leaveG rmt l (r.a % 5 : Nat)).l else
  if r.k % 12 = 3 then movedG rmt l (fromL r.a) (toL r.b) else (rtakeL l (lockL r)).1
noncomputable def playL (l : List RawL) : LocksL := l.foldl stepL ⟨[], []⟩
end Go.Pu
/- Locks that are sound stay sound. -/
set_option linter.unusedVariables false
set_option linter.unusedSimpArgs false
namespace Go.Pu

theorem rconf_imp {a b : LockL} (h : rconfL a b = true) : rconfL b a = true := by
  unfold rconfL at *
  simp at h ⊢
  obtain ⟨⟨⟨⟨h1, h2⟩, h3⟩, h4⟩, h5⟩ := h
  exact ⟨⟨⟨⟨fun e => h1 e.symm, h2.symm⟩, h4⟩, h3⟩, h5.symm⟩
theorem rconf_symm (a b : LockL) : rconfL a b = rconfL b a := by
  rw [Bool.eq_iff_iff]
  exact ⟨rconf_imp, rconf_imp⟩
theorem rmeets_iff {l : List LockL} {x : LockL} : rmeetsL l x = true ↔ ∃ y ∈ l, rconfL y x = true := by simp [rmeetsL]
theorem rmeets_false {l : List LockL} {x : LockL} : rmeetsL l x = false ↔ ∀ y ∈ l, rconfL y x = false := by simp [rmeetsL]
theorem rmeets_mono {l l' : List LockL} {x : LockL} (h : ∀ y ∈ l, y ∈ l') (hm : rmeetsL l x = true) : rmeetsL l' x = true := by
  rw [rmeets_iff] at hm ⊢
  obtain ⟨y, h1, h2⟩ := hm
  exact ⟨y, h y h1, h2⟩

/-- Sound, but that what waits may wait in vain. -/
structure SoundW (l : LocksL) : Prop where
  len : l.held.length + l.waits.length ≤ 32
  rt : ∀ x ∈ l.held ++ l.waits, rightL x = true
  cyc : ∀ o, ¬ Cyc rconfL l o
  apart : l.held.Pairwise fun a b => rconfL a b = false
/-- What waits has a reason. -/
def WhyP (l : LocksL) : Prop := ∀ i x, l.waits[i]? = some x → rmeetsL l.held x = true ∨ rmeetsL (l.waits.take i) x = true
structure SoundP (l : LocksL) : Prop extends SoundW l where
  why : WhyP l

theorem soundP_nil : SoundP ⟨[], []⟩ := by
  refine ⟨⟨by simp, by simp, fun o h => ?_, by simp⟩, fun i x h => by simp at h⟩
  have : ∀ z, Rch (Edge rconfL ⟨[], []⟩) o z → False := by
    intro z h
    cases h with
    | one h => obtain ⟨i, x, y, h1, _⟩ := h; simp at h1
    | more _ h => obtain ⟨i, x, y, h1, _⟩ := h; simp at h1
  exact this o h

theorem edge_cyc {l l' : LocksL} (h : ∀ a b, Edge rconfL l' a b → Edge rconfL l a b) (hc : ∀ o, ¬ Cyc rconfL l o) : ∀ o, ¬ Cyc rconfL l' o := fun o ho => hc o (Rch.mono h ho)

/-- An edge, told by a split of what waits. -/
theorem edge_split {c : LockL → LockL → Bool} {l : LocksL} {a b : Int} : Edge c l a b ↔ ∃ w0 x w1 y, l.waits = w0 ++ x :: w1 ∧ x.own = a ∧ y ∈ l.held ++ w0 ∧ c y x = true ∧ y.own = b := by
  constructor
  · rintro ⟨i, x, y, h1, h2, h3, h4, h5⟩
    obtain ⟨g1, g2⟩ := List.getElem?_eq_some_iff.1 h1
    refine ⟨l.waits.take i, x, l.waits.drop (i + 1), y, ?_, h2, h3, h4, h5⟩
    rw [← g2, ← List.drop_eq_getElem_cons, List.take_append_drop]
  · rintro ⟨w0, x, w1, y, h1, h2, h3, h4, h5⟩
    exact ⟨w0.length, x, y, by rw [h1]; simp, h2, by rw [h1]; simpa using h3, h4, h5⟩

theorem edge_sub {l l' : LocksL} (h1 : l'.held.Sublist l.held) (h2 : l'.waits.Sublist l.waits) {a b : Int} (h : Edge rconfL l' a b) : Edge rconfL l a b := by
  rw [edge_split] at h ⊢
  obtain ⟨w0, x, w1, y, e1, e2, e3, e4, e5⟩ := h
  rw [e1] at h2
  obtain ⟨r0, r1, g1, g2, g3⟩ := List.append_sublist_iff.1 h2
  obtain ⟨s0, s1, g4, g5, g6⟩ := List.cons_sublist_iff.1 g3
  obtain ⟨t0, t1, rfl⟩ := List.append_of_mem g5
  refine ⟨r0 ++ t0, x, t1 ++ s1, y, by rw [g1, g4]; simp, e2, ?_, e4, e5⟩
  rw [List.mem_append] at e3 ⊢
  rcases e3 with e3 | e3
  · exact .inl (h1.subset e3)
  · exact .inr (List.mem_append_left _ (g2.subset e3))
theorem SoundW.sub {l l' : LocksL} (hs : SoundW l) (h1 : l'.held.Sublist l.held) (h2 : l'.waits.Sublist l.waits) : SoundW l' := by
  refine ⟨by have := h1.length_le; have := h2.length_le; have := hs.len; omega, fun x hx => hs.rt x ?_, edge_cyc (fun a b => edge_sub h1 h2) hs.cyc, hs.apart.sublist h1⟩
  rw [List.mem_append] at hx ⊢
  exact hx.imp (fun h => h1.subset h) fun h => h2.subset h

/-- What granting does. -/
theorem grant_spec : ∀ (r h w g : List LockL), ∃ d e, grantF rmt r h w g = (h ++ d, w ++ e, g ++ d) ∧ d.Sublist r ∧ e.Sublist r ∧ d.length + e.length = r.length ∧ (∀ x, x ∈ r → x ∈ d ∨ x ∈ e) ∧
    (h.Pairwise (fun a b => rconfL a b = false) → (h ++ d).Pairwise fun a b => rconfL a b = false) ∧
    (∀ i x, e[i]? = some x → rmeetsL (h ++ d) x = true ∨ rmeetsL (w ++ e.take i) x = true) ∧
    (∀ a b, Edge rconfL ⟨h ++ d, w ++ e⟩ a b → Edge rconfL ⟨h, w ++ r⟩ a b)
  | [], h, w, g => ⟨[], [], by simp [grantF], .slnil, .slnil, rfl, by simp, by simp, by simp, by simp⟩
  | x :: r, h, w, g => by
    rw [grantF]
    by_cases hm : (rmt x h || rmt x w) = true
    · rw [if_pos hm]
      obtain ⟨d, e, h1, h2, h3, h4, h5, h6, h7, h8⟩ := grant_spec r h (w ++ [x]) g
      refine ⟨d, x :: e, by rw [h1]; simp, .cons _ h2, .cons_cons _ h3, by simp; omega, ?_, h6, ?_, fun a b hab => ?_⟩
      · intro z hz
        rcases List.mem_cons.1 hz with rfl | hz
        · exact .inr (by simp)
        · exact (h5 z hz).imp id (List.mem_cons_of_mem _)
      · intro i z hz
        cases i with
        | zero =>
          simp at hz
          subst hz
          simp only [Bool.or_eq_true] at hm
          rcases hm with hm | hm
          · exact .inl (rmeets_mono (fun y hy => List.mem_append_left _ hy) hm)
          · exact .inr (by simpa using hm)
        | succ i =>
          have := h7 i z (by simpa using hz)
          simpa [List.append_assoc] using this
      · have := h8 a b (by simpa [List.append_assoc] using hab)
        simpa [List.append_assoc] using this
    · rw [if_neg hm]
      simp only [Bool.or_eq_true, not_or, Bool.not_eq_true] at hm
      obtain ⟨hm1, hm2⟩ := hm
      obtain ⟨d, e, h1, h2, h3, h4, h5, h6, h7, h8⟩ := grant_spec r (h ++ [x]) w (g ++ [x])
      refine ⟨x :: d, e, by rw [h1]; simp, .cons_cons _ h2, .cons _ h3, by simp; omega, ?_, ?_, ?_, fun a b hab => ?_⟩
      · intro z hz
        rcases List.mem_cons.1 hz with rfl | hz
        · exact .inl (by simp)
        · exact (h5 z hz).imp (List.mem_cons_of_mem _) id
      · intro hp
        have := h6 (by
          rw [List.pairwise_append]
          refine ⟨hp, List.pairwise_singleton _ _, fun a ha b hb => ?_⟩
          simp at hb
          subst hb
          exact rmeets_false.1 hm1 a ha)
        simpa [List.append_assoc] using this
      · intro i z hz
        have := h7 i z hz
        simpa [List.append_assoc] using this
      · have h9 := h8 a b (by simpa [List.append_assoc] using hab)
        rw [edge_split] at h9 ⊢
        obtain ⟨w0, z, w1, y, e1, e2, e3, e4, e5⟩ := h9
        simp only at e1 e3
        -- where the waiting one stands
        rcases List.append_eq_append_iff.1 e1 with ⟨a', g1, g2⟩ | ⟨c', g1, g2⟩
        · -- w0 = w ++ a', r = a' ++ z :: w1
          refine ⟨w ++ x :: a', z, w1, y, by simp [g2], e2, ?_, e4, e5⟩
          rw [g1] at e3
          simp only [List.mem_append, List.mem_cons, List.mem_singleton, List.not_mem_nil, or_false] at e3 ⊢
          rcases e3 with (e3 | e3) | (e3 | e3)
          · exact .inl e3
          · exact .inr (.inr (.inl e3))
          · exact .inr (.inl e3)
          · exact .inr (.inr (.inr e3))
        · cases c' with
          | nil =>
            simp at g1 g2
            refine ⟨w ++ [x], z, w1, y, by rw [← g2]; simp, e2, ?_, e4, e5⟩
            rw [← g1] at e3
            simp only [List.mem_append, List.mem_cons, List.mem_singleton, List.not_mem_nil, or_false] at e3 ⊢
            rcases e3 with (e3 | e3) | e3
            · exact .inl e3
            · exact .inr (.inr e3)
            · exact .inr (.inl e3)
          | cons z' c' =>
            simp only [List.cons_append, List.cons.injEq] at g2
            obtain ⟨rfl, g2⟩ := g2
            have hzw : z ∈ w := by rw [g1]; simp
            refine ⟨w0, z, c' ++ x :: r, y, by rw [g1]; simp, e2, ?_, e4, e5⟩
            simp only [List.mem_append, List.mem_singleton] at e3 ⊢
            rcases e3 with (e3 | e3) | e3
            · exact .inl e3
            · subst e3
              have := rmeets_false.1 hm2 z hzw
              rw [rconf_symm, e4] at this
              cases this
            · exact .inr e3

theorem grG_spec (l : LocksL) : ∃ d e, grG rmt l = ⟨⟨l.held ++ d, e⟩, d, 0⟩ ∧ d.Sublist l.waits ∧ e.Sublist l.waits ∧ d.length + e.length = l.waits.length ∧ (∀ x, x ∈ l.waits → x ∈ d ∨ x ∈ e) ∧ (SoundW l → SoundP ⟨l.held ++ d, e⟩) := by
  obtain ⟨d, e, h1, h2, h3, h4, h5, h6, h7, h8⟩ := grant_spec l.waits l.held [] []
  refine ⟨d, e, by unfold grG; rw [h1]; simp, h2, h3, h4, h5, fun hs => ⟨⟨by have := hs.len; simp; omega, fun x hx => hs.rt x ?_, edge_cyc (fun a b hab => ?_) hs.cyc, h6 hs.apart⟩, fun i x hx => ?_⟩⟩
  · simp only [List.mem_append] at hx ⊢
    rcases hx with (hx | hx) | hx
    · exact .inl hx
    · exact .inr (h2.subset hx)
    · exact .inr (h3.subset hx)
  · exact h8 a b (by simpa using hab)
  · have := h7 i x hx
    simpa using this
theorem grG_sound {l : LocksL} (hs : SoundW l) : SoundP (grG rmt l).l := by
  obtain ⟨d, e, h1, _, _, _, _, h2⟩ := grG_spec l
  rw [h1]
  exact h2 hs
end Go.Pu
/- Locks: each step keeps sound. -/
set_option linter.unusedVariables false
set_option linter.unusedSimpArgs false
namespace Go.Pu

theorem outL_sub (l : List LockL) (x : LockL) : (outL l x).Sublist l := by
  unfold outL withoutL
  generalize l.findIdx (· == x) = i
  have h : (l.take i ++ l.drop (i + 1)).Sublist (l.take i ++ l.drop i) := List.Sublist.append (List.Sublist.refl _) (by
    rw [← List.drop_drop]
    exact List.drop_sublist 1 _)
  rwa [List.take_append_drop] at h
theorem othersL_sub (l : List LockL) (o : Int) : (othersL l o).Sublist l := List.filter_sublist

theorem drop_sound {l : LocksL} (hs : SoundP l) (x : LockL) : SoundP (dropG rmt l x).l := by
  unfold dropG
  split
  · exact grG_sound (hs.toSoundW.sub (outL_sub _ _) (List.Sublist.refl _))
  · split
    · exact grG_sound (hs.toSoundW.sub (List.Sublist.refl _) (outL_sub _ _))
    · exact hs
theorem leave_sound {l : LocksL} (hs : SoundP l) (o : Int) : SoundP (leaveG rmt l o).l :=
  grG_sound (hs.toSoundW.sub (othersL_sub _ _) (othersL_sub _ _))

theorem take_sound {l : LocksL} (hs : SoundP l) (x : LockL) : SoundP (rtakeL l x).1 := by
  unfold rtakeL takeG
  split
  · exact hs
  · rename_i h0
    have h0 : rightL x = true := by simpa using h0
    split
    · exact hs
    · rename_i h1
      split
      · rename_i h2
        unfold rallowsL at h2
        simp only [Bool.and_eq_true, Bool.not_eq_true'] at h2
        obtain ⟨⟨_, h3⟩, h4⟩ := h2
        refine ⟨⟨by simp; omega, fun y hy => ?_, edge_cyc (fun a b hab => ?_) hs.cyc, ?_⟩, fun i y hy => ?_⟩
        · simp only [List.mem_append, List.mem_singleton] at hy
          rcases hy with (hy | hy) | hy
          · exact hs.rt y (by simp [hy])
          · exact hy ▸ h0
          · exact hs.rt y (by simp [hy])
        · obtain ⟨i, z, y, e1, e2, e3, e4, e5⟩ := hab
          simp only [List.mem_append, List.mem_singleton] at e1 e3
          refine ⟨i, z, y, e1, e2, ?_, e4, e5⟩
          rw [List.mem_append]
          rcases e3 with (e3 | e3) | e3
          · exact .inl e3
          · subst e3
            have := rmeets_false.1 h4 z (List.mem_of_getElem? e1)
            rw [rconf_symm, e4] at this
            cases this
          · exact .inr e3
        · rw [List.pairwise_append]
          refine ⟨hs.apart, List.pairwise_singleton _ _, fun a ha b hb => ?_⟩
          simp at hb
          subst hb
          exact rmeets_false.1 h3 a ha
        · exact (hs.why i y hy).imp (rmeets_mono fun z hz => List.mem_append_left _ hz) id
      · rename_i h2
        split
        · exact hs
        · rename_i h3
          have h3 : ¬ Cyc rconfL ⟨l.held, l.waits ++ [x]⟩ x.own := by
            rw [← cycB_false]; simpa using h3
          have hnew : ∀ a b, Edge rconfL ⟨l.held, l.waits ++ [x]⟩ a b → Edge rconfL l a b ∨ a = x.own := by
            rintro a b ⟨i, z, y, e1, e2, e3, e4, e5⟩
            simp only at e1 e3
            rw [List.getElem?_append] at e1
            split at e1
            · rename_i hlt
              rw [List.take_append_of_le_length (by omega)] at e3
              exact .inl ⟨i, z, y, e1, e2, e3, e4, e5⟩
            · right
              have : z = x := by
                have := List.mem_of_getElem? e1
                simpa using this
              rw [← e2, this]
          refine ⟨⟨by simp; omega, fun y hy => ?_, fun o ho => ?_, hs.apart⟩, fun i y hy => ?_⟩
          · simp only [List.mem_append, List.mem_singleton] at hy
            rcases hy with hy | hy | hy
            · exact hs.rt y (by simp [hy])
            · exact hs.rt y (by simp [hy])
            · exact hy ▸ h0
          · -- a circle that is not there before goes through the new one's owner
            have key : ∀ z, Rch (Edge rconfL ⟨l.held, l.waits ++ [x]⟩) o z → Rch (Edge rconfL l) o z ∨ ((o = x.own ∨ Rch (Edge rconfL ⟨l.held, l.waits ++ [x]⟩) o x.own) ∧ Rch (Edge rconfL ⟨l.held, l.waits ++ [x]⟩) x.own z) := by
              intro z hz
              induction hz with
              | one h =>
                rcases hnew _ _ h with h' | h'
                · exact .inl (.one h')
                · exact .inr ⟨.inl h', by rw [← h']; exact .one h⟩
              | more h h' ih =>
                rcases ih with ih | ⟨ih1, ih2⟩
                · rcases hnew _ _ h' with h2 | h2
                  · exact .inl (.more ih h2)
                  · subst h2
                    exact .inr ⟨.inr h, .one h'⟩
                · exact .inr ⟨ih1, .more ih2 h'⟩
            have trans : ∀ a b c, Rch (Edge rconfL ⟨l.held, l.waits ++ [x]⟩) a b → Rch (Edge rconfL ⟨l.held, l.waits ++ [x]⟩) b c → Rch (Edge rconfL ⟨l.held, l.waits ++ [x]⟩) a c := by
              intro a b c h1 h2
              induction h2 with
              | one h => exact .more h1 h
              | more _ h ih => exact .more ih h
            rcases key o ho with h | ⟨h1, h2⟩
            · exact hs.cyc o h
            · rcases h1 with h1 | h1
              · subst h1; exact h3 h2
              · exact h3 (trans _ _ _ h2 h1)
          · simp only at hy ⊢
            rw [List.getElem?_append] at hy
            split at hy
            · rename_i hlt
              rw [List.take_append_of_le_length (by omega)]
              exact hs.why i y hy
            · rename_i hge
              have hyx : y = x := by
                have := List.mem_of_getElem? hy
                simpa using this
              subst hyx
              have hi : i = l.waits.length := by
                have := (List.getElem?_eq_some_iff.1 hy).1
                simp at this
                omega
              subst hi
              rw [List.take_append_of_le_length (by omega), List.take_length]
              unfold rallowsL at h2
              simp only [h0, Bool.true_and, Bool.and_eq_true, Bool.not_eq_true', not_and, Bool.not_eq_false] at h2
              by_cases h5 : rmeetsL l.held y = true
              · exact .inl h5
              · exact .inr (h2 (by simpa using h5))

/-- Locks under other names of paths. -/
theorem map_sound {l : LocksL} (hs : SoundW l) (ρ : LockL → LockL) (ho : ∀ x, (ρ x).own = x.own) (hr : ∀ x ∈ l.held ++ l.waits, rightL (ρ x) = true)
    (hc : ∀ x ∈ l.held ++ l.waits, ∀ y ∈ l.held ++ l.waits, rconfL (ρ x) (ρ y) = rconfL x y) : SoundW ⟨l.held.map ρ, l.waits.map ρ⟩ := by
  refine ⟨by have := hs.len; simpa using this, fun x hx => ?_, edge_cyc (fun a b hab => ?_) hs.cyc, ?_⟩
  · rw [← List.map_append, List.mem_map] at hx
    obtain ⟨y, hy, rfl⟩ := hx
    exact hr y hy
  · obtain ⟨i, z, y, e1, e2, e3, e4, e5⟩ := hab
    simp only [List.getElem?_map] at e1 e3
    rw [← List.map_take, ← List.map_append, List.mem_map] at e3
    cases hz : l.waits[i]? with
    | none => rw [hz] at e1; cases e1
    | some z0 =>
      rw [hz] at e1
      cases e1
      obtain ⟨y0, hy0, rfl⟩ := e3
      have m1 : z0 ∈ l.held ++ l.waits := by rw [List.mem_append]; exact .inr (List.mem_of_getElem? hz)
      have m2 : y0 ∈ l.held ++ l.waits := by
        rw [List.mem_append] at hy0 ⊢
        exact hy0.imp id List.mem_of_mem_take
      rw [hc y0 m2 z0 m1] at e4
      rw [ho] at e2 e5
      exact ⟨i, z0, y0, hz, e2, hy0, e4, e5⟩
  · rw [List.pairwise_map]
    refine List.Pairwise.imp_of_mem ?_ hs.apart
    intro a b ha hb h
    rw [hc a (by simp [ha]) b (by simp [hb])]
    exact h
end Go.Pu
/- Locks: renaming; what a script leads to. -/
set_option linter.unusedVariables false
set_option linter.unusedSimpArgs false
namespace Go.Pu

def piL (f t p : Str) : Str := if beginsL p f = true then t ++ p.drop f.length else p
def rhoL (f t : Str) (y : LockL) : LockL := { y with path := piL f t y.path }
theorem renL_eq (l : List LockL) (f t : Str) : renL l f t = (l.filter fun y => !beginsL y.path t).map (rhoL f t) := by
  unfold renL
  congr 1
  funext y
  unfold rhoL piL
  split
  · rename_i h
    simp [movedL, h]
  · rfl
theorem pi_inj {f t p q : Str} (hp : beginsL p t = false) (hq : beginsL q t = false) (h : piL f t p = piL f t q) : p = q := by
  unfold piL at h
  have app : ∀ r : Str, beginsL (t ++ r) t = true := fun r => begins_iff.2 ⟨r, rfl⟩
  split at h
  · rename_i h1
    split at h
    · rename_i h2
      obtain ⟨r, rfl⟩ := begins_iff.1 h1
      obtain ⟨r', rfl⟩ := begins_iff.1 h2
      simpa using h
    · rw [← h, app] at hq; cases hq
  · split at h
    · rw [h, app] at hp; cases hp
    · exact h
theorem rho_conf {f t : Str} {x y : LockL} (hx : beginsL x.path t = false) (hy : beginsL y.path t = false) : rconfL (rhoL f t x) (rhoL f t y) = rconfL x y := by
  have h : ((rhoL f t x).path == (rhoL f t y).path) = (x.path == y.path) := by
    rw [Bool.eq_iff_iff]
    simp only [beq_iff_eq]
    exact ⟨pi_inj hx hy, fun e => by unfold rhoL; simp only; rw [e]⟩
  unfold rconfL
  rw [h]
  rfl
theorem ren_sound {l : LocksL} (hs : SoundW l) {f t : Str} (hp : ∀ x ∈ l.held ++ l.waits, beginsL x.path t = false → (piL f t x.path).length ≤ 200) : SoundW ⟨renL l.held f t, renL l.waits f t⟩ := by
  rw [renL_eq, renL_eq]
  have hs2 : SoundW ⟨l.held.filter fun y => !beginsL y.path t, l.waits.filter fun y => !beginsL y.path t⟩ := hs.sub List.filter_sublist List.filter_sublist
  have hb : ∀ x ∈ (l.held.filter fun y => !beginsL y.path t) ++ (l.waits.filter fun y => !beginsL y.path t), x ∈ l.held ++ l.waits ∧ beginsL x.path t = false := by
    intro x hx
    simp only [List.mem_append, List.mem_filter, Bool.not_eq_true'] at hx ⊢
    rcases hx with hx | hx
    · exact ⟨.inl hx.1, hx.2⟩
    · exact ⟨.inr hx.1, hx.2⟩
  refine map_sound hs2 (rhoL f t) (fun _ => rfl) (fun x hx => ?_) fun x hx y hy => rho_conf (hb x hx).2 (hb y hy).2
  have h1 := hs2.rt x hx
  have h2 := hp x (hb x hx).1 (hb x hx).2
  unfold rightL rhoL at *
  simp at h1 ⊢
  omega
theorem moved_sound {l : LocksL} (hs : SoundP l) {f t : Str} (hp : ∀ x ∈ l.held ++ l.waits, beginsL x.path t = false → (piL f t x.path).length ≤ 200) : SoundP (movedG rmt l f t) :=
  grG_sound (ren_sound hs.toSoundW hp)

/-! ### Scripts -/
def fiveL : List Str := [[97, 47], [98, 47], [97, 47, 98, 47], [99, 47], [100, 47]]
structure ScrP (n : Nat) (l : LocksL) : Prop where
  s : SoundP l
  n : l.held.length + l.waits.length ≤ n
  p : ∀ x ∈ l.held ++ l.waits, x.path ∈ fiveL

theorem grG_mem {l : LocksL} {x : LockL} (h : x ∈ (grG rmt l).l.held ++ (grG rmt l).l.waits) : x ∈ l.held ++ l.waits := by
  obtain ⟨d, e, h1, h2, h3, _⟩ := grG_spec l
  rw [h1] at h
  simp only [List.mem_append] at h ⊢
  rcases h with (h | h) | h
  · exact .inl h
  · exact .inr (h2.subset h)
  · exact .inr (h3.subset h)
theorem grG_len (l : LocksL) : (grG rmt l).l.held.length + (grG rmt l).l.waits.length = l.held.length + l.waits.length := by
  obtain ⟨d, e, h1, h2, h3, h4, _⟩ := grG_spec l
  rw [h1]
  simp
  omega
theorem drop_mem {l : LocksL} {y x : LockL} (h : x ∈ (dropG rmt l y).l.held ++ (dropG rmt l y).l.waits) : x ∈ l.held ++ l.waits := by
  unfold dropG at h
  split at h
  · have := grG_mem h
    simp only [List.mem_append] at this ⊢
    exact this.imp (fun h => (outL_sub _ _).subset h) id
  · split at h
    · have := grG_mem h
      simp only [List.mem_append] at this ⊢
      exact this.imp id fun h => (outL_sub _ _).subset h
    · exact h
theorem drop_len (l : LocksL) (y : LockL) : (dropG rmt l y).l.held.length + (dropG rmt l y).l.waits.length ≤ l.held.length + l.waits.length := by
  unfold dropG
  split
  · rw [grG_len]; have := (outL_sub l.held y).length_le; simp only; omega
  · split
    · rw [grG_len]; have := (outL_sub l.waits y).length_le; simp only; omega
    · exact Nat.le_refl _
theorem take_mem {l : LocksL} {y x : LockL} (h : x ∈ (rtakeL l y).1.held ++ (rtakeL l y).1.waits) : x ∈ l.held ++ l.waits ∨ x = y := by
  unfold rtakeL takeG at h
  split at h
  · exact .inl h
  · split at h
    · exact .inl h
    · split at h
      · simp only [List.mem_append, List.mem_singleton] at h ⊢
        rcases h with (h | h) | h
        · exact .inl (.inl h)
        · exact .inr h
        · exact .inl (.inr h)
      · split at h
        · exact .inl h
        · simp only [List.mem_append, List.mem_singleton] at h ⊢
          rcases h with h | h | h
          · exact .inl (.inl h)
          · exact .inl (.inr h)
          · exact .inr h
theorem take_len (l : LocksL) (y : LockL) : (rtakeL l y).1.held.length + (rtakeL l y).1.waits.length ≤ l.held.length + l.waits.length + 1 := by
  unfold rtakeL takeG
  split
  · simp
  · split
    · simp
    · split
      · simp; omega
      · split
        · simp
        · simp; omega
theorem path_five (n : Nat) : pathL n ∈ fiveL := by
  unfold pathL pathsL fiveL
  have : n % 4 < 4 := Nat.mod_lt _ (by omega)
  generalize n % 4 = m at this
  match m, this with
  | 0, _ => simp
  | 1, _ => simp
  | 2, _ => simp
  | 3, _ => simp
theorem five_len {p : Str} (h : p ∈ fiveL) : p.length ≤ 4 := by
  simp only [fiveL, List.mem_cons, List.not_mem_nil, or_false] at h
  rcases h with rfl | rfl | rfl | rfl | rfl <;> simp
theorem from_two (n : Nat) : fromL n = [98, 47] ∨ fromL n = [99, 47] := by unfold fromL; split <;> simp
theorem to_two (n : Nat) : toL n = [97, 47] ∨ toL n = [100, 47] := by unfold toL; split <;> simp
theorem pi_five {p : Str} (n m : Nat) (h : p ∈ fiveL) : piL (fromL n) (toL m) p ∈ fiveL := by
  have key : ∀ f ∈ ([[98, 47], [99, 47]] : List Str), ∀ t ∈ ([[97, 47], [100, 47]] : List Str), ∀ p ∈ fiveL, piL f t p ∈ fiveL := by decide
  exact key _ (by simpa using from_two n) _ (by simpa using to_two m) p h
theorem step_scr {n : Nat} {l : LocksL} (h : ScrP n l) (r : RawL) : ScrP (n + 1) (stepL l r) := by
  have mv : ∀ x ∈ l.held ++ l.waits, beginsL x.path (toL r.b) = false → (piL (fromL r.a) (toL r.b) x.path).length ≤ 200 := fun x hx _ => by
    have := five_len (pi_five r.a r.b (h.p x hx))
    omega
  unfold stepL
  split
  · exact ⟨drop_sound h.s _, Nat.le_trans (drop_len _ _) (by have := h.n; omega), fun x hx => h.p x (drop_mem hx)⟩
  · split
    · refine ⟨leave_sound h.s _, ?_, fun x hx => ?_⟩
      · unfold leaveG
        rw [grG_len]
        have h1 := (othersL_sub l.held (r.a % 5 : Nat)).length_le
        have h2 := (othersL_sub l.waits (r.a % 5 : Nat)).length_le
        have := h.n
        simp only
        omega
      · have := grG_mem hx
        simp only [List.mem_append] at this
        refine h.p x ?_
        rw [List.mem_append]
        exact this.imp (fun h => (othersL_sub _ _).subset h) fun h => (othersL_sub _ _).subset h
    · split
      · refine ⟨moved_sound h.s mv, ?_, fun x hx => ?_⟩
        · unfold movedG
          rw [grG_len]
          have h1 : (renL l.held (fromL r.a) (toL r.b)).length ≤ l.held.length := by rw [renL_eq, List.length_map]; exact List.length_filter_le _ _
          have h2 : (renL l.waits (fromL r.a) (toL r.b)).length ≤ l.waits.length := by rw [renL_eq, List.length_map]; exact List.length_filter_le _ _
          have := h.n
          simp only
          omega
        · have := grG_mem hx
          simp only [renL_eq, ← List.map_append, List.mem_map] at this
          obtain ⟨y, hy, rfl⟩ := this
          refine pi_five _ _ (h.p y ?_)
          simp only [List.mem_append, List.mem_filter] at hy ⊢
          exact hy.imp And.left And.left
      · refine ⟨take_sound h.s _, Nat.le_trans (take_len _ _) (by have := h.n; omega), fun x hx => ?_⟩
        rcases take_mem hx with hx | rfl
        · exact h.p x hx
        · exact path_five _
theorem play_scr (rs : List RawL) : ScrP rs.length (playL rs) := by
  have key : ∀ (rs : List RawL) (n : Nat) (l : LocksL), ScrP n l → ScrP (n + rs.length) (rs.foldl stepL l) := by
    intro rs
    induction rs with
    | nil => intro n l h; exact h
    | cons r rs ih =>
      intro n l h
      have := ih (n + 1) _ (step_scr h r)
      simp only [List.foldl_cons, List.length_cons]
      rw [show n + (rs.length + 1) = n + 1 + rs.length from by omega]
      exact this
  have := key rs 0 ⟨[], []⟩ ⟨soundP_nil, by simp, by simp⟩
  simpa [playL] using this
end Go.Pu
/- The program's search for a circle. -/
set_option linter.unusedVariables false
set_option linter.unusedSimpArgs false
namespace Go.Pu

def innerF (rec : List Int → Int → Bool × List Int) (o : Int) (x : LockL) : List LockL → List Int → Bool × List Int
  | [], ks => (false, ks)
  | y :: r, ks => if confL x y = false ∨ ks.contains y.own = true then innerF rec o x r ks else
    if y.own = o then (true, ks) else
    match rec (ks ++ [y.own]) y.own with
    | (true, ks') => (true, ks')
    | (false, ks') => innerF rec o x r ks'
def outerF (rec : List Int → Int → Bool × List Int) (held : List LockL) (o who : Int) : List LockL → List LockL → List Int → Bool × List Int
  | _, [], ks => (false, ks)
  | w0, x :: r, ks => if x.own = who then
      match innerF rec o x (held ++ w0) ks with
      | (true, ks') => (true, ks')
      | (false, ks') => outerF rec held o who (w0 ++ [x]) r ks'
    else outerF rec held o who (w0 ++ [x]) r ks
def reachF (l : LocksL) (o : Int) : Nat → List Int → Int → Bool × List Int
  | 0, ks, _ => (false, ks)
  | n + 1, ks, who => outerF (reachF l o n) l.held o who [] l.waits ks

abbrev pconf (y x : LockL) : Bool := confL x y
theorem Rch.cons {e : Int → Int → Prop} {a b c : Int} (h : e a b) (h' : Rch e b c) : Rch e a c := by
  induction h' with
  | one h2 => exact .more (.one h) h2
  | more _ h2 ih => exact .more ih h2

/-- What is known is closed, but for what was known before. -/
def ClK (e : Int → Int → Prop) (o : Int) (ks ks' : List Int) : Prop := (∀ k ∈ ks, k ∈ ks') ∧ o ∉ ks' ∧ ∀ k ∈ ks', k ∈ ks ∨ ∀ y, e k y → y ∈ ks'
theorem ClK.refl {e : Int → Int → Prop} {o : Int} {ks : List Int} (h : o ∉ ks) : ClK e o ks ks := ⟨fun _ h => h, h, fun _ h => .inl h⟩
theorem ClK.trans {e : Int → Int → Prop} {o : Int} {a b c : List Int} (h : ClK e o a b) (h' : ClK e o b c) : ClK e o a c := by
  refine ⟨fun k hk => h'.1 k (h.1 k hk), h'.2.1, fun k hk => ?_⟩
  rcases h'.2.2 k hk with h1 | h1
  · exact (h.2.2 k h1).imp id fun h2 y hy => h'.1 y (h2 y hy)
  · exact .inr h1
theorem unk_mono {os ks ks' : List Int} (h : ∀ k ∈ ks, k ∈ ks') : unk os ks' ≤ unk os ks := by
  unfold unk
  induction os with
  | nil => simp
  | cons o os ih =>
    simp only [List.filter_cons]
    by_cases h1 : o ∈ ks
    · have h2 := h o h1
      simp [h1, h2]
      simpa using ih
    · by_cases h2 : o ∈ ks'
      · simp [h1, h2]
        have := ih
        simp at this
        omega
      · simp [h1, h2]
        simpa using ih
end Go.Pu
/- The program's search for a circle: what it finds. -/
set_option linter.unusedVariables false
set_option linter.unusedSimpArgs false
namespace Go.Pu

/-- What a search from an owner tells. -/
def RSpec (l : LocksL) (o : Int) (ks : List Int) (who : Int) (r : Bool × List Int) : Prop :=
  (r.1 = true → Rch (Edge pconf l) who o) ∧ (r.1 = false → ClK (Edge pconf l) o ks r.2 ∧ ∀ y, Edge pconf l who y → y ∈ r.2)
def RecOk (l : LocksL) (o : Int) (rec : List Int → Int → Bool × List Int) (n : Nat) : Prop := ∀ ks who, unk (ownersL l) ks < n → o ∉ ks → RSpec l o ks who (rec ks who)

theorem inner_spec {l : LocksL} {o : Int} {rec : List Int → Int → Bool × List Int} {n : Nat} (hrec : RecOk l o rec n) {x : LockL} (who : Int) :
    ∀ (bs : List LockL) (ks : List Int), (∀ y ∈ bs, confL x y = true → Edge pconf l who y.own) → unk (ownersL l) ks < n + 1 → o ∉ ks →
    ((innerF rec o x bs ks).1 = true → Rch (Edge pconf l) who o) ∧
    ((innerF rec o x bs ks).1 = false → ClK (Edge pconf l) o ks (innerF rec o x bs ks).2 ∧ ∀ y ∈ bs, confL x y = true → y.own ∈ (innerF rec o x bs ks).2)
  | [], ks, hb, hu, ho => by
    simp only [innerF]
    exact ⟨fun h => (by cases h), fun _ => ⟨ClK.refl ho, by simp⟩⟩
  | y :: bs, ks, hb, hu, ho => by
    have hb' : ∀ z ∈ bs, confL x z = true → Edge pconf l who z.own := fun z hz => hb z (by simp [hz])
    rw [innerF]
    by_cases h1 : confL x y = false ∨ ks.contains y.own = true
    · rw [if_pos h1]
      obtain ⟨g1, g2⟩ := inner_spec hrec (x := x) who bs ks hb' hu ho
      refine ⟨g1, fun h => ⟨(g2 h).1, fun z hz hc => ?_⟩⟩
      rcases List.mem_cons.1 hz with rfl | hz
      · rcases h1 with h1 | h1
        · rw [h1] at hc; cases hc
        · exact (g2 h).1.1 _ (by simpa using h1)
      · exact (g2 h).2 z hz hc
    · rw [if_neg h1]
      simp only [not_or, Bool.not_eq_false, Bool.not_eq_true] at h1
      obtain ⟨h1, h2⟩ := h1
      have hE := hb y (by simp) h1
      by_cases h3 : y.own = o
      · rw [if_pos h3]
        exact ⟨fun _ => .one (h3 ▸ hE), fun h => (by cases h)⟩
      · rw [if_neg h3]
        have hlt := unk_lt (edge_owner hE) h2
        have hspec := hrec (ks ++ [y.own]) y.own (by omega) (by simp; exact ⟨ho, fun e => h3 e.symm⟩)
        rcases hr : rec (ks ++ [y.own]) y.own with ⟨b, ks'⟩
        rw [hr] at hspec
        cases b with
        | true => exact ⟨fun _ => .cons hE (hspec.1 rfl), fun h => (by cases h)⟩
        | false =>
          obtain ⟨s1, s2⟩ := hspec.2 rfl
          have hcl : ClK (Edge pconf l) o ks ks' := by
            refine ⟨fun k hk => s1.1 k (by simp [hk]), s1.2.1, fun k hk => ?_⟩
            rcases s1.2.2 k hk with h | h
            · simp only [List.mem_append, List.mem_singleton] at h
              rcases h with h | h
              · exact .inl h
              · exact .inr (h ▸ s2)
            · exact .inr h
          have hu' : unk (ownersL l) ks' < n + 1 := Nat.lt_of_le_of_lt (unk_mono hcl.1) hu
          obtain ⟨g1, g2⟩ := inner_spec hrec (x := x) who bs ks' hb' hu' hcl.2.1
          refine ⟨g1, fun h => ⟨hcl.trans (g2 h).1, fun z hz hc => ?_⟩⟩
          rcases List.mem_cons.1 hz with rfl | hz
          · exact (g2 h).1.1 _ (s1.1 _ (by simp))
          · exact (g2 h).2 z hz hc
theorem outer_spec {l : LocksL} {o : Int} {rec : List Int → Int → Bool × List Int} {n : Nat} (hrec : RecOk l o rec n) (who : Int) :
    ∀ (r w0 : List LockL) (ks : List Int), l.waits = w0 ++ r → unk (ownersL l) ks < n + 1 → o ∉ ks →
    ((outerF rec l.held o who w0 r ks).1 = true → Rch (Edge pconf l) who o) ∧
    ((outerF rec l.held o who w0 r ks).1 = false → ClK (Edge pconf l) o ks (outerF rec l.held o who w0 r ks).2 ∧
      ∀ i x y, r[i]? = some x → x.own = who → y ∈ l.held ++ (w0 ++ r.take i) → confL x y = true → y.own ∈ (outerF rec l.held o who w0 r ks).2)
  | [], w0, ks, hw, hu, ho => by
    simp only [outerF]
    exact ⟨fun h => (by cases h), fun _ => ⟨ClK.refl ho, by simp⟩⟩
  | x :: r, w0, ks, hw, hu, ho => by
    have hw' : l.waits = (w0 ++ [x]) ++ r := by rw [hw]; simp
    rw [outerF]
    by_cases h1 : x.own = who
    · rw [if_pos h1]
      have hb : ∀ y ∈ l.held ++ w0, confL x y = true → Edge pconf l who y.own := fun y hy hc => edge_split.2 ⟨w0, x, r, y, hw, h1, hy, hc, rfl⟩
      obtain ⟨g1, g2⟩ := inner_spec hrec (x := x) who (l.held ++ w0) ks hb hu ho
      rcases hr : innerF rec o x (l.held ++ w0) ks with ⟨b, ks'⟩
      rw [hr] at g1 g2
      cases b with
      | true => exact ⟨fun _ => g1 rfl, fun h => (by cases h)⟩
      | false =>
        obtain ⟨s1, s2⟩ := g2 rfl
        have hu' : unk (ownersL l) ks' < n + 1 := Nat.lt_of_le_of_lt (unk_mono s1.1) hu
        obtain ⟨k1, k2⟩ := outer_spec hrec who r (w0 ++ [x]) ks' hw' hu' s1.2.1
        refine ⟨k1, fun h => ⟨s1.trans (k2 h).1, fun i z y hz hzo hy hc => ?_⟩⟩
        cases i with
        | zero =>
          simp at hz
          subst hz
          exact (k2 h).1.1 _ (s2 y (by simpa using hy) hc)
        | succ i => exact (k2 h).2 i z y (by simpa using hz) hzo (by simpa [List.append_assoc] using hy) hc
    · rw [if_neg h1]
      obtain ⟨k1, k2⟩ := outer_spec hrec who r (w0 ++ [x]) ks hw' hu ho
      refine ⟨k1, fun h => ⟨(k2 h).1, fun i z y hz hzo hy hc => ?_⟩⟩
      cases i with
      | zero => simp at hz; subst hz; exact (h1 hzo).elim
      | succ i => exact (k2 h).2 i z y (by simpa using hz) hzo (by simpa [List.append_assoc] using hy) hc
theorem reach_spec (l : LocksL) (o : Int) : ∀ n, RecOk l o (reachF l o n) n
  | 0 => fun ks who h => by omega
  | n + 1 => fun ks who hu ho => by
    obtain ⟨g1, g2⟩ := outer_spec (reach_spec l o n) who l.waits [] ks rfl hu ho
    refine ⟨g1, fun h => ⟨(g2 h).1, fun y hy => ?_⟩⟩
    obtain ⟨i, x, z, e1, e2, e3, e4, rfl⟩ := hy
    exact (g2 h).2 i x z e1 e2 (by simpa using e3) e4
theorem reach_cyc (l : LocksL) (o : Int) : (reachF l o (unk (ownersL l) [] + 1) [] o).1 = cycB pconf l o := by
  obtain ⟨g1, g2⟩ := reach_spec l o (unk (ownersL l) [] + 1) [] o (by omega) (by simp)
  rw [Bool.eq_iff_iff, cycB_iff]
  refine ⟨g1, fun h => ?_⟩
  cases hb : (reachF l o (unk (ownersL l) [] + 1) [] o).1 with
  | true => rfl
  | false =>
    obtain ⟨s1, s2⟩ := g2 hb
    have := Rch.stays (S := fun z => z ∈ (reachF l o (unk (ownersL l) [] + 1) [] o).2) s2 (fun k hk y hy => (s1.2.2 k hk).elim (fun h => (by cases h)) fun h => h y hy) h
    exact (s1.2.1 this).elim
end Go.Pu
/- Locks: for right locks the program computes what the reference computes. -/
set_option linter.unusedVariables false
set_option linter.unusedSimpArgs false
namespace Go.Pu
abbrev pmt' (x : LockL) (l : List LockL) : Bool := meetsL x l
def RightL (l : LocksL) : Prop := ∀ x ∈ l.held ++ l.waits, rightL x = true
theorem right_lt {x : LockL} (h : rightL x = true) : x.lo < x.hi := by
  unfold rightL at h
  simp only [Bool.and_eq_true, decide_eq_true_eq] at h
  exact h.1.2
theorem conf_eq {x y : LockL} (hx : rightL x = true) (hy : rightL y = true) : confL x y = rconfL y x := by
  have h1 := right_lt hx
  have h2 := right_lt hy
  rw [rconf_symm]
  unfold confL rconfL
  have e : decide (max x.lo y.lo < min x.hi y.hi) = (decide (x.lo < y.hi) && decide (y.lo < x.hi)) := by
    rw [Bool.eq_iff_iff]
    simp only [Bool.and_eq_true, decide_eq_true_eq]
    omega
  rw [e, ← Bool.and_assoc]
theorem meets_eq {x : LockL} {l : List LockL} (hx : rightL x = true) (hl : ∀ y ∈ l, rightL y = true) : meetsL x l = rmeetsL l x := by
  unfold meetsL rmeetsL
  induction l with
  | nil => rfl
  | cons y l ih =>
    simp only [List.any_cons]
    rw [conf_eq hx (hl y (by simp)), ih fun z hz => hl z (by simp [hz])]
theorem allows_eq {l : LocksL} (hl : RightL l) (x : LockL) : allowsL l x = rallowsL l x := by
  unfold allowsL rallowsL
  cases hx : rightL x with
  | false => rfl
  | true =>
    rw [meets_eq hx fun y hy => hl y (by simp [hy]), meets_eq hx fun y hy => hl y (by simp [hy]), Bool.not_or]
    simp
theorem edge_eq {l : LocksL} (hl : RightL l) (a b : Int) : Edge pconf l a b ↔ Edge rconfL l a b := by
  unfold Edge
  constructor
  · rintro ⟨i, x, y, h1, h2, h3, h4, h5⟩
    refine ⟨i, x, y, h1, h2, h3, ?_, h5⟩
    rw [← h4]
    exact (conf_eq (hl x (by simp [List.mem_of_getElem? h1])) (hl y (by
      rw [List.mem_append] at h3 ⊢
      exact h3.imp id List.mem_of_mem_take))).symm
  · rintro ⟨i, x, y, h1, h2, h3, h4, h5⟩
    refine ⟨i, x, y, h1, h2, h3, ?_, h5⟩
    rw [← h4]
    exact conf_eq (hl x (by simp [List.mem_of_getElem? h1])) (hl y (by
      rw [List.mem_append] at h3 ⊢
      exact h3.imp id List.mem_of_mem_take))
theorem cyc_eq {l : LocksL} (hl : RightL l) (o : Int) : cycB pconf l o = cycB rconfL l o := by
  rw [Bool.eq_iff_iff, cycB_iff, cycB_iff]
  exact ⟨Rch.mono fun a b => (edge_eq hl a b).1, Rch.mono fun a b => (edge_eq hl a b).2⟩
theorem take_eq {l : LocksL} (hl : RightL l) (x : LockL) : takeG allowsL (cycB pconf) l x = rtakeL l x := by
  unfold rtakeL takeG
  rw [allows_eq hl]
  cases hx : rightL x with
  | false => rfl
  | true =>
    have : RightL ⟨l.held, l.waits ++ [x]⟩ := by
      intro y hy
      simp only [List.mem_append, List.mem_singleton] at hy
      rcases hy with h | h | h
      · exact hl y (by simp [h])
      · exact hl y (by simp [h])
      · rw [h]; exact hx
    rw [cyc_eq this]
theorem grantF_eq : ∀ (r h w g : List LockL), (∀ x ∈ r, rightL x = true) → (∀ x ∈ h, rightL x = true) → (∀ x ∈ w, rightL x = true) → grantF pmt' r h w g = grantF rmt r h w g
  | [], h, w, g, _, _, _ => rfl
  | x :: r, h, w, g, hr, hh, hw => by
    have hx := hr x (by simp)
    have hr' : ∀ y ∈ r, rightL y = true := fun y hy => hr y (by simp [hy])
    rw [grantF, grantF]
    have e1 : pmt' x h = rmt x h := meets_eq hx hh
    have e2 : pmt' x w = rmt x w := meets_eq hx hw
    rw [e1, e2]
    split
    · exact grantF_eq r h (w ++ [x]) g hr' hh fun y hy => by
        rcases List.mem_append.1 hy with h | h
        · exact hw y h
        · rw [List.mem_singleton.1 h]; exact hx
    · exact grantF_eq r (h ++ [x]) w (g ++ [x]) hr' (fun y hy => by
        rcases List.mem_append.1 hy with h | h
        · exact hh y h
        · rw [List.mem_singleton.1 h]; exact hx) hw
theorem grG_eq {l : LocksL} (hl : RightL l) : grG pmt' l = grG rmt l := by
  unfold grG
  rw [grantF_eq _ _ _ _ (fun y hy => hl y (by simp [hy])) (fun y hy => hl y (by simp [hy])) (by simp)]
theorem drop_eq {l : LocksL} (hl : RightL l) (x : LockL) : dropG pmt' l x = dropG rmt l x := by
  unfold dropG
  have h1 : RightL ⟨outL l.held x, l.waits⟩ := fun y hy => hl y (by
    simp only [List.mem_append] at hy ⊢
    exact hy.imp (fun h => (outL_sub _ _).subset h) id)
  have h2 : RightL ⟨l.held, outL l.waits x⟩ := fun y hy => hl y (by
    simp only [List.mem_append] at hy ⊢
    exact hy.imp id fun h => (outL_sub _ _).subset h)
  rw [grG_eq h1, grG_eq h2]
theorem leave_eq {l : LocksL} (hl : RightL l) (o : Int) : leaveG pmt' l o = leaveG rmt l o := by
  unfold leaveG
  exact grG_eq fun y hy => hl y (by
    simp only [List.mem_append] at hy ⊢
    exact hy.imp (fun h => (othersL_sub _ _).subset h) fun h => (othersL_sub _ _).subset h)
theorem ren_right {l : LocksL} (hl : RightL l) {f t : Str} (hp : ∀ x ∈ l.held ++ l.waits, beginsL x.path t = false → (piL f t x.path).length ≤ 200) : RightL ⟨renL l.held f t, renL l.waits f t⟩ := by
  intro y hy
  rw [renL_eq, renL_eq, ← List.map_append, ← List.filter_append, List.mem_map] at hy
  obtain ⟨x, hx, rfl⟩ := hy
  rw [List.mem_filter] at hx
  have h1 := hl x hx.1
  have h2 := hp x hx.1 (by simpa using hx.2)
  unfold rightL rhoL at *
  simp only [Bool.and_eq_true, decide_eq_true_eq] at h1 ⊢
  simp only [h1, h2, and_self]
theorem moved_eq {l : LocksL} (hl : RightL l) {f t : Str} (hp : ∀ x ∈ l.held ++ l.waits, beginsL x.path t = false → (piL f t x.path).length ≤ 200) : movedG pmt' l f t = movedG rmt l f t := by
  unfold movedG
  rw [grG_eq (ren_right hl hp)]
end Go.Pu
/- Locks: what Sound looks at. -/
set_option linter.unusedVariables false
set_option linter.unusedSimpArgs false
namespace Go.Pu
theorem SoundP.cycB {l : LocksL} (h : SoundP l) (o : Int) : cycB rconfL l o = false := cycB_false.2 (h.cyc o)
theorem SoundP.at {l : LocksL} (h : SoundP l) {i : Nat} {x : LockL} (hx : (l.held ++ l.waits)[i]? = some x) : rmeetsL ((l.held ++ l.waits).take i) x = decide (l.held.length ≤ i) := by
  by_cases hi : l.held.length ≤ i
  · have e1 : decide (l.held.length ≤ i) = true := by simpa using hi
    rw [e1]
    have e2 : (l.held ++ l.waits).take i = l.held ++ l.waits.take (i - l.held.length) := by
      rw [List.take_append, List.take_of_length_le hi]
    rw [List.getElem?_append_right hi] at hx
    rw [e2]
    rcases h.why _ _ hx with hw | hw
    · exact rmeets_mono (fun y hy => by simp [hy]) hw
    · exact rmeets_mono (fun y hy => by simp [hy]) hw
  · have e1 : decide (l.held.length ≤ i) = false := by simpa using hi
    rw [e1]
    have hi' : i < l.held.length := by omega
    rw [List.getElem?_append_left hi'] at hx
    rw [List.take_append_of_le_length (by omega)]
    rw [rmeets_false]
    intro y hy
    have hp := h.apart
    have hs : l.held = l.held.take i ++ x :: l.held.drop (i + 1) := by
      obtain ⟨g1, g2⟩ := List.getElem?_eq_some_iff.1 hx
      rw [← g2, ← List.drop_eq_getElem_cons, List.take_append_drop]
    rw [hs, List.pairwise_append] at hp
    exact hp.2.2 y hy x (by simp)
end Go.Pu
/- Locks: what the laws need. -/
set_option linter.unusedVariables false
set_option linter.unusedSimpArgs false
namespace Go.Pu
theorem lock_right (r : RawL) : rightL (lockL r) = true := by
  have := five_len (path_five r.b)
  unfold rightL lockL
  simp only [Bool.and_eq_true, decide_eq_true_eq]
  have h1 : r.c % 8 < 8 := Nat.mod_lt _ (by omega)
  have h2 : r.d % 8 < 8 := Nat.mod_lt _ (by omega)
  have h3 : r.a % 5 < 5 := Nat.mod_lt _ (by omega)
  refine ⟨⟨⟨⟨⟨by omega, by omega⟩, by omega⟩, by omega⟩, by omega⟩, by omega⟩
theorem SoundW.right {l : LocksL} (h : SoundW l) : RightL l := h.rt
noncomputable abbrev ptakeG : LocksL → LockL → LocksL × Bool × Int := takeG allowsL (cycB pconf)
/-- Taking a right lock where there is room. -/
theorem take_cases {l : LocksL} (h : SoundP l) {x : LockL} (hx : rightL x = true) (hn : l.held.length + l.waits.length < 32) :
    (allowsL l x = true ∧ ptakeG l x = (⟨l.held ++ [x], l.waits⟩, true, 0)) ∨
    (allowsL l x = false ∧ cycB rconfL ⟨l.held, l.waits ++ [x]⟩ x.own = true ∧ ptakeG l x = (l, false, 321)) ∨
    (allowsL l x = false ∧ cycB rconfL ⟨l.held, l.waits ++ [x]⟩ x.own = false ∧ ptakeG l x = (⟨l.held, l.waits ++ [x]⟩, false, 0)) := by
  have e : ptakeG l x = rtakeL l x := take_eq h.toSoundW.right x
  rw [e, allows_eq h.toSoundW.right]
  unfold rtakeL takeG
  rw [if_neg (by simp [hx]), if_neg (by omega)]
  cases h1 : rallowsL l x with
  | true => exact .inl ⟨rfl, by rw [if_pos rfl]⟩
  | false =>
    rw [if_neg (by simp)]
    cases h2 : cycB rconfL ⟨l.held, l.waits ++ [x]⟩ x.own with
    | true => exact .inr (.inl ⟨rfl, rfl, by rw [if_pos rfl]⟩)
    | false => exact .inr (.inr ⟨rfl, rfl, by rw [if_neg (by simp)]⟩)
end Go.Pu
/- Locks: the end of all locks. -/
set_option linter.unusedVariables false
set_option linter.unusedSimpArgs false
namespace Go.Pu
theorem outL_len {l : List LockL} {x : LockL} (h : x ∈ l) : (outL l x).length + 1 = l.length := by
  have h1 : l.findIdx (· == x) < l.length := List.findIdx_lt_length_of_exists ⟨x, h, by simp⟩
  unfold outL withoutL
  simp
  omega
theorem ends_step {s : LocksL} (hs : SoundP s) {x : LockL} (hx : x ∈ s.held) :
    (dropG rmt s x).e = 0 ∧ (dropG rmt s x).l.held.length + (dropG rmt s x).l.waits.length + 1 = s.held.length + s.waits.length ∧
    (dropG rmt s x).g.length + (dropG rmt s x).l.waits.length = s.waits.length ∧ SoundP (dropG rmt s x).l := by
  have h0 := drop_sound hs x
  have e : dropG rmt s x = grG rmt ⟨outL s.held x, s.waits⟩ := by unfold dropG; rw [if_pos hx]
  have hl := outL_len hx
  obtain ⟨d, w, h1, h2, h3, h4, _⟩ := grG_spec ⟨outL s.held x, s.waits⟩
  rw [e, h1] at h0 ⊢
  refine ⟨rfl, ?_, ?_, h0⟩
  · simp only [List.length_append] at h4 ⊢
    omega
  · exact h4
theorem ends_none {s : LocksL} (hs : SoundP s) (h : s.held = []) : s.waits = [] := by
  cases hw : s.waits with
  | nil => rfl
  | cons x r =>
    have := hs.why 0 x (by rw [hw]; rfl)
    rw [h] at this
    simp [rmeetsL] at this
end Go.Pu
/- Locks: how much there is. -/
set_option linter.unusedVariables false
set_option linter.unusedSimpArgs false
namespace Go.Pu
theorem grG_glen (l : LocksL) : (grG rmt l).g.length ≤ l.waits.length := by
  obtain ⟨d, e, h1, h2, h3, h4, _⟩ := grG_spec l
  rw [h1]
  exact h2.length_le
theorem drop_glen (l : LocksL) (y : LockL) : (dropG rmt l y).g.length ≤ l.waits.length := by
  unfold dropG
  split
  · exact grG_glen _
  · split
    · exact Nat.le_trans (grG_glen _) (outL_sub _ _).length_le
    · simp
theorem leave_glen (l : LocksL) (o : Int) : (leaveG rmt l o).g.length ≤ l.waits.length := Nat.le_trans (grG_glen _) (othersL_sub _ _).length_le
theorem leave_len (l : LocksL) (o : Int) : (leaveG rmt l o).l.held.length + (leaveG rmt l o).l.waits.length ≤ l.held.length + l.waits.length := by
  unfold leaveG
  rw [grG_len]
  exact Nat.add_le_add (othersL_sub _ _).length_le (othersL_sub _ _).length_le
theorem moved_len (l : LocksL) (f t : Str) : (movedG rmt l f t).held.length + (movedG rmt l f t).waits.length ≤ l.held.length + l.waits.length := by
  unfold movedG
  rw [grG_len, renL_eq, renL_eq]
  simp only [List.length_map]
  exact Nat.add_le_add (List.length_filter_le _ _) (List.length_filter_le _ _)
theorem pi_len {f t p : Str} : (piL f t p).length ≤ t.length + p.length := by
  unfold piL
  split
  · simp
  · omega
end Go.Pu
/- Locks: leaving; taking and giving back. -/
set_option linter.unusedVariables false
set_option linter.unusedSimpArgs false
namespace Go.Pu
/-- Where locks are sound, nothing is granted. -/
theorem grG_fix {s : LocksL} (hs : SoundP s) : grG rmt s = ⟨s, [], 0⟩ := by
  have key : ∀ (r w : List LockL), w ++ r = s.waits → grantF rmt r s.held w [] = (s.held, s.waits, []) := by
    intro r
    induction r with
    | nil => intro w h; simp at h; simp [grantF, h]
    | cons x r ih =>
      intro w h
      have hx : s.waits[w.length]? = some x := by rw [← h]; simp
      have ht : s.waits.take w.length = w := by rw [← h]; simp
      have hw := hs.why _ _ hx
      rw [ht] at hw
      rw [grantF, if_pos (by simpa [rmt] using hw)]
      exact ih (w ++ [x]) (by rw [← h]; simp)
  unfold grG
  rw [key s.waits [] rfl]
theorem outL_app {l : List LockL} {y : LockL} (h : y ∉ l) : outL (l ++ [y]) y = l := by
  have : (l ++ [y]).findIdx (· == y) = l.length := by
    rw [List.findIdx_append]
    have h1 : l.findIdx (· == y) = l.length := List.findIdx_eq_length.2 fun x hx => by
      simp only [beq_eq_false_iff_ne, ne_eq]
      rintro rfl
      exact h hx
    rw [h1]
    simp
  unfold outL withoutL
  rw [this]
  simp
theorem back_held {s : LocksL} (hs : SoundP s) {y : LockL} (h : y ∉ s.held) : dropG rmt ⟨s.held ++ [y], s.waits⟩ y = ⟨s, [], 0⟩ := by
  unfold dropG
  rw [if_pos (by simp)]
  simp only [outL_app h]
  exact grG_fix hs
theorem back_waits {s : LocksL} (hs : SoundP s) {y : LockL} (h : y ∉ s.held) (h2 : y ∉ s.waits) : dropG rmt ⟨s.held, s.waits ++ [y]⟩ y = ⟨s, [], 0⟩ := by
  unfold dropG
  rw [if_neg h, if_pos (by simp)]
  simp only [outL_app h2]
  exact grG_fix hs
/-- Who is left. -/
theorem leave_left {s : LocksL} {o : Int} {z : LockL} (h : z ∈ (leaveG rmt s o).l.held ++ (leaveG rmt s o).l.waits) : (z.own == o) = false := by
  have := grG_mem h
  simp only [othersL, List.mem_append, List.mem_filter, Bool.not_eq_true'] at this
  rcases this with h | h <;> exact h.2
theorem leave_kept {s : LocksL} {o : Int} {z : LockL} (h : z ∈ s.held ++ s.waits) (ho : (z.own == o) = false) : z ∈ (leaveG rmt s o).l.held ++ (leaveG rmt s o).l.waits := by
  obtain ⟨d, e, h1, h2, h3, h4, h5, _⟩ := grG_spec ⟨othersL s.held o, othersL s.waits o⟩
  unfold leaveG
  rw [h1]
  simp only [List.mem_append] at h ⊢
  rcases h with h | h
  · exact .inl (.inl (List.mem_filter.2 ⟨h, by simp [ho]⟩))
  · rcases h5 z (List.mem_filter.2 ⟨h, by simp [ho]⟩) with h | h
    · exact .inl (.inr h)
    · exact .inr h
def cntO (o : Int) (l : List LockL) : Nat := (othersL l o).length
theorem leave_cnt (s : LocksL) (o : Int) : cntO o (s.held ++ s.waits) = ((leaveG rmt s o).l.held ++ (leaveG rmt s o).l.waits).length := by
  unfold cntO leaveG
  rw [List.length_append, grG_len]
  simp [othersL]
theorem cntO_le (o : Int) (l : List LockL) : cntO o l ≤ l.length := List.length_filter_le _ _
theorem cntO_step {o : Int} {l : List LockL} {i : Nat} {x : LockL} (h : l[i]? = some x) : cntO o (l.take (i + 1)) = cntO o (l.take i) + if (x.own == o) = true then 0 else 1 := by
  unfold cntO othersL
  rw [List.take_add_one, h, Option.toList, List.filter_append, List.length_append]
  congr 1
  simp only [List.filter_cons, List.filter_nil]
  split <;> split <;> simp_all
end Go.Pu
/- Locks: the order in which they are granted. -/
set_option linter.unusedVariables false
set_option linter.unusedSimpArgs false
namespace Go.Pu
structure OrdP (s : LocksL) (G : GrL) : Prop where
  sub : G.g.Sublist s.waits
  hd : ∃ h, G.l.held = h ++ G.g
  ap : ∀ x ∈ G.g, rmeetsL G.l.held x = false
  wy : WhyP G.l
  n : G.l.held.length + G.l.waits.length ≤ s.held.length + s.waits.length
theorem rconf_self (x : LockL) : rconfL x x = false := by unfold rconfL; simp
theorem apart_meets {l : List LockL} (h : l.Pairwise fun a b => rconfL a b = false) {x : LockL} (hx : x ∈ l) : rmeetsL l x = false := by
  rw [rmeets_false]
  intro y hy
  induction l with
  | nil => cases hx
  | cons z l ih =>
    rw [List.pairwise_cons] at h
    rcases List.mem_cons.1 hx with rfl | hx'
    · rcases List.mem_cons.1 hy with rfl | hy'
      · exact rconf_self y
      · rw [rconf_symm]; exact h.1 y hy'
    · rcases List.mem_cons.1 hy with rfl | hy'
      · exact h.1 x hx'
      · exact ih h.2 hx' hy'
theorem grG_ord {s l : LocksL} (hs : SoundP s) (h1 : l.held.Sublist s.held) (h2 : l.waits.Sublist s.waits) : OrdP s (grG rmt l) := by
  have hl := hs.toSoundW.sub h1 h2
  have hg := grG_sound hl
  have hn := grG_len l
  obtain ⟨d, e, g1, g2, g3, g4, _⟩ := grG_spec l
  rw [g1] at hg hn ⊢
  have a1 := h1.length_le
  have a2 := h2.length_le
  exact ⟨g2.trans h2, ⟨_, rfl⟩, fun x hx => apart_meets hg.apart (by simp [hx]), hg.why, by simp only at hn ⊢; omega⟩
theorem leave_ord {s : LocksL} (hs : SoundP s) (o : Int) : OrdP s (leaveG rmt s o) := grG_ord hs (othersL_sub _ _) (othersL_sub _ _)
theorem drop_ord {s : LocksL} (hs : SoundP s) {x : LockL} (hx : x ∈ s.held) : OrdP s (dropG rmt s x) := by
  unfold dropG
  rw [if_pos hx]
  exact grG_ord hs (outL_sub _ _) (List.Sublist.refl _)
/-- Looking for a list in another one, step by step. -/
theorem sub_step {g w : List LockL} {x y : LockL} (h : (y :: g).Sublist (x :: w)) : if x = y then g.Sublist w else (y :: g).Sublist w := by
  split
  · rename_i e
    subst e
    exact List.Sublist.of_cons_cons h
  · rename_i e
    cases h with
    | cons _ h => exact h
    | cons_cons _ h => exact (e rfl).elim
end Go.Pu
/- Locks: renaming a path and renaming it back. -/
set_option linter.unusedVariables false
set_option linter.unusedSimpArgs false
namespace Go.Pu
def fourL : List Str := [[97, 47], [98, 47], [99, 47], [97, 47, 98, 47]]
def fourAt (n : Nat) : Str := (fourL[n % 4]?).getD []
theorem four_mem (n : Nat) : fourAt n ∈ fourL := by
  unfold fourAt fourL
  have : n % 4 < 4 := Nat.mod_lt _ (by omega)
  generalize n % 4 = m at this
  match m, this with
  | 0, _ => simp
  | 1, _ => simp
  | 2, _ => simp
  | 3, _ => simp
theorem four_len {f : Str} (h : f ∈ fourL) : f.length ≤ 4 := by
  simp only [fourL, List.mem_cons, List.not_mem_nil, or_false] at h
  rcases h with rfl | rfl | rfl | rfl <;> simp
abbrev xL : Str := [120, 47]
theorem five_x : ∀ p ∈ fiveL, beginsL p xL = false := by decide
theorem five_there : ∀ f ∈ fourL, ∀ p ∈ fiveL, beginsL (piL f xL p) f = false := by decide
theorem five_back : ∀ f ∈ fourL, ∀ p ∈ fiveL, piL xL f (piL f xL p) = p := by decide
theorem five_over : ∀ p ∈ fiveL, beginsL p [97, 47] = false → beginsL (piL [99, 47] [97, 47] p) [99, 47] = false ∧ beginsL (piL [99, 47] [97, 47] p) [97, 47, 98, 47] = false := by decide
def thereL (s : LocksL) (f : Str) : LocksL := ⟨s.held.map (rhoL f xL), s.waits.map (rhoL f xL)⟩
theorem ren_all {l : List LockL} {f t : Str} (h : ∀ x ∈ l, beginsL x.path t = false) : renL l f t = l.map (rhoL f t) := by
  rw [renL_eq, List.filter_eq_self.2 fun x hx => by rw [h x hx]; rfl]
theorem there_ren {n : Nat} {s : LocksL} (hs : ScrP n s) (f : Str) : renL s.held f xL = s.held.map (rhoL f xL) ∧ renL s.waits f xL = s.waits.map (rhoL f xL) :=
  ⟨ren_all fun x hx => five_x _ (hs.p x (by simp [hx])), ren_all fun x hx => five_x _ (hs.p x (by simp [hx]))⟩
theorem meets_map {f t : Str} {l : List LockL} {x : LockL} (hx : beginsL x.path t = false) (hl : ∀ y ∈ l, beginsL y.path t = false) : rmeetsL (l.map (rhoL f t)) (rhoL f t x) = rmeetsL l x := by
  unfold rmeetsL
  rw [List.any_map]
  induction l with
  | nil => rfl
  | cons y l ih =>
    simp only [List.any_cons, Function.comp]
    rw [rho_conf (hl y (by simp)) hx]
    congr 1
    exact ih fun z hz => hl z (by simp [hz])
theorem there_sound {n : Nat} {s : LocksL} (hs : ScrP n s) {f : Str} (hf : f ∈ fourL) : SoundP (thereL s f) := by
  have hp : ∀ x ∈ s.held ++ s.waits, beginsL x.path xL = false → (piL f xL x.path).length ≤ 200 := fun x hx _ => by
    have h1 := five_len (hs.p x hx)
    have h2 := pi_len (f := f) (t := xL) (p := x.path)
    have : xL.length = 2 := rfl
    omega
  have hw := ren_sound hs.s.toSoundW hp
  obtain ⟨e1, e2⟩ := there_ren hs f
  rw [e1, e2] at hw
  refine ⟨hw, fun i x hx => ?_⟩
  unfold thereL at hx ⊢
  simp only [List.getElem?_map] at hx
  obtain ⟨y, hy, rfl⟩ := Option.map_eq_some_iff.1 hx
  have hx1 := five_x _ (hs.p y (by simp [List.mem_of_getElem? hy]))
  simp only
  rw [← List.map_take, meets_map hx1 fun z hz => five_x _ (hs.p z (by simp [hz])), meets_map hx1 fun z hz => five_x _ (hs.p z (by simp [List.mem_of_mem_take hz]))]
  exact hs.s.why i y hy
theorem mv_there {n : Nat} {s : LocksL} (hs : ScrP n s) {f : Str} (hf : f ∈ fourL) : movedG rmt s f xL = thereL s f := by
  obtain ⟨e1, e2⟩ := there_ren hs f
  unfold movedG
  rw [e1, e2]
  rw [show (⟨s.held.map (rhoL f xL), s.waits.map (rhoL f xL)⟩ : LocksL) = thereL s f from rfl, grG_fix (there_sound hs hf)]
theorem rho_back {n : Nat} {s : LocksL} (hs : ScrP n s) {f : Str} (hf : f ∈ fourL) {x : LockL} (hx : x ∈ s.held ++ s.waits) : rhoL xL f (rhoL f xL x) = x := by
  have := five_back f hf _ (hs.p x hx)
  unfold rhoL
  simp only
  rw [this]
theorem mv_back {n : Nat} {s : LocksL} (hs : ScrP n s) {f : Str} (hf : f ∈ fourL) : movedG rmt (thereL s f) xL f = s := by
  have key : ∀ l : List LockL, (∀ x ∈ l, x ∈ s.held ++ s.waits) → renL (l.map (rhoL f xL)) xL f = l := by
    intro l hl
    rw [ren_all, List.map_map]
    · conv => rhs; rw [← List.map_id l]
      exact List.map_congr_left fun x hx => rho_back hs hf (hl x hx)
    · intro x hx
      obtain ⟨y, hy, rfl⟩ := List.mem_map.1 hx
      exact five_there f hf _ (hs.p y (hl y hy))
  unfold movedG thereL
  rw [key _ fun x hx => by simp [hx], key _ fun x hx => by simp [hx], grG_fix hs.s]
theorem there_path {n : Nat} {s : LocksL} (hs : ScrP n s) {f : Str} {x : LockL} (hx : x ∈ (thereL s f).held ++ (thereL s f).waits) : x.path.length ≤ 6 := by
  unfold thereL at hx
  simp only [← List.map_append, List.mem_map] at hx
  obtain ⟨y, hy, rfl⟩ := hx
  have h1 := five_len (hs.p y hy)
  have h2 := pi_len (f := f) (t := xL) (p := y.path)
  have h3 : xL.length = 2 := rfl
  show (piL f xL y.path).length ≤ 6
  omega
theorem over_held {n : Nat} {s : LocksL} (hs : ScrP n s) {x : LockL} (hx : x ∈ (movedG rmt s [99, 47] [97, 47]).held) : beginsL x.path [99, 47] = false ∧ beginsL x.path [97, 47, 98, 47] = false := by
  have := grG_mem (l := ⟨renL s.held [99, 47] [97, 47], renL s.waits [99, 47] [97, 47]⟩) (x := x) (by rw [List.mem_append]; exact .inl hx)
  simp only [renL_eq, ← List.map_append, List.mem_map, ← List.filter_append] at this
  obtain ⟨y, hy, rfl⟩ := this
  rw [List.mem_filter] at hy
  exact five_over _ (hs.p y hy.1) (by simpa using hy.2)
end Go.Pu
/- Locks: what is refused. -/
set_option linter.unusedVariables false
set_option linter.unusedSimpArgs false
namespace Go.Pu
theorem conf_path {x y : LockL} (h : x.path ≠ y.path) : confL x y = false := by unfold confL; simp [h]
theorem conf_own {x y : LockL} (h : x.own = y.own) : confL x y = false := by unfold confL; simp [h]
def refX (k : Nat) (m : Int) : LockL :=
  match k % 4 with
  | 0 => ⟨m, [121], 0, 60000, false⟩
  | 1 => ⟨7, [121], m, 60000, false⟩
  | 2 => ⟨7, [121], 0, m, false⟩
  | _ => ⟨7, List.replicate (199 + k / 4 % 4) 0, 0, 60000, false⟩
theorem ref0 {k : Nat} {m : Int} (h : k % 4 = 0) : refX k m = ⟨m, [121], 0, 60000, false⟩ := by unfold refX; rw [h]; rfl
theorem ref1 {k : Nat} {m : Int} (h : k % 4 = 1) : refX k m = ⟨7, [121], m, 60000, false⟩ := by unfold refX; rw [h]; rfl
theorem ref2 {k : Nat} {m : Int} (h : k % 4 = 2) : refX k m = ⟨7, [121], 0, m, false⟩ := by unfold refX; rw [h]; rfl
theorem ref3 {k : Nat} {m : Int} (h : k % 4 = 3) : refX k m = ⟨7, List.replicate (199 + k / 4 % 4) 0, 0, 60000, false⟩ := by unfold refX; rw [h]; rfl
theorem refX_path (k : Nat) (m : Int) : (refX k m).path ∉ fiveL := by
  have h4 : k % 4 < 4 := Nat.mod_lt _ (by omega)
  have hc : k % 4 = 0 ∨ k % 4 = 1 ∨ k % 4 = 2 ∨ k % 4 = 3 := by omega
  rcases hc with h | h | h | h
  · rw [ref0 h]; show ([121] : Str) ∉ fiveL; decide
  · rw [ref1 h]; show ([121] : Str) ∉ fiveL; decide
  · rw [ref2 h]; show ([121] : Str) ∉ fiveL; decide
  · rw [ref3 h]
    intro hm
    have := five_len hm
    simp only [List.length_replicate] at this
    omega
/-- Locks of the script, and of owner 8. -/
structure RefP (S : LocksL) (i : Nat) : Prop where
  n : S.held.length + S.waits.length = i
  p : ∀ x ∈ S.held ++ S.waits, x.path ∈ fiveL ∨ x.own = 8
theorem RefP.start {n : Nat} {s : LocksL} (hs : ScrP n s) : RefP s (s.held.length + s.waits.length) := ⟨rfl, fun x hx => .inl (hs.p x hx)⟩
theorem refP_allows {S : LocksL} (h : ∀ y ∈ S.held ++ S.waits, y.path ∈ fiveL ∨ y.own = 8) {x : LockL} (hx : x.path ∉ fiveL) (hr : rightL x = true) (ho : (∀ y ∈ S.held ++ S.waits, y.path ∈ fiveL) ∨ x.own = 8) : allowsL S x = true := by
  have key : ∀ y ∈ S.held ++ S.waits, confL x y = false := by
    intro y hy
    rcases h y hy with h1 | h1
    · exact conf_path (fun e => hx (e ▸ h1))
    · rcases ho with h2 | h2
      · exact conf_path (fun e => hx (e ▸ h2 y hy))
      · exact conf_own (h2.trans h1.symm)
  unfold allowsL meetsL
  rw [hr]
  have e : ∀ l : List LockL, (∀ y ∈ l, y ∈ S.held ++ S.waits) → (l.any fun y => confL x y) = false := by
    intro l hl
    rw [List.any_eq_false]
    intro y hy
    rw [key y (hl y hy)]
    simp
  rw [e _ fun y hy => by simp [hy], e _ fun y hy => by simp [hy]]
  rfl
theorem take_ok {S : LocksL} {x : LockL} (hr : rightL x = true) (hn : S.held.length + S.waits.length < 32) (ha : allowsL S x = true) : ptakeG S x = (⟨S.held ++ [x], S.waits⟩, true, 0) := by
  unfold ptakeG takeG
  rw [if_neg (by simp [hr]), if_neg (by omega), if_pos ha]
theorem take_bad {S : LocksL} {x : LockL} (hr : rightL x = false) : ptakeG S x = (S, false, 1) := by
  unfold ptakeG takeG
  rw [if_pos hr]
theorem take_full {S : LocksL} {x : LockL} (hr : rightL x = true) (hn : S.held.length + S.waits.length = 32) : ptakeG S x = (S, false, 322) := by
  unfold ptakeG takeG
  rw [if_neg (by simp [hr]), if_pos (by omega)]
theorem allows_bad {S : LocksL} {x : LockL} (hr : rightL x = false) : allowsL S x = false := by unfold allowsL; rw [hr]; rfl
def wL (i : Int) : LockL := ⟨8, [119], i, i + 1, false⟩
theorem w_right {i : Nat} (h : i < 59999) : rightL (wL i) = true := by
  unfold rightL wL
  simp only [Bool.and_eq_true, decide_eq_true_eq, List.length_cons, List.length_nil]
  refine ⟨⟨⟨⟨⟨by omega, by omega⟩, by omega⟩, by omega⟩, by omega⟩, by omega⟩
theorem w_path (i : Int) : (wL i).path ∉ fiveL := by show ([119] : Str) ∉ fiveL; decide
theorem RefP.step {S : LocksL} {i : Nat} (h : RefP S i) (hi : i < 32) : ptakeG S (wL i) = (⟨S.held ++ [wL i], S.waits⟩, true, 0) ∧ RefP ⟨S.held ++ [wL i], S.waits⟩ (i + 1) := by
  refine ⟨take_ok (w_right (by omega)) (by rw [h.n]; omega) (refP_allows h.p (w_path _) (w_right (by omega)) (.inr rfl)), ?_, ?_⟩
  · have := h.n
    simp
    omega
  · intro x hx
    simp only [List.mem_append, List.mem_singleton] at hx
    rcases hx with (hx | hx) | hx
    · exact h.p x (by simp [hx])
    · rw [hx]; exact .inr rfl
    · exact h.p x (by simp [hx])
def zLk : LockL := ⟨7, [122], 0, 1, false⟩
theorem gone_drop {n : Nat} {s : LocksL} (hs : ScrP n s) (m : LockL → List LockL → Bool) : dropG m s zLk = ⟨s, [], 330⟩ := by
  have h : zLk ∉ s.held ++ s.waits := fun h => by
    have := hs.p _ h
    exact absurd this (by show ([122] : Str) ∉ fiveL; decide)
  unfold dropG
  rw [if_neg fun h1 => h (by simp [h1]), if_neg fun h1 => h (by simp [h1])]
end Go.Pu
