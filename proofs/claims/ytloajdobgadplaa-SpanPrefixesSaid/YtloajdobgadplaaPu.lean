/- The order of texts, and sorted tables: plain Lean. -/
import GoSem.Op.String
set_option linter.unusedVariables false
namespace Go.Pu

abbrev Str := List UInt8

theorem blt_nil (a : Str) : Op.bytesLess a [] = false := by cases a <;> rfl
theorem blt_irrefl : ∀ a : Str, Op.bytesLess a a = false
  | [] => rfl
  | x :: a => by
    simp only [Op.bytesLess, Op.bytesLess, Bool.or_eq_false_iff, decide_eq_false_iff_not, Bool.and_eq_false_iff]
    exact ⟨UInt8.lt_irrefl x, .inr (blt_irrefl a)⟩
theorem blt_cons {x y : UInt8} {a b : Str} : Op.bytesLess (x :: a) (y :: b) = true ↔ x < y ∨ (x = y ∧ Op.bytesLess a b = true) := by
  simp [Op.bytesLess, Op.bytesLess]
theorem blt_trans : ∀ {a b c : Str}, Op.bytesLess a b = true → Op.bytesLess b c = true → Op.bytesLess a c = true
  | _, _, [], _, h => by rw [blt_nil] at h; cases h
  | _, [], _ :: _, h, _ => by rw [blt_nil] at h; cases h
  | [], _ :: _, _ :: _, _, _ => rfl
  | x :: a, y :: b, z :: c, h1, h2 => by
    rw [blt_cons] at h1 h2 ⊢
    rcases h1 with h1 | ⟨rfl, h1⟩
    · rcases h2 with h2 | ⟨rfl, h2⟩
      · exact .inl (UInt8.lt_trans h1 h2)
      · exact .inl h1
    · rcases h2 with h2 | ⟨rfl, h2⟩
      · exact .inl h2
      · exact .inr ⟨rfl, blt_trans h1 h2⟩
theorem blt_tri : ∀ (a b : Str), Op.bytesLess a b = true ∨ a = b ∨ Op.bytesLess b a = true
  | [], [] => .inr (.inl rfl)
  | [], _ :: _ => .inl rfl
  | _ :: _, [] => .inr (.inr rfl)
  | x :: a, y :: b => by
    rw [blt_cons, blt_cons]
    by_cases h : x < y
    · exact .inl (.inl h)
    · by_cases h' : y < x
      · exact .inr (.inr (.inl h'))
      · have e : x = y := UInt8.le_antisymm (UInt8.not_lt.1 h') (UInt8.not_lt.1 h)
        subst e
        rcases blt_tri a b with h1 | h1 | h1
        · exact .inl (.inr ⟨rfl, h1⟩)
        · exact .inr (.inl (by rw [h1]))
        · exact .inr (.inr (.inr ⟨rfl, h1⟩))
theorem blt_asymm {a b : Str} (h : Op.bytesLess a b = true) : Op.bytesLess b a = false := by
  cases h' : Op.bytesLess b a with
  | false => rfl
  | true => have := blt_trans h h'; rw [blt_irrefl] at this; cases this
theorem blt_ne {a b : Str} (h : Op.bytesLess a b = true) : a ≠ b := by
  intro e; subst e; rw [blt_irrefl] at h; cases h
theorem blt_of_not {a b : Str} (h : Op.bytesLess a b = false) (hne : a ≠ b) : Op.bytesLess b a = true := by
  rcases blt_tri a b with h1 | h1 | h1
  · rw [h] at h1; cases h1
  · exact absurd h1 hne
  · exact h1
/-- a ≤ b -/
def ble (a b : Str) : Bool := !Op.bytesLess b a
theorem ble_iff {a b : Str} : ble a b = true ↔ Op.bytesLess a b = true ∨ a = b := by
  unfold ble
  constructor
  · intro h
    have h : Op.bytesLess b a = false := by simpa using h
    rcases blt_tri a b with h1 | h1 | h1
    · exact .inl h1
    · exact .inr h1
    · rw [h] at h1; cases h1
  · rintro (h | rfl)
    · simp [blt_asymm h]
    · simp [blt_irrefl]
theorem ble_refl (a : Str) : ble a a = true := ble_iff.2 (.inr rfl)
theorem ble_trans {a b c : Str} (h1 : ble a b = true) (h2 : ble b c = true) : ble a c = true := by
  rw [ble_iff] at *
  rcases h1 with h1 | rfl
  · rcases h2 with h2 | rfl
    · exact .inl (blt_trans h1 h2)
    · exact .inl h1
  · exact h2
theorem blt_of_ble_of_blt {a b c : Str} (h1 : ble a b = true) (h2 : Op.bytesLess b c = true) : Op.bytesLess a c = true := by
  rw [ble_iff] at h1
  rcases h1 with h1 | rfl
  · exact blt_trans h1 h2
  · exact h2
theorem blt_of_blt_of_ble {a b c : Str} (h1 : Op.bytesLess a b = true) (h2 : ble b c = true) : Op.bytesLess a c = true := by
  rw [ble_iff] at h2
  rcases h2 with h2 | rfl
  · exact blt_trans h1 h2
  · exact h1
theorem blt_nil_left {a : Str} : Op.bytesLess [] a = true ↔ a ≠ [] := by cases a <;> simp [Op.bytesLess, Op.bytesLess]
theorem ble_nil (a : Str) : ble [] a = true := by simp [ble, blt_nil]

structure PairL where
  key : Str
  val : Str
  stamp : Int
  deriving DecidableEq

/-- A table. -/
def Srt (t : List PairL) : Prop := t.Pairwise fun a b => Op.bytesLess a.key b.key = true
def sortedL : List PairL → Bool
  | a :: b :: r => Op.bytesLess a.key b.key && sortedL (b :: r)
  | _ => true
theorem sortedL_iff : ∀ {t : List PairL}, sortedL t = true ↔ Srt t
  | [] => by simp [sortedL, Srt]
  | [a] => by simp [sortedL, Srt]
  | a :: b :: r => by
    rw [sortedL, Bool.and_eq_true, sortedL_iff (t := b :: r)]
    unfold Srt
    rw [List.pairwise_cons (a := a)]
    constructor
    · rintro ⟨h1, h2⟩
      refine ⟨fun c hc => ?_, h2⟩
      rcases List.mem_cons.1 hc with rfl | hc
      · exact h1
      · exact blt_trans h1 ((List.pairwise_cons.1 h2).1 c hc)
    · rintro ⟨h1, h2⟩
      exact ⟨h1 b (by simp), h2⟩

def putStep (p : PairL) (s : List PairL × Bool) (x : PairL) : List PairL × Bool :=
  let s1 := if (!s.2 && !(Op.bytesLess x.key p.key)) = true then (s.1 ++ [p], true) else s
  (if (!(x.key == p.key)) = true then s1.1 ++ [x] else s1.1, s1.2)
def putL (t : List PairL) (p : PairL) : List PairL :=
  let s := t.foldl (putStep p) ([], false)
  if s.2 = true then s.1 else s.1 ++ [p]
/-- The same, told from the front. -/
def insL (p : PairL) : List PairL → List PairL
  | [] => [p]
  | x :: r => if Op.bytesLess x.key p.key = true then x :: insL p r else p :: (x :: r).filter fun y => !(y.key == p.key)
theorem putT (p : PairL) : ∀ (l o : List PairL), l.foldl (putStep p) (o, true) = (o ++ l.filter (fun y => !(y.key == p.key)), true)
  | [], o => by simp
  | x :: l, o => by
    rw [List.foldl_cons]
    have : putStep p (o, true) x = (o ++ [x].filter (fun y => !(y.key == p.key)), true) := by
      simp only [putStep, Bool.not_true, Bool.false_and, Bool.false_eq_true, if_false, List.filter_cons, List.filter_nil]
      split <;> simp
    rw [this, putT p l, List.append_assoc, ← List.filter_append]
    rfl
theorem putF (p : PairL) : ∀ (l o : List PairL), (if (l.foldl (putStep p) (o, false)).2 = true then (l.foldl (putStep p) (o, false)).1 else (l.foldl (putStep p) (o, false)).1 ++ [p]) = o ++ insL p l
  | [], o => by simp [insL]
  | x :: l, o => by
    rw [List.foldl_cons, insL]
    by_cases h : Op.bytesLess x.key p.key = true
    · have hne : (x.key == p.key) = false := by simpa using blt_ne h
      have : putStep p (o, false) x = (o ++ [x], false) := by
        simp [putStep, h, blt_ne h]
      rw [this, putF p l, if_pos h, List.append_assoc]
      rfl
    · have h' : Op.bytesLess x.key p.key = false := by simpa using h
      have : putStep p (o, false) x = (o ++ [p] ++ [x].filter (fun y => !(y.key == p.key)), true) := by
        simp only [putStep, Bool.not_false, h', Bool.and_self, if_true, List.filter_cons, List.filter_nil]
        split <;> simp
      rw [this, putT, if_neg h]
      simp only [if_true]
      rw [List.append_assoc, List.append_assoc, ← List.filter_append]
      rfl
theorem putL_eq (t : List PairL) (p : PairL) : putL t p = insL p t := by
  have := putF p t []
  simpa [putL] using this
theorem insL_mem {p y : PairL} : ∀ {t : List PairL}, y ∈ insL p t → y = p ∨ y ∈ t
  | [], h => by simp [insL] at h; exact .inl h
  | x :: r, h => by
    rw [insL] at h
    split at h
    · rcases List.mem_cons.1 h with rfl | h
      · exact .inr (by simp)
      · rcases insL_mem h with h | h
        · exact .inl h
        · exact .inr (List.mem_cons_of_mem _ h)
    · rcases List.mem_cons.1 h with rfl | h
      · exact .inl rfl
      · exact .inr (List.mem_filter.1 h).1
theorem insL_srt {p : PairL} : ∀ {t : List PairL}, Srt t → Srt (insL p t)
  | [], _ => by simp [insL, Srt]
  | x :: r, h => by
    obtain ⟨h1, h2⟩ := List.pairwise_cons.1 h
    rw [insL]
    split
    · rename_i hx
      refine List.pairwise_cons.2 ⟨fun y hy => ?_, insL_srt h2⟩
      rcases insL_mem hy with rfl | hy
      · exact hx
      · exact h1 y hy
    · rename_i hx
      have hx : Op.bytesLess x.key p.key = false := by simpa using hx
      refine List.pairwise_cons.2 ⟨fun y hy => ?_, h.filter _⟩
      obtain ⟨hy1, hy2⟩ := List.mem_filter.1 hy
      have hne : y.key ≠ p.key := by simpa using hy2
      rcases List.mem_cons.1 hy1 with rfl | hy1
      · exact blt_of_not hx hne
      · have := h1 y hy1
        rcases blt_tri p.key y.key with h3 | h3 | h3
        · exact h3
        · exact absurd h3.symm hne
        · have := blt_trans this h3
          rw [hx] at this; cases this
theorem insL_len {p : PairL} : ∀ t : List PairL, (insL p t).length ≤ t.length + 1
  | [] => by simp [insL]
  | x :: r => by
    rw [insL]
    split
    · have := insL_len (p := p) r; simp; omega
    · simp only [List.length_cons]
      have := List.length_filter_le (fun y : PairL => !(y.key == p.key)) (x :: r)
      simp at this ⊢
      omega
theorem putL_len (t : List PairL) (p : PairL) : (putL t p).length ≤ t.length + 1 := by rw [putL_eq]; exact insL_len t
theorem putL_srt {t : List PairL} {p : PairL} (h : Srt t) : Srt (putL t p) := by rw [putL_eq]; exact insL_srt h
theorem drop_get {α : Type} {l : List α} {i : Nat} {x : α} (h : l[i]? = some x) : l.drop i = x :: l.drop (i + 1) := by
  have hl := (List.getElem?_eq_some_iff.1 h).1
  rw [List.drop_eq_getElem_cons hl]
  congr 1
  exact (List.getElem?_eq_some_iff.1 h).2
theorem sortedL_drop {xs : List PairL} {i : Nat} {a b : PairL} (ha : xs[i]? = some a) (hb : xs[i + 1]? = some b) : sortedL (xs.drop i) = (Op.bytesLess a.key b.key && sortedL (xs.drop (i + 1))) := by
  rw [drop_get ha, drop_get hb, sortedL]
end Go.Pu
/- Spans of keys: plain Lean. -/
set_option linter.unusedVariables false
namespace Go.Pu

structure SpanL where
  lo : Str
  hi : Str
  deriving DecidableEq

def hasL (s : SpanL) (k : Str) : Bool := !(Op.bytesLess k s.lo) && (s.hi == [] || Op.bytesLess k s.hi)
def emptyL (s : SpanL) : Bool := !(s.hi == []) && (Op.bytesLess s.hi s.lo || s.hi == s.lo)
def cmpStr (a b : Str) : Int := if Op.bytesLess a b = true then -1 else if a = b then 0 else 1
def cmpEnd (e f : Str) : Int := if e = f then 0 else if e = [] then 1 else if f = [] then -1 else cmpStr e f
def leastL (a b : Str) : Str := if cmpEnd b a < 0 then b else a
def maxL (a b : Str) : Str := if Op.bytesLess a b = true then b else a
def noneL : SpanL := ⟨[97], [97]⟩
def meetL (a b : SpanL) : SpanL := if emptyL ⟨maxL a.lo b.lo, leastL a.hi b.hi⟩ = true then noneL else ⟨maxL a.lo b.lo, leastL a.hi b.hi⟩
def coversL (a b : SpanL) : Bool := emptyL b || (hasL a b.lo && decide (cmpEnd a.hi b.hi ≥ 0))
def lessL (a b : Str) : Bool := !(a == []) && (b == [] || Op.bytesLess a b)
def rmeetL (a b : SpanL) : SpanL :=
  let s : SpanL := ⟨maxL a.lo b.lo, if lessL b.hi a.hi = true then b.hi else a.hi⟩
  if emptyL s = true then noneL else s
def rcoversL (a b : SpanL) : Bool := emptyL b || (!emptyL a && (Op.bytesLess a.lo b.lo || a.lo == b.lo) && !lessL a.hi b.hi)
def beginsL (k p : Str) : Bool := decide (k.length ≥ p.length) && (k.take p.length == p)
def movedL (k f t : Str) : Str × Bool := if beginsL k f = true then (t ++ k.drop f.length, true) else ([], false)
def oneL (k : Str) : SpanL := ⟨k, k ++ [0]⟩

/-- Without the bytes 255 at the end. -/
def stripN (p : Str) : Nat → Nat
  | 0 => 0
  | n + 1 => if p[n]? = some 255 then stripN p n else n + 1
def upL (p : Str) : Str :=
  match stripN p p.length with
  | 0 => []
  | n + 1 => p.take n ++ [p.getD n 0 + 1]
def prefixL (p : Str) : SpanL := ⟨p, upL p⟩

theorem stripN_le (p : Str) : ∀ n, stripN p n ≤ n
  | 0 => Nat.le_refl _
  | n + 1 => by
    rw [stripN]
    split
    · exact Nat.le_succ_of_le (stripN_le p n)
    · exact Nat.le_refl _

/-! ### Laws -/
theorem has_iff {s : SpanL} {k : Str} : hasL s k = true ↔ ble s.lo k = true ∧ (s.hi = [] ∨ Op.bytesLess k s.hi = true) := by
  simp [hasL, ble]
theorem empty_iff {s : SpanL} : emptyL s = true ↔ s.hi ≠ [] ∧ ble s.hi s.lo = true := by
  simp only [emptyL, Bool.and_eq_true, Bool.not_eq_true', Bool.or_eq_true, beq_iff_eq, beq_eq_false_iff_ne, ble_iff]
theorem not_has_of_empty {s : SpanL} (h : emptyL s = true) (k : Str) : hasL s k = false := by
  cases hk : hasL s k with
  | false => rfl
  | true =>
    obtain ⟨h1, h2⟩ := empty_iff.1 h
    obtain ⟨h3, h4⟩ := has_iff.1 hk
    rcases h4 with h4 | h4
    · exact absurd h4 h1
    · have := blt_of_blt_of_ble h4 (ble_trans h2 h3)
      rw [blt_irrefl] at this; cases this
theorem has_lo {s : SpanL} (h : emptyL s = false) : hasL s s.lo = true := by
  refine has_iff.2 ⟨ble_refl _, ?_⟩
  by_cases he : s.hi = []
  · exact .inl he
  · right
    cases hb : Op.bytesLess s.lo s.hi with
    | true => rfl
    | false =>
      have : emptyL s = true := empty_iff.2 ⟨he, by simp [ble, hb]⟩
      rw [h] at this; cases this

/-- the ends' order: [] is the greatest. -/
def elt (a b : Str) : Prop := a ≠ [] ∧ (b = [] ∨ Op.bytesLess a b = true)
theorem less_iff {a b : Str} : lessL a b = true ↔ elt a b := by simp [lessL, elt]
theorem cmpStr_lt {a b : Str} : cmpStr a b < 0 ↔ Op.bytesLess a b = true := by
  unfold cmpStr
  split
  · rename_i h; simp [h]
  · rename_i h
    split <;> simp [h]
theorem cmpStr_eq {a b : Str} : cmpStr a b = 0 ↔ a = b := by
  unfold cmpStr
  split
  · rename_i h
    constructor
    · intro h'; simp at h'
    · intro e; subst e; rw [blt_irrefl] at h; cases h
  · split
    · rename_i h; simp [h]
    · rename_i h; simp [h]
theorem cmpEnd_lt {a b : Str} : cmpEnd a b < 0 ↔ elt a b := by
  unfold cmpEnd elt
  split
  · rename_i h
    subst h
    simp
    intro h; exact ⟨h, blt_irrefl a⟩
  · rename_i h
    split
    · rename_i h1; simp [h1]
    · rename_i h1
      split
      · rename_i h2; simp [h1, h2]
      · rename_i h2; simp [h1, h2, cmpStr_lt]
theorem cmpEnd_eq {a b : Str} : cmpEnd a b = 0 ↔ a = b := by
  unfold cmpEnd
  split
  · rename_i h; simp [h]
  · rename_i h
    split
    · simp [h]
    · split
      · simp [h]
      · rw [cmpStr_eq]
theorem leastL_eq (a b : Str) : leastL a b = if lessL b a = true then b else a := by
  unfold leastL
  by_cases h : elt b a
  · rw [if_pos (cmpEnd_lt.2 h), if_pos (less_iff.2 h)]
  · rw [if_neg (fun h' => h (cmpEnd_lt.1 h')), if_neg (fun h' => h (less_iff.1 h'))]
theorem meet_ref (a b : SpanL) : meetL a b = rmeetL a b := by
  unfold meetL rmeetL
  rw [leastL_eq]
theorem elt_tri (a b : Str) : elt a b ∨ a = b ∨ elt b a := by
  unfold elt
  by_cases ha : a = []
  · by_cases hb : b = []
    · exact .inr (.inl (ha.trans hb.symm))
    · exact .inr (.inr ⟨hb, .inl ha⟩)
  · by_cases hb : b = []
    · exact .inl ⟨ha, .inl hb⟩
    · rcases blt_tri a b with h | h | h
      · exact .inl ⟨ha, .inr h⟩
      · exact .inr (.inl h)
      · exact .inr (.inr ⟨hb, .inr h⟩)
theorem elt_asymm {a b : Str} (h : elt a b) : ¬ elt b a := by
  rintro ⟨h1, h2⟩
  obtain ⟨h3, h4⟩ := h
  rcases h4 with h4 | h4
  · exact h1 h4
  · rcases h2 with h2 | h2
    · exact h3 h2
    · rw [blt_asymm h4] at h2; cases h2
theorem not_elt_self {a : Str} : ¬ elt a a := fun h => elt_asymm h h

theorem covers_ref (a b : SpanL) : coversL a b = rcoversL a b := by
  unfold coversL rcoversL
  cases hb : emptyL b with
  | true => rfl
  | false =>
    simp only [Bool.false_or]
    have key : decide (cmpEnd a.hi b.hi ≥ 0) = !lessL a.hi b.hi := by
      rw [Bool.eq_iff_iff]
      simp only [decide_eq_true_eq, Bool.not_eq_true']
      constructor
      · intro h
        cases hl : lessL a.hi b.hi with
        | false => rfl
        | true => have := cmpEnd_lt.2 (less_iff.1 hl); omega
      · intro h
        have : ¬ cmpEnd a.hi b.hi < 0 := fun h' => by rw [less_iff.2 (cmpEnd_lt.1 h')] at h; cases h
        omega
    rw [key]
    cases hl : lessL a.hi b.hi with
    | true => simp
    | false =>
      simp only [Bool.not_false, Bool.and_true]
      rw [Bool.eq_iff_iff, has_iff, Bool.and_eq_true, Bool.not_eq_true', Bool.or_eq_true, beq_iff_eq, ← ble_iff]
      constructor
      · rintro ⟨h1, h2⟩
        refine ⟨?_, h1⟩
        cases he : emptyL a with
        | false => rfl
        | true =>
          have := not_has_of_empty he b.lo
          rw [has_iff.2 ⟨h1, h2⟩] at this; cases this
      · rintro ⟨h1, h2⟩
        refine ⟨h2, ?_⟩
        by_cases ha : a.hi = []
        · exact .inl ha
        · right
          -- b.lo < b.hi ≤ a.hi
          have hbl := (has_iff.1 (has_lo hb)).2
          have hn : ¬ elt a.hi b.hi := fun h => by rw [less_iff.2 h] at hl; cases hl
          rcases hbl with hbl | hbl
          · exact absurd ⟨ha, .inl hbl⟩ hn
          · rcases blt_tri a.hi b.hi with h | h | h
            · exact absurd ⟨ha, .inr h⟩ hn
            · rw [h]; exact hbl
            · exact blt_trans hbl h
theorem max_ble {a b k : Str} : ble (maxL a b) k = true ↔ ble a k = true ∧ ble b k = true := by
  unfold maxL
  split
  · rename_i h
    exact ⟨fun h' => ⟨ble_trans (ble_iff.2 (.inl h)) h', h'⟩, fun h' => h'.2⟩
  · rename_i h
    have h : ble b a = true := by simp [ble, h]
    exact ⟨fun h' => ⟨h', ble_trans h h'⟩, fun h' => h'.1⟩
theorem least_has {a b k : Str} : (leastL a b = [] ∨ Op.bytesLess k (leastL a b) = true) ↔ (a = [] ∨ Op.bytesLess k a = true) ∧ (b = [] ∨ Op.bytesLess k b = true) := by
  rw [leastL_eq]
  split
  · rename_i h
    obtain ⟨h1, h2⟩ := less_iff.1 h
    constructor
    · rintro (h3 | h3)
      · exact absurd h3 h1
      · refine ⟨?_, .inr h3⟩
        rcases h2 with h2 | h2
        · exact .inl h2
        · exact .inr (blt_trans h3 h2)
    · exact fun h => h.2
  · rename_i h
    have h : ¬ elt b a := fun h' => h (less_iff.2 h')
    constructor
    · intro h3
      refine ⟨h3, ?_⟩
      by_cases hb : b = []
      · exact .inl hb
      · right
        rcases h3 with h3 | h3
        · exact absurd ⟨hb, .inl h3⟩ h
        · rcases blt_tri b a with h4 | h4 | h4
          · exact absurd ⟨hb, .inr h4⟩ h
          · rw [h4]; exact h3
          · exact blt_trans h3 h4
    · exact fun h => h.1
theorem meet_has (a b : SpanL) (k : Str) : hasL (meetL a b) k = (hasL a k && hasL b k) := by
  have key : hasL ⟨maxL a.lo b.lo, leastL a.hi b.hi⟩ k = (hasL a k && hasL b k) := by
    rw [Bool.eq_iff_iff, Bool.and_eq_true, has_iff, has_iff, has_iff]
    simp only
    rw [max_ble, least_has]
    constructor
    · rintro ⟨⟨h1, h2⟩, h3, h4⟩; exact ⟨⟨h1, h3⟩, h2, h4⟩
    · rintro ⟨⟨h1, h2⟩, h3, h4⟩; exact ⟨⟨h1, h3⟩, h2, h4⟩
  unfold meetL
  split
  · rename_i h
    rw [← key, not_has_of_empty h]
    exact not_has_of_empty (s := noneL) (by decide) k
  · exact key
theorem max_comm (a b : Str) : maxL a b = maxL b a := by
  unfold maxL
  rcases blt_tri a b with h | h | h
  · rw [if_pos h, if_neg (by simp [blt_asymm h])]
  · subst h; rfl
  · rw [if_neg (by simp [blt_asymm h]), if_pos h]
theorem least_comm (a b : Str) : leastL a b = leastL b a := by
  rw [leastL_eq, leastL_eq]
  rcases elt_tri a b with h | h | h
  · rw [if_neg (fun h' => elt_asymm h (less_iff.1 h')), if_pos (less_iff.2 h)]
  · subst h; rfl
  · rw [if_pos (less_iff.2 h), if_neg (fun h' => elt_asymm h (less_iff.1 h'))]
theorem meet_comm (a b : SpanL) : meetL a b = meetL b a := by
  unfold meetL
  rw [max_comm a.lo, least_comm a.hi]
theorem meet_empty {a b : SpanL} (h : emptyL (meetL a b) = true) : meetL a b = noneL := by
  unfold meetL at h ⊢
  split
  · rfl
  · rename_i h1
    rw [if_neg h1] at h
    exact absurd h h1
theorem one_has (k x : Str) : hasL (oneL k) x = (x == k) := by
  rw [Bool.eq_iff_iff, has_iff, beq_iff_eq]
  simp only [oneL]
  constructor
  · rintro ⟨h1, h2 | h2⟩
    · simp at h2
    · -- k ≤ x < k ++ [0]
      have key : ∀ k x : Str, ble k x = true → Op.bytesLess x (k ++ [0]) = true → x = k := by
        intro k
        induction k with
        | nil =>
          intro x h1 h2
          cases x with
          | nil => rfl
          | cons a x =>
            rw [List.nil_append, blt_cons] at h2
            rcases h2 with h2 | ⟨_, h2⟩
            · exact absurd h2 (UInt8.not_lt.2 (UInt8.le_iff_toNat_le.2 (by simp)))
            · rw [blt_nil] at h2; cases h2
        | cons b k ih =>
          intro x h1 h2
          cases x with
          | nil =>
            rw [ble_iff] at h1
            rcases h1 with h1 | h1
            · rw [blt_nil] at h1; cases h1
            · cases h1
          | cons a x =>
            rw [List.cons_append, blt_cons] at h2
            have h1' : ¬ (a < b ∨ a = b ∧ Op.bytesLess x k = true) := by
              intro h
              have h3 := blt_cons.2 h
              have h4 : Op.bytesLess (a :: x) (b :: k) = false := by simpa [ble] using h1
              rw [h4] at h3; cases h3
            rcases h2 with h2 | ⟨rfl, h2⟩
            · exact absurd (.inl h2) h1'
            · have : ble k x = true := by
                simp only [ble, Bool.not_eq_true']
                cases hx : Op.bytesLess x k with
                | false => rfl
                | true => exact absurd (.inr ⟨rfl, hx⟩) h1'
              rw [ih x this h2]
      exact key k x h1 h2
  · rintro rfl
    refine ⟨ble_refl _, .inr ?_⟩
    induction x with
    | nil => rfl
    | cons a x ih => exact blt_cons.2 (.inr ⟨rfl, ih⟩)
end Go.Pu
/- Prefixes of keys, keys that are moved: plain Lean. -/
set_option linter.unusedVariables false
namespace Go.Pu

theorem begins_iff {k p : Str} : beginsL k p = true ↔ ∃ r, k = p ++ r := by
  simp only [beginsL, Bool.and_eq_true, decide_eq_true_eq, beq_iff_eq]
  constructor
  · rintro ⟨h1, h2⟩
    refine ⟨k.drop p.length, ?_⟩
    have := List.take_append_drop p.length k
    rw [h2] at this
    exact this.symm
  · rintro ⟨r, rfl⟩
    simp
theorem blt_app {p a b : Str} : Op.bytesLess (p ++ a) (p ++ b) = Op.bytesLess a b := by
  induction p with
  | nil => rfl
  | cons x p ih =>
    rw [Bool.eq_iff_iff, List.cons_append, List.cons_append, blt_cons, ih]
    simp [UInt8.lt_irrefl]
theorem ble_app {p a b : Str} : ble (p ++ a) (p ++ b) = ble a b := by simp [ble, blt_app]
theorem ble_self_app (p r : Str) : ble p (p ++ r) = true := by
  have := ble_app (p := p) (a := []) (b := r)
  rw [List.append_nil] at this
  rw [this]; exact ble_nil r

/-- What stripN tells. -/
theorem stripN_spec (p : Str) : ∀ n, n ≤ p.length → (∀ i, stripN p n ≤ i → i < n → p[i]? = some 255) ∧ (∀ m, stripN p n = m + 1 → p[m]? ≠ some 255)
  | 0, _ => ⟨fun i _ h => by omega, fun m h => by cases h⟩
  | n + 1, hn => by
    obtain ⟨h1, h2⟩ := stripN_spec p n (by omega)
    by_cases h : p[n]? = some 255
    · have e : stripN p (n + 1) = stripN p n := by rw [stripN, if_pos h]
      rw [e]
      refine ⟨fun i hi hl => ?_, h2⟩
      by_cases he : i = n
      · subst he; exact h
      · exact h1 i hi (by omega)
    · have e : stripN p (n + 1) = n + 1 := by rw [stripN, if_neg h]
      rw [e]
      refine ⟨fun i hi hl => by omega, fun m hm => ?_⟩
      have : m = n := by omega
      subst this; exact h

theorem lt_up {c : UInt8} (h : c ≠ 255) : c < c + 1 := by
  rw [UInt8.lt_iff_toNat_lt]
  have h1 : c.toNat ≠ 255 := fun e => h (UInt8.toNat_inj.1 e)
  have h2 : c.toNat < 256 := c.toNat_lt
  rw [UInt8.toNat_add]
  simp
  omega
theorem up_le {c x : UInt8} (h : c ≠ 255) (hx : x < c + 1) : x ≤ c := by
  rw [UInt8.lt_iff_toNat_lt, UInt8.toNat_add] at hx
  rw [UInt8.le_iff_toNat_le]
  have h1 : c.toNat ≠ 255 := fun e => h (UInt8.toNat_inj.1 e)
  have h2 : c.toNat < 256 := c.toNat_lt
  simp at hx
  omega
theorem le_255 (x : UInt8) : x ≤ 255 := by
  rw [UInt8.le_iff_toNat_le]
  have := x.toNat_lt
  show x.toNat ≤ 255
  omega

/-- A key that is not less than p and has p's end below it begins with p. -/
theorem begins_255 : ∀ (p k : Str), (∀ c ∈ p, c = 255) → ble p k = true → beginsL k p = true
  | [], k, _, _ => begins_iff.2 ⟨k, rfl⟩
  | c :: p, k, h, hk => by
    cases k with
    | nil =>
      rw [ble_iff] at hk
      rcases hk with hk | hk
      · rw [blt_nil] at hk; cases hk
      · cases hk
    | cons x k =>
      have hc : c = 255 := h c (by simp)
      subst hc
      have hx : ¬ (x < 255 ∨ x = 255 ∧ Op.bytesLess k p = true) := by
        intro h'
        have := blt_cons.2 h'
        simp [ble, this] at hk
      have hxe : x = 255 := UInt8.le_antisymm (le_255 x) (UInt8.not_lt.1 (fun h' => hx (.inl h')))
      subst hxe
      have : ble p k = true := by
        simp only [ble, Bool.not_eq_true']
        cases hb : Op.bytesLess k p with
        | false => rfl
        | true => exact absurd (.inr ⟨rfl, hb⟩) hx
      obtain ⟨r, rfl⟩ := begins_iff.1 (begins_255 p k (fun c hc => h c (by simp [hc])) this)
      exact begins_iff.2 ⟨r, rfl⟩

theorem begins_up {a : Str} {c : UInt8} {q : Str} (hc : c ≠ 255) (hq : ∀ x ∈ q, x = 255) (k : Str) : (ble (a ++ c :: q) k = true ∧ Op.bytesLess k (a ++ [c + 1]) = true) ↔ beginsL k (a ++ c :: q) = true := by
  constructor
  · rintro ⟨h1, h2⟩
    -- k begins with a
    have ha : ∀ (a k : Str), ble (a ++ c :: q) k = true → Op.bytesLess k (a ++ [c + 1]) = true → ∃ r, k = a ++ r := by
      intro a
      induction a with
      | nil => intro k _ _; exact ⟨k, rfl⟩
      | cons x a ih =>
        intro k h1 h2
        cases k with
        | nil =>
          rw [ble_iff] at h1
          rcases h1 with h1 | h1
          · rw [blt_nil] at h1; cases h1
          · cases h1
        | cons y k =>
          rw [List.cons_append, blt_cons] at h2
          have h1' : ¬ (y < x ∨ y = x ∧ Op.bytesLess k (a ++ c :: q) = true) := by
            intro h'
            have := blt_cons.2 h'
            rw [List.cons_append] at h1
            simp [ble, this] at h1
          have hxy : y = x := by
            rcases h2 with h2 | ⟨h2, _⟩
            · exact absurd (.inl h2) h1'
            · exact h2
          subst hxy
          have h2' : Op.bytesLess k (a ++ [c + 1]) = true := by
            rcases h2 with h2 | ⟨_, h2⟩
            · exact absurd h2 (UInt8.lt_irrefl _)
            · exact h2
          have : ble (a ++ c :: q) k = true := by
            simp only [ble, Bool.not_eq_true']
            cases hb : Op.bytesLess k (a ++ c :: q) with
            | false => rfl
            | true => exact absurd (.inr ⟨rfl, hb⟩) h1'
          obtain ⟨r, rfl⟩ := ih k this h2'
          exact ⟨r, rfl⟩
    obtain ⟨r, rfl⟩ := ha a k h1 h2
    rw [ble_app] at h1
    rw [blt_app] at h2
    cases r with
    | nil =>
      rw [ble_iff] at h1
      rcases h1 with h1 | h1
      · rw [blt_nil] at h1; cases h1
      · cases h1
    | cons y r =>
      rw [blt_cons] at h2
      have hyc : y ≤ c := by
        rcases h2 with h2 | ⟨_, h2⟩
        · exact up_le hc h2
        · rw [blt_nil] at h2; cases h2
      have h1' : ¬ (y < c ∨ y = c ∧ Op.bytesLess r q = true) := by
        intro h'
        have := blt_cons.2 h'
        simp [ble, this] at h1
      have hye : y = c := UInt8.le_antisymm hyc (UInt8.not_lt.1 (fun h' => h1' (.inl h')))
      subst hye
      have : ble q r = true := by
        simp only [ble, Bool.not_eq_true']
        cases hb : Op.bytesLess r q with
        | false => rfl
        | true => exact absurd (.inr ⟨rfl, hb⟩) h1'
      obtain ⟨s, rfl⟩ := begins_iff.1 (begins_255 q r hq this)
      exact begins_iff.2 ⟨s, by simp⟩
  · intro h
    obtain ⟨r, rfl⟩ := begins_iff.1 h
    refine ⟨ble_self_app _ _, ?_⟩
    rw [List.append_assoc, blt_app, List.cons_append]
    exact blt_cons.2 (.inl (lt_up hc))

/-- p, in parts: what stands before the last byte that is not 255, that byte, and the rest. -/
theorem strip_parts (p : Str) : (upL p = [] ∧ ∀ c ∈ p, c = 255) ∨ ∃ a c q, p = a ++ c :: q ∧ c ≠ 255 ∧ (∀ x ∈ q, x = 255) ∧ upL p = a ++ [c + 1] := by
  obtain ⟨h1, h2⟩ := stripN_spec p p.length (Nat.le_refl _)
  have hle := stripN_le p p.length
  unfold upL
  cases hs : stripN p p.length with
  | zero =>
    left
    refine ⟨rfl, fun c hc => ?_⟩
    obtain ⟨i, hi⟩ := List.mem_iff_getElem?.1 hc
    have := h1 i (by omega) (List.getElem?_eq_some_iff.1 hi).1
    rw [hi] at this
    simpa using this
  | succ n =>
    right
    have hn : n < p.length := by omega
    have hg : p[n]? = some p[n] := List.getElem?_eq_getElem hn
    refine ⟨p.take n, p[n], p.drop (n + 1), ?_, ?_, ?_, ?_⟩
    · rw [← List.drop_eq_getElem_cons hn, List.take_append_drop]
    · intro e
      rw [e] at hg
      exact h2 n hs hg
    · intro x hx
      obtain ⟨i, hi⟩ := List.mem_iff_getElem?.1 hx
      rw [List.getElem?_drop] at hi
      have := h1 (n + 1 + i) (by omega) (List.getElem?_eq_some_iff.1 hi).1
      rw [hi] at this
      simpa using this
    · simp only [List.getD, hg, Option.getD_some]

theorem prefix_has (p k : Str) : hasL (prefixL p) k = beginsL k p := by
  rw [Bool.eq_iff_iff, has_iff]
  simp only [prefixL]
  rcases strip_parts p with ⟨h1, h2⟩ | ⟨a, c, q, rfl, hc, hq, hu⟩
  · rw [h1]
    constructor
    · rintro ⟨h3, _⟩; exact begins_255 p k h2 h3
    · intro h
      obtain ⟨r, rfl⟩ := begins_iff.1 h
      exact ⟨ble_self_app _ _, .inl rfl⟩
  · rw [hu, ← begins_up hc hq k]
    constructor
    · rintro ⟨h3, h4 | h4⟩
      · simp at h4
      · exact ⟨h3, h4⟩
    · rintro ⟨h3, h4⟩; exact ⟨h3, .inr h4⟩
theorem prefix_not_empty (p : Str) : emptyL (prefixL p) = false := by
  cases h : emptyL (prefixL p) with
  | false => rfl
  | true =>
    have := not_has_of_empty h p
    rw [prefix_has, begins_iff.2 ⟨[], by simp⟩] at this
    cases this
theorem one_not_empty (p : Str) : emptyL (oneL p) = false := by
  cases h : emptyL (oneL p) with
  | false => rfl
  | true =>
    have := not_has_of_empty h p
    rw [one_has] at this
    simp at this
theorem upL_len (p : Str) : (upL p).length ≤ p.length := by
  rcases strip_parts p with ⟨h1, _⟩ | ⟨a, c, q, rfl, _, _, hu⟩
  · rw [h1]; simp
  · rw [hu]; simp
theorem moved_app (f x t : Str) : movedL (f ++ x) f t = (t ++ x, true) := by
  have : beginsL (f ++ x) f = true := begins_iff.2 ⟨x, rfl⟩
  simp [movedL, this]
theorem moved_not {k f t : Str} (h : beginsL k f = false) : movedL k f t = ([], false) := by simp [movedL, h]
end Go.Pu
