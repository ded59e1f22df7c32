/- The order of texts, and sorted tables: plain Lean. -/
import GoSem.Op.String
import Derived.Sort.AssemblyPlain
set_option linter.unusedVariables false
namespace Go.Pu
abbrev Str := List UInt8
theorem xBd (a : Str) : Op.bytesLess a [] = false := by cases a <;> rfl
theorem xAj : ∀ a : Str, Op.bytesLess a a = false
  | [] => rfl
  | x :: a => by
    simp only [Op.bytesLess, Op.bytesLess, Bool.or_eq_false_iff, decide_eq_false_iff_not, Bool.and_eq_false_iff]
    exact ⟨UInt8.lt_irrefl x, .inr (xAj a)⟩
theorem blt_cons {x y : UInt8} {a b : Str} : Op.bytesLess (x :: a) (y :: b) = true ↔ x < y ∨ (x = y ∧ Op.bytesLess a b = true) := by
  simp [Op.bytesLess, Op.bytesLess]
theorem xAi : ∀ {a b c : Str}, Op.bytesLess a b = true → Op.bytesLess b c = true → Op.bytesLess a c = true
  | _, _, [], _, h => by rw [xBd] at h; cases h
  | _, [], _ :: _, h, _ => by rw [xBd] at h; cases h
  | [], _ :: _, _ :: _, _, _ => rfl
  | x :: a, y :: b, z :: c, h1, h2 => by
    rw [blt_cons] at h1 h2 ⊢
    rcases h1 with h1 | ⟨rfl, h1⟩
    · rcases h2 with h2 | ⟨rfl, h2⟩
      · exact .inl (UInt8.lt_trans h1 h2)
      · exact .inl h1
    · rcases h2 with h2 | ⟨rfl, h2⟩
      · exact .inl h2
      · exact .inr ⟨rfl, xAi h1 h2⟩
theorem xBq : ∀ (a b : Str), Op.bytesLess a b = true ∨ a = b ∨ Op.bytesLess b a = true
  | [], [] => .inr (.inl rfl)
  | [], _ :: _ => .inl rfl
  | _ :: _, [] => .inr (.inr rfl)
  | x :: a, y :: b => by
    rw [blt_cons, blt_cons]
    by_cases h : x < y
    · exact .inl (.inl h)
    · by_cases h' : y < x
      · exact .inr (.inr (.inl h'))
      · have e : x = y := UInt8.le_antisymm (UInt8.not_lt.1 h') (UInt8.not_lt.1 h)
        subst e
        rcases xBq a b with h1 | h1 | h1
        · exact .inl (.inr ⟨rfl, h1⟩)
        · exact .inr (.inl (by rw [h1]))
        · exact .inr (.inr (.inr ⟨rfl, h1⟩))
theorem xBZ {a b : Str} (h : Op.bytesLess a b = true) : Op.bytesLess b a = false := by
  cases h' : Op.bytesLess b a with
  | false => rfl
  | true => have := xAi h h'; rw [xAj] at this; cases this
theorem xJV {a b : Str} (h : Op.bytesLess a b = true) : a ≠ b := by
  intro e; subst e; rw [xAj] at h; cases h
theorem xLu {a b : Str} (h : Op.bytesLess a b = false) (hne : a ≠ b) : Op.bytesLess b a = true := by
  rcases xBq a b with h1 | h1 | h1
  · rw [h] at h1; cases h1
  · exact absurd h1 hne
  · exact h1
def ble (a b : Str) : Bool := !Op.bytesLess b a
theorem ble_iff {a b : Str} : ble a b = true ↔ Op.bytesLess a b = true ∨ a = b := by
  unfold ble
  constructor
  · intro h
    have h : Op.bytesLess b a = false := by simpa using h
    rcases xBq a b with h1 | h1 | h1
    · exact .inl h1
    · exact .inr h1
    · rw [h] at h1; cases h1
  · rintro (h | rfl)
    · simp [xBZ h]
    · simp [xAj]
theorem xDE (a : Str) : ble a a = true := ble_iff.2 (.inr rfl)
theorem xAr {a b c : Str} (h1 : ble a b = true) (h2 : ble b c = true) : ble a c = true := by
  rw [ble_iff] at *
  rcases h1 with h1 | rfl
  · rcases h2 with h2 | rfl
    · exact .inl (xAi h1 h2)
    · exact .inl h1
  · exact h2
theorem xE5 {a b c : Str} (h1 : ble a b = true) (h2 : Op.bytesLess b c = true) : Op.bytesLess a c = true := by
  rw [ble_iff] at h1
  rcases h1 with h1 | rfl
  · exact xAi h1 h2
  · exact h2
theorem xAa {a b c : Str} (h1 : Op.bytesLess a b = true) (h2 : ble b c = true) : Op.bytesLess a c = true := by
  rw [ble_iff] at h2
  rcases h2 with h2 | rfl
  · exact xAi h1 h2
  · exact h1
theorem xP0 {a : Str} : Op.bytesLess [] a = true ↔ a ≠ [] := by cases a <;> simp [Op.bytesLess, Op.bytesLess]
theorem xDk (a : Str) : ble [] a = true := by simp [ble, xBd]
structure PairL where
  key : Str
  val : Str
  stamp : Int
  deriving DecidableEq
def Srt (t : List PairL) : Prop := t.Pairwise fun a b => Op.bytesLess a.key b.key = true
def xDP : List PairL → Bool
  | a :: b :: r => Op.bytesLess a.key b.key && xDP (b :: r)
  | _ => true
theorem xJi : ∀ {t : List PairL}, xDP t = true ↔ Srt t
  | [] => by simp [xDP, Srt]
  | [a] => by simp [xDP, Srt]
  | a :: b :: r => by
    rw [xDP, Bool.and_eq_true, xJi (t := b :: r)]
    unfold Srt
    rw [List.pairwise_cons (a := a)]
    constructor
    · rintro ⟨h1, h2⟩
      refine ⟨fun c hc => ?_, h2⟩
      rcases List.mem_cons.1 hc with rfl | hc
      · exact h1
      · exact xAi h1 ((List.pairwise_cons.1 h2).1 c hc)
    · rintro ⟨h1, h2⟩
      exact ⟨h1 b (by simp), h2⟩
def xCP (p : PairL) (s : List PairL × Bool) (x : PairL) : List PairL × Bool :=
  let s1 := if (!s.2 && !(Op.bytesLess x.key p.key)) = true then (s.1 ++ [p], true) else s
  (if (!(x.key == p.key)) = true then s1.1 ++ [x] else s1.1, s1.2)
def putL (t : List PairL) (p : PairL) : List PairL :=
  let s := t.foldl (xCP p) ([], false)
  if s.2 = true then s.1 else s.1 ++ [p]
def insL (p : PairL) : List PairL → List PairL
  | [] => [p]
  | x :: r => if Op.bytesLess x.key p.key = true then x :: insL p r else p :: (x :: r).filter fun y => !(y.key == p.key)
theorem putT (p : PairL) : ∀ (l o : List PairL), l.foldl (xCP p) (o, true) = (o ++ l.filter (fun y => !(y.key == p.key)), true)
  | [], o => by simp
  | x :: l, o => by
    rw [List.foldl_cons]
    have : xCP p (o, true) x = (o ++ [x].filter (fun y => !(y.key == p.key)), true) := by
      simp only [xCP, Bool.not_true, Bool.false_and, Bool.false_eq_true, if_false, List.filter_cons, List.filter_nil]
      split <;> simp
    rw [this, putT p l, List.append_assoc, ← List.filter_append]
    rfl
theorem putF (p : PairL) : ∀ (l o : List PairL), (if (l.foldl (xCP p) (o, false)).2 = true then (l.foldl (xCP p) (o, false)).1 else (l.foldl (xCP p) (o, false)).1 ++ [p]) = o ++ insL p l
  | [], o => by simp [insL]
  | x :: l, o => by
    rw [List.foldl_cons, insL]
    by_cases h : Op.bytesLess x.key p.key = true
    · have hne : (x.key == p.key) = false := by simpa using xJV h
      have : xCP p (o, false) x = (o ++ [x], false) := by
        simp [xCP, h, xJV h]
      rw [this, putF p l, if_pos h, List.append_assoc]
      rfl
    · have h' : Op.bytesLess x.key p.key = false := by simpa using h
      have : xCP p (o, false) x = (o ++ [p] ++ [x].filter (fun y => !(y.key == p.key)), true) := by
        simp only [xCP, Bool.not_false, h', Bool.and_self, if_true, List.filter_cons, List.filter_nil]
        split <;> simp
      rw [this, putT, if_neg h]
      simp only [if_true]
      rw [List.append_assoc, List.append_assoc, ← List.filter_append]
      rfl
theorem xMg (t : List PairL) (p : PairL) : putL t p = insL p t := by
  have := putF p t []
  simpa [putL] using this
theorem xK1 {p y : PairL} : ∀ {t : List PairL}, y ∈ insL p t → y = p ∨ y ∈ t
  | [], h => by simp [insL] at h; exact .inl h
  | x :: r, h => by
    rw [insL] at h
    split at h
    · rcases List.mem_cons.1 h with rfl | h
      · exact .inr (by simp)
      · rcases xK1 h with h | h
        · exact .inl h
        · exact .inr (List.mem_cons_of_mem _ h)
    · rcases List.mem_cons.1 h with rfl | h
      · exact .inl rfl
      · exact .inr (List.mem_filter.1 h).1
theorem xK0 {p : PairL} : ∀ {t : List PairL}, Srt t → Srt (insL p t)
  | [], _ => by simp [insL, Srt]
  | x :: r, h => by
    obtain ⟨h1, h2⟩ := List.pairwise_cons.1 h
    rw [insL]
    split
    · rename_i hx
      refine List.pairwise_cons.2 ⟨fun y hy => ?_, xK0 h2⟩
      rcases xK1 hy with rfl | hy
      · exact hx
      · exact h1 y hy
    · rename_i hx
      have hx : Op.bytesLess x.key p.key = false := by simpa using hx
      refine List.pairwise_cons.2 ⟨fun y hy => ?_, h.filter _⟩
      obtain ⟨hy1, hy2⟩ := List.mem_filter.1 hy
      have hne : y.key ≠ p.key := by simpa using hy2
      rcases List.mem_cons.1 hy1 with rfl | hy1
      · exact xLu hx hne
      · have := h1 y hy1
        rcases xBq p.key y.key with h3 | h3 | h3
        · exact h3
        · exact absurd h3.symm hne
        · have := xAi this h3
          rw [hx] at this; cases this
theorem xK2 {p : PairL} : ∀ t : List PairL, (insL p t).length ≤ t.length + 1
  | [] => by simp [insL]
  | x :: r => by
    rw [insL]
    split
    · have := xK2 (p := p) r; simp; omega
    · simp only [List.length_cons]
      have := List.length_filter_le (fun y : PairL => !(y.key == p.key)) (x :: r)
      simp at this ⊢
      omega
theorem putL_len (t : List PairL) (p : PairL) : (putL t p).length ≤ t.length + 1 := by rw [xMg]; exact xK2 t
theorem putL_srt {t : List PairL} {p : PairL} (h : Srt t) : Srt (putL t p) := by rw [xMg]; exact xK0 h
theorem xAl {α : Type} {l : List α} {i : Nat} {x : α} (h : l[i]? = some x) : l.drop i = x :: l.drop (i + 1) := by
  have hl := (List.getElem?_eq_some_iff.1 h).1
  rw [List.drop_eq_getElem_cons hl]
  congr 1
  exact (List.getElem?_eq_some_iff.1 h).2
theorem xPW {xs : List PairL} {i : Nat} {a b : PairL} (ha : xs[i]? = some a) (hb : xs[i + 1]? = some b) : xDP (xs.drop i) = (Op.bytesLess a.key b.key && xDP (xs.drop (i + 1))) := by
  rw [xAl ha, xAl hb, xDP]
end Go.Pu
set_option linter.unusedVariables false
namespace Go.Pu
structure SpanL where
  lo : Str
  hi : Str
  deriving DecidableEq
def hasL (s : SpanL) (k : Str) : Bool := !(Op.bytesLess k s.lo) && (s.hi == [] || Op.bytesLess k s.hi)
def xAH (s : SpanL) : Bool := !(s.hi == []) && (Op.bytesLess s.hi s.lo || s.hi == s.lo)
def xDi (a b : Str) : Int := if Op.bytesLess a b = true then -1 else if a = b then 0 else 1
def xDj (e f : Str) : Int := if e = f then 0 else if e = [] then 1 else if f = [] then -1 else xDi e f
def xBg (a b : Str) : Str := if xDj b a < 0 then b else a
def maxL (a b : Str) : Str := if Op.bytesLess a b = true then b else a
def xGE : SpanL := ⟨[97], [97]⟩
def xAV (a b : SpanL) : SpanL := if xAH ⟨maxL a.lo b.lo, xBg a.hi b.hi⟩ = true then xGE else ⟨maxL a.lo b.lo, xBg a.hi b.hi⟩
def xAs (a b : SpanL) : Bool := xAH b || (hasL a b.lo && decide (xDj a.hi b.hi ≥ 0))
def xCY (a b : Str) : Bool := !(a == []) && (b == [] || Op.bytesLess a b)
def xKR (a b : SpanL) : SpanL :=
  let s : SpanL := ⟨maxL a.lo b.lo, if xCY b.hi a.hi = true then b.hi else a.hi⟩
  if xAH s = true then xGE else s
def xFc (a b : SpanL) : Bool := xAH b || (!xAH a && (Op.bytesLess a.lo b.lo || a.lo == b.lo) && !xCY a.hi b.hi)
def xAG (k p : Str) : Bool := decide (k.length ≥ p.length) && (k.take p.length == p)
def xFH (k f t : Str) : Str × Bool := if xAG k f = true then (t ++ k.drop f.length, true) else ([], false)
def oneL (k : Str) : SpanL := ⟨k, k ++ [0]⟩
def xBO (p : Str) : Nat → Nat
  | 0 => 0
  | n + 1 => if p[n]? = some 255 then xBO p n else n + 1
def upL (p : Str) : Str :=
  match xBO p p.length with
  | 0 => []
  | n + 1 => p.take n ++ [p.getD n 0 + 1]
def xAU (p : Str) : SpanL := ⟨p, upL p⟩
theorem xIa (p : Str) : ∀ n, xBO p n ≤ n
  | 0 => Nat.le_refl _
  | n + 1 => by
    rw [xBO]
    split
    · exact Nat.le_succ_of_le (xIa p n)
    · exact Nat.le_refl _
theorem has_iff {s : SpanL} {k : Str} : hasL s k = true ↔ ble s.lo k = true ∧ (s.hi = [] ∨ Op.bytesLess k s.hi = true) := by
  simp [hasL, ble]
theorem empty_iff {s : SpanL} : xAH s = true ↔ s.hi ≠ [] ∧ ble s.hi s.lo = true := by
  simp only [xAH, Bool.and_eq_true, Bool.not_eq_true', Bool.or_eq_true, beq_iff_eq, beq_eq_false_iff_ne, ble_iff]
theorem xAR {s : SpanL} (h : xAH s = true) (k : Str) : hasL s k = false := by
  cases hk : hasL s k with
  | false => rfl
  | true =>
    obtain ⟨h1, h2⟩ := empty_iff.1 h
    obtain ⟨h3, h4⟩ := has_iff.1 hk
    rcases h4 with h4 | h4
    · exact absurd h4 h1
    · have := xAa h4 (xAr h2 h3)
      rw [xAj] at this; cases this
theorem xCt {s : SpanL} (h : xAH s = false) : hasL s s.lo = true := by
  refine has_iff.2 ⟨xDE _, ?_⟩
  by_cases he : s.hi = []
  · exact .inl he
  · right
    cases hb : Op.bytesLess s.lo s.hi with
    | true => rfl
    | false =>
      have : xAH s = true := empty_iff.2 ⟨he, by simp [ble, hb]⟩
      rw [h] at this; cases this
def elt (a b : Str) : Prop := a ≠ [] ∧ (b = [] ∨ Op.bytesLess a b = true)
theorem less_iff {a b : Str} : xCY a b = true ↔ elt a b := by simp [xCY, elt]
theorem xJP {a b : Str} : xDi a b < 0 ↔ Op.bytesLess a b = true := by
  unfold xDi
  split
  · rename_i h; simp [h]
  · rename_i h
    split <;> simp [h]
theorem xNp {a b : Str} : xDi a b = 0 ↔ a = b := by
  unfold xDi
  split
  · rename_i h
    constructor
    · intro h'; simp at h'
    · intro e; subst e; rw [xAj] at h; cases h
  · split
    · rename_i h; simp [h]
    · rename_i h; simp [h]
theorem cmpEnd_lt {a b : Str} : xDj a b < 0 ↔ elt a b := by
  unfold xDj elt
  split
  · rename_i h
    subst h
    simp
    intro h; exact ⟨h, xAj a⟩
  · rename_i h
    split
    · rename_i h1; simp [h1]
    · rename_i h1
      split
      · rename_i h2; simp [h1, h2]
      · rename_i h2; simp [h1, h2, xJP]
theorem cmpEnd_eq {a b : Str} : xDj a b = 0 ↔ a = b := by
  unfold xDj
  split
  · rename_i h; simp [h]
  · rename_i h
    split
    · simp [h]
    · split
      · simp [h]
      · rw [xNp]
theorem xDa (a b : Str) : xBg a b = if xCY b a = true then b else a := by
  unfold xBg
  by_cases h : elt b a
  · rw [if_pos (cmpEnd_lt.2 h), if_pos (less_iff.2 h)]
  · rw [if_neg (fun h' => h (cmpEnd_lt.1 h')), if_neg (fun h' => h (less_iff.1 h'))]
theorem xFf (a b : SpanL) : xAV a b = xKR a b := by
  unfold xAV xKR
  rw [xDa]
theorem xNb (a b : Str) : elt a b ∨ a = b ∨ elt b a := by
  unfold elt
  by_cases ha : a = []
  · by_cases hb : b = []
    · exact .inr (.inl (ha.trans hb.symm))
    · exact .inr (.inr ⟨hb, .inl ha⟩)
  · by_cases hb : b = []
    · exact .inl ⟨ha, .inl hb⟩
    · rcases xBq a b with h | h | h
      · exact .inl ⟨ha, .inr h⟩
      · exact .inr (.inl h)
      · exact .inr (.inr ⟨hb, .inr h⟩)
theorem xGr {a b : Str} (h : elt a b) : ¬ elt b a := by
  rintro ⟨h1, h2⟩
  obtain ⟨h3, h4⟩ := h
  rcases h4 with h4 | h4
  · exact h1 h4
  · rcases h2 with h2 | h2
    · exact h3 h2
    · rw [xBZ h4] at h2; cases h2
theorem xPg {a : Str} : ¬ elt a a := fun h => xGr h h
theorem xLo (a b : SpanL) : xAs a b = xFc a b := by
  unfold xAs xFc
  cases hb : xAH b with
  | true => rfl
  | false =>
    simp only [Bool.false_or]
    have key : decide (xDj a.hi b.hi ≥ 0) = !xCY a.hi b.hi := by
      rw [Bool.eq_iff_iff]
      simp only [decide_eq_true_eq, Bool.not_eq_true']
      constructor
      · intro h
        cases hl : xCY a.hi b.hi with
        | false => rfl
        | true => have := cmpEnd_lt.2 (less_iff.1 hl); omega
      · intro h
        have : ¬ xDj a.hi b.hi < 0 := fun h' => by rw [less_iff.2 (cmpEnd_lt.1 h')] at h; cases h
        omega
    rw [key]
    cases hl : xCY a.hi b.hi with
    | true => simp
    | false =>
      simp only [Bool.not_false, Bool.and_true]
      rw [Bool.eq_iff_iff, has_iff, Bool.and_eq_true, Bool.not_eq_true', Bool.or_eq_true, beq_iff_eq, ← ble_iff]
      constructor
      · rintro ⟨h1, h2⟩
        refine ⟨?_, h1⟩
        cases he : xAH a with
        | false => rfl
        | true =>
          have := xAR he b.lo
          rw [has_iff.2 ⟨h1, h2⟩] at this; cases this
      · rintro ⟨h1, h2⟩
        refine ⟨h2, ?_⟩
        by_cases ha : a.hi = []
        · exact .inl ha
        · right
          have hbl := (has_iff.1 (xCt hb)).2
          have hn : ¬ elt a.hi b.hi := fun h => by rw [less_iff.2 h] at hl; cases hl
          rcases hbl with hbl | hbl
          · exact absurd ⟨ha, .inl hbl⟩ hn
          · rcases xBq a.hi b.hi with h | h | h
            · exact absurd ⟨ha, .inr h⟩ hn
            · rw [h]; exact hbl
            · exact xAi hbl h
theorem xGN {a b k : Str} : ble (maxL a b) k = true ↔ ble a k = true ∧ ble b k = true := by
  unfold maxL
  split
  · rename_i h
    exact ⟨fun h' => ⟨xAr (ble_iff.2 (.inl h)) h', h'⟩, fun h' => h'.2⟩
  · rename_i h
    have h : ble b a = true := by simp [ble, h]
    exact ⟨fun h' => ⟨h', xAr h h'⟩, fun h' => h'.1⟩
theorem xNG {a b k : Str} : (xBg a b = [] ∨ Op.bytesLess k (xBg a b) = true) ↔ (a = [] ∨ Op.bytesLess k a = true) ∧ (b = [] ∨ Op.bytesLess k b = true) := by
  rw [xDa]
  split
  · rename_i h
    obtain ⟨h1, h2⟩ := less_iff.1 h
    constructor
    · rintro (h3 | h3)
      · exact absurd h3 h1
      · refine ⟨?_, .inr h3⟩
        rcases h2 with h2 | h2
        · exact .inl h2
        · exact .inr (xAi h3 h2)
    · exact fun h => h.2
  · rename_i h
    have h : ¬ elt b a := fun h' => h (less_iff.2 h')
    constructor
    · intro h3
      refine ⟨h3, ?_⟩
      by_cases hb : b = []
      · exact .inl hb
      · right
        rcases h3 with h3 | h3
        · exact absurd ⟨hb, .inl h3⟩ h
        · rcases xBq b a with h4 | h4 | h4
          · exact absurd ⟨hb, .inr h4⟩ h
          · rw [h4]; exact h3
          · exact xAi h3 h4
    · exact fun h => h.1
theorem xBn (a b : SpanL) (k : Str) : hasL (xAV a b) k = (hasL a k && hasL b k) := by
  have key : hasL ⟨maxL a.lo b.lo, xBg a.hi b.hi⟩ k = (hasL a k && hasL b k) := by
    rw [Bool.eq_iff_iff, Bool.and_eq_true, has_iff, has_iff, has_iff]
    simp only
    rw [xGN, xNG]
    constructor
    · rintro ⟨⟨h1, h2⟩, h3, h4⟩; exact ⟨⟨h1, h3⟩, h2, h4⟩
    · rintro ⟨⟨h1, h2⟩, h3, h4⟩; exact ⟨⟨h1, h3⟩, h2, h4⟩
  unfold xAV
  split
  · rename_i h
    rw [← key, xAR h]
    exact xAR (s := xGE) (by decide) k
  · exact key
theorem xOt (a b : Str) : maxL a b = maxL b a := by
  unfold maxL
  rcases xBq a b with h | h | h
  · rw [if_pos h, if_neg (by simp [xBZ h])]
  · subst h; rfl
  · rw [if_neg (by simp [xBZ h]), if_pos h]
theorem xLf (a b : Str) : xBg a b = xBg b a := by
  rw [xDa, xDa]
  rcases xNb a b with h | h | h
  · rw [if_neg (fun h' => xGr h (less_iff.1 h')), if_pos (less_iff.2 h)]
  · subst h; rfl
  · rw [if_pos (less_iff.2 h), if_neg (fun h' => xGr h (less_iff.1 h'))]
theorem xM3 (a b : SpanL) : xAV a b = xAV b a := by
  unfold xAV
  rw [xOt a.lo, xLf a.hi]
theorem meet_empty {a b : SpanL} (h : xAH (xAV a b) = true) : xAV a b = xGE := by
  unfold xAV at h ⊢
  split
  · rfl
  · rename_i h1
    rw [if_neg h1] at h
    exact absurd h h1
theorem xJr (k x : Str) : hasL (oneL k) x = (x == k) := by
  rw [Bool.eq_iff_iff, has_iff, beq_iff_eq]
  simp only [oneL]
  constructor
  · rintro ⟨h1, h2 | h2⟩
    · simp at h2
    · -- k ≤ x < k ++ [0]
      have key : ∀ k x : Str, ble k x = true → Op.bytesLess x (k ++ [0]) = true → x = k := by
        intro k
        induction k with
        | nil =>
          intro x h1 h2
          cases x with
          | nil => rfl
          | cons a x =>
            rw [List.nil_append, blt_cons] at h2
            rcases h2 with h2 | ⟨_, h2⟩
            · exact absurd h2 (UInt8.not_lt.2 (UInt8.le_iff_toNat_le.2 (by simp)))
            · rw [xBd] at h2; cases h2
        | cons b k ih =>
          intro x h1 h2
          cases x with
          | nil =>
            rw [ble_iff] at h1
            rcases h1 with h1 | h1
            · rw [xBd] at h1; cases h1
            · cases h1
          | cons a x =>
            rw [List.cons_append, blt_cons] at h2
            have h1' : ¬ (a < b ∨ a = b ∧ Op.bytesLess x k = true) := by
              intro h
              have h3 := blt_cons.2 h
              have h4 : Op.bytesLess (a :: x) (b :: k) = false := by simpa [ble] using h1
              rw [h4] at h3; cases h3
            rcases h2 with h2 | ⟨rfl, h2⟩
            · exact absurd (.inl h2) h1'
            · have : ble k x = true := by
                simp only [ble, Bool.not_eq_true']
                cases hx : Op.bytesLess x k with
                | false => rfl
                | true => exact absurd (.inr ⟨rfl, hx⟩) h1'
              rw [ih x this h2]
      exact key k x h1 h2
  · rintro rfl
    refine ⟨xDE _, .inr ?_⟩
    induction x with
    | nil => rfl
    | cons a x ih => exact blt_cons.2 (.inr ⟨rfl, ih⟩)
end Go.Pu
set_option linter.unusedVariables false
namespace Go.Pu
theorem begins_iff {k p : Str} : xAG k p = true ↔ ∃ r, k = p ++ r := by
  simp only [xAG, Bool.and_eq_true, decide_eq_true_eq, beq_iff_eq]
  constructor
  · rintro ⟨h1, h2⟩
    refine ⟨k.drop p.length, ?_⟩
    have := List.take_append_drop p.length k
    rw [h2] at this
    exact this.symm
  · rintro ⟨r, rfl⟩
    simp
theorem xEM {p a b : Str} : Op.bytesLess (p ++ a) (p ++ b) = Op.bytesLess a b := by
  induction p with
  | nil => rfl
  | cons x p ih =>
    rw [Bool.eq_iff_iff, List.cons_append, List.cons_append, blt_cons, ih]
    simp [UInt8.lt_irrefl]
theorem xCl {p a b : Str} : ble (p ++ a) (p ++ b) = ble a b := by simp [ble, xEM]
theorem xCf (p r : Str) : ble p (p ++ r) = true := by
  have := xCl (p := p) (a := []) (b := r)
  rw [List.append_nil] at this
  rw [this]; exact xDk r
theorem xFz (p : Str) : ∀ n, n ≤ p.length → (∀ i, xBO p n ≤ i → i < n → p[i]? = some 255) ∧ (∀ m, xBO p n = m + 1 → p[m]? ≠ some 255)
  | 0, _ => ⟨fun i _ h => by omega, fun m h => by cases h⟩
  | n + 1, hn => by
    obtain ⟨h1, h2⟩ := xFz p n (by omega)
    by_cases h : p[n]? = some 255
    · have e : xBO p (n + 1) = xBO p n := by rw [xBO, if_pos h]
      rw [e]
      refine ⟨fun i hi hl => ?_, h2⟩
      by_cases he : i = n
      · subst he; exact h
      · exact h1 i hi (by omega)
    · have e : xBO p (n + 1) = n + 1 := by rw [xBO, if_neg h]
      rw [e]
      refine ⟨fun i hi hl => by omega, fun m hm => ?_⟩
      have : m = n := by omega
      subst this; exact h
theorem lt_up {c : UInt8} (h : c ≠ 255) : c < c + 1 := by
  rw [UInt8.lt_iff_toNat_lt]
  have h1 : c.toNat ≠ 255 := fun e => h (UInt8.toNat_inj.1 e)
  have h2 : c.toNat < 256 := c.toNat_lt
  rw [UInt8.toNat_add]
  simp
  omega
theorem up_le {c x : UInt8} (h : c ≠ 255) (hx : x < c + 1) : x ≤ c := by
  rw [UInt8.lt_iff_toNat_lt, UInt8.toNat_add] at hx
  rw [UInt8.le_iff_toNat_le]
  have h1 : c.toNat ≠ 255 := fun e => h (UInt8.toNat_inj.1 e)
  have h2 : c.toNat < 256 := c.toNat_lt
  simp at hx
  omega
theorem le_255 (x : UInt8) : x ≤ 255 := by
  rw [UInt8.le_iff_toNat_le]
  have := x.toNat_lt
  show x.toNat ≤ 255
  omega
theorem xE6 : ∀ (p k : Str), (∀ c ∈ p, c = 255) → ble p k = true → xAG k p = true
  | [], k, _, _ => begins_iff.2 ⟨k, rfl⟩
  | c :: p, k, h, hk => by
    cases k with
    | nil =>
      rw [ble_iff] at hk
      rcases hk with hk | hk
      · rw [xBd] at hk; cases hk
      · cases hk
    | cons x k =>
      have hc : c = 255 := h c (by simp)
      subst hc
      have hx : ¬ (x < 255 ∨ x = 255 ∧ Op.bytesLess k p = true) := by
        intro h'
        have := blt_cons.2 h'
        simp [ble, this] at hk
      have hxe : x = 255 := UInt8.le_antisymm (le_255 x) (UInt8.not_lt.1 (fun h' => hx (.inl h')))
      subst hxe
      have : ble p k = true := by
        simp only [ble, Bool.not_eq_true']
        cases hb : Op.bytesLess k p with
        | false => rfl
        | true => exact absurd (.inr ⟨rfl, hb⟩) hx
      obtain ⟨r, rfl⟩ := begins_iff.1 (xE6 p k (fun c hc => h c (by simp [hc])) this)
      exact begins_iff.2 ⟨r, rfl⟩
theorem xNx {a : Str} {c : UInt8} {q : Str} (hc : c ≠ 255) (hq : ∀ x ∈ q, x = 255) (k : Str) : (ble (a ++ c :: q) k = true ∧ Op.bytesLess k (a ++ [c + 1]) = true) ↔ xAG k (a ++ c :: q) = true := by
  constructor
  · rintro ⟨h1, h2⟩
    have ha : ∀ (a k : Str), ble (a ++ c :: q) k = true → Op.bytesLess k (a ++ [c + 1]) = true → ∃ r, k = a ++ r := by
      intro a
      induction a with
      | nil => intro k _ _; exact ⟨k, rfl⟩
      | cons x a ih =>
        intro k h1 h2
        cases k with
        | nil =>
          rw [ble_iff] at h1
          rcases h1 with h1 | h1
          · rw [xBd] at h1; cases h1
          · cases h1
        | cons y k =>
          rw [List.cons_append, blt_cons] at h2
          have h1' : ¬ (y < x ∨ y = x ∧ Op.bytesLess k (a ++ c :: q) = true) := by
            intro h'
            have := blt_cons.2 h'
            rw [List.cons_append] at h1
            simp [ble, this] at h1
          have hxy : y = x := by
            rcases h2 with h2 | ⟨h2, _⟩
            · exact absurd (.inl h2) h1'
            · exact h2
          subst hxy
          have h2' : Op.bytesLess k (a ++ [c + 1]) = true := by
            rcases h2 with h2 | ⟨_, h2⟩
            · exact absurd h2 (UInt8.lt_irrefl _)
            · exact h2
          have : ble (a ++ c :: q) k = true := by
            simp only [ble, Bool.not_eq_true']
            cases hb : Op.bytesLess k (a ++ c :: q) with
            | false => rfl
            | true => exact absurd (.inr ⟨rfl, hb⟩) h1'
          obtain ⟨r, rfl⟩ := ih k this h2'
          exact ⟨r, rfl⟩
    obtain ⟨r, rfl⟩ := ha a k h1 h2
    rw [xCl] at h1
    rw [xEM] at h2
    cases r with
    | nil =>
      rw [ble_iff] at h1
      rcases h1 with h1 | h1
      · rw [xBd] at h1; cases h1
      · cases h1
    | cons y r =>
      rw [blt_cons] at h2
      have hyc : y ≤ c := by
        rcases h2 with h2 | ⟨_, h2⟩
        · exact up_le hc h2
        · rw [xBd] at h2; cases h2
      have h1' : ¬ (y < c ∨ y = c ∧ Op.bytesLess r q = true) := by
        intro h'
        have := blt_cons.2 h'
        simp [ble, this] at h1
      have hye : y = c := UInt8.le_antisymm hyc (UInt8.not_lt.1 (fun h' => h1' (.inl h')))
      subst hye
      have : ble q r = true := by
        simp only [ble, Bool.not_eq_true']
        cases hb : Op.bytesLess r q with
        | false => rfl
        | true => exact absurd (.inr ⟨rfl, hb⟩) h1'
      obtain ⟨s, rfl⟩ := begins_iff.1 (xE6 q r hq this)
      exact begins_iff.2 ⟨s, by simp⟩
  · intro h
    obtain ⟨r, rfl⟩ := begins_iff.1 h
    refine ⟨xCf _ _, ?_⟩
    rw [List.append_assoc, xEM, List.cons_append]
    exact blt_cons.2 (.inl (lt_up hc))
theorem xFy (p : Str) : (upL p = [] ∧ ∀ c ∈ p, c = 255) ∨ ∃ a c q, p = a ++ c :: q ∧ c ≠ 255 ∧ (∀ x ∈ q, x = 255) ∧ upL p = a ++ [c + 1] := by
  obtain ⟨h1, h2⟩ := xFz p p.length (Nat.le_refl _)
  have hle := xIa p p.length
  unfold upL
  cases hs : xBO p p.length with
  | zero =>
    left
    refine ⟨rfl, fun c hc => ?_⟩
    obtain ⟨i, hi⟩ := List.mem_iff_getElem?.1 hc
    have := h1 i (by omega) (List.getElem?_eq_some_iff.1 hi).1
    rw [hi] at this
    simpa using this
  | succ n =>
    right
    have hn : n < p.length := by omega
    have hg : p[n]? = some p[n] := List.getElem?_eq_getElem hn
    refine ⟨p.take n, p[n], p.drop (n + 1), ?_, ?_, ?_, ?_⟩
    · rw [← List.drop_eq_getElem_cons hn, List.take_append_drop]
    · intro e
      rw [e] at hg
      exact h2 n hs hg
    · intro x hx
      obtain ⟨i, hi⟩ := List.mem_iff_getElem?.1 hx
      rw [List.getElem?_drop] at hi
      have := h1 (n + 1 + i) (by omega) (List.getElem?_eq_some_iff.1 hi).1
      rw [hi] at this
      simpa using this
    · simp only [List.getD, hg, Option.getD_some]
theorem xA8 (p k : Str) : hasL (xAU p) k = xAG k p := by
  rw [Bool.eq_iff_iff, has_iff]
  simp only [xAU]
  rcases xFy p with ⟨h1, h2⟩ | ⟨a, c, q, rfl, hc, hq, hu⟩
  · rw [h1]
    constructor
    · rintro ⟨h3, _⟩; exact xE6 p k h2 h3
    · intro h
      obtain ⟨r, rfl⟩ := begins_iff.1 h
      exact ⟨xCf _ _, .inl rfl⟩
  · rw [hu, ← xNx hc hq k]
    constructor
    · rintro ⟨h3, h4 | h4⟩
      · simp at h4
      · exact ⟨h3, h4⟩
    · rintro ⟨h3, h4⟩; exact ⟨h3, .inr h4⟩
theorem xB3 (p : Str) : xAH (xAU p) = false := by
  cases h : xAH (xAU p) with
  | false => rfl
  | true =>
    have := xAR h p
    rw [xA8, begins_iff.2 ⟨[], by simp⟩] at this
    cases this
theorem xEU (p : Str) : xAH (oneL p) = false := by
  cases h : xAH (oneL p) with
  | false => rfl
  | true =>
    have := xAR h p
    rw [xJr] at this
    simp at this
theorem xJd (p : Str) : (upL p).length ≤ p.length := by
  rcases xFy p with ⟨h1, _⟩ | ⟨a, c, q, rfl, _, _, hu⟩
  · rw [h1]; simp
  · rw [hu]; simp
theorem moved_app (f x t : Str) : xFH (f ++ x) f t = (t ++ x, true) := by
  have : xAG (f ++ x) f = true := begins_iff.2 ⟨x, rfl⟩
  simp [xFH, this]
theorem moved_not {k f t : Str} (h : xAG k f = false) : xFH k f t = ([], false) := by simp [xFH, h]
end Go.Pu
set_option linter.unusedVariables false
set_option linter.unusedSimpArgs false
namespace Go.Pu
theorem xDl {a b : Str} (h1 : ble a b = true) (h2 : ble b a = true) : a = b := by
  rcases ble_iff.1 h1 with h | h
  · rw [ble, Bool.not_eq_true', h] at h2; cases h2
  · exact h
def insI (s : SpanL) : List SpanL → List SpanL → Bool → List SpanL × Bool
  | [], o, d => (o, d)
  | y :: l, o, d => if d = false ∧ Op.bytesLess s.lo y.lo = true then insI s l (o ++ [s] ++ [y]) true else insI s l (o ++ [y]) d
def insS (l : List SpanL) (s : SpanL) : List SpanL :=
  if (insI s l [] (xAH s)).2 = false then (insI s l [] (xAH s)).1 ++ [s] else (insI s l [] (xAH s)).1
def xHv (l : List SpanL) : List SpanL := l.foldl insS []
def xBr (out : List SpanL) (s : SpanL) : List SpanL :=
  match out[out.length - 1]? with
  | none => out ++ [s]
  | some x => if x.hi ≠ [] ∧ Op.bytesLess x.hi s.lo = true then out ++ [s] else if xCY x.hi s.hi = true then out.set (out.length - 1) ⟨x.lo, s.hi⟩ else out
def xJv (l : List SpanL) : List SpanL := l.foldl xBr []
def xAd (l : List SpanL) : List SpanL := xJv (xHv l)
theorem xIH (s : SpanL) : ∀ (l o : List SpanL) (d : Bool), (insI s l o d).1.length = o.length + l.length + (if d = false ∧ (insI s l o d).2 = true then 1 else 0)
  | [], o, d => by cases d <;> simp [insI]
  | y :: l, o, d => by
    unfold insI
    split
    · rename_i h
      have h2 : ∀ (l o : List SpanL), (insI s l o true).2 = true := by
        intro l
        induction l with
        | nil => intro o; rfl
        | cons z l ih => intro o; unfold insI; rw [if_neg (by simp)]; exact ih _
      have := xIH s l (o ++ [s] ++ [y]) true
      rw [h2, h.1]
      simp at this ⊢
      omega
    · have := xIH s l (o ++ [y]) d
      simp only [List.length_append, List.length_cons, List.length_nil] at this ⊢
      omega
theorem xIF (l : List SpanL) (s : SpanL) : (insS l s).length ≤ l.length + 1 := by
  have := xIH s l [] (xAH s)
  unfold insS
  generalize insI s l [] (xAH s) = r at this
  generalize xAH s = d at this
  obtain ⟨r1, r2⟩ := r
  cases r2 <;> cases d <;> simp at this ⊢ <;> omega
theorem xF0 (out : List SpanL) (s : SpanL) : (xBr out s).length ≤ out.length + 1 := by
  unfold xBr
  split
  · simp
  · split
    · simp
    · split
      · simp
      · omega
theorem xMv (l : List SpanL) : (xJv l).length ≤ l.length := by
  have key : ∀ (l o : List SpanL), (l.foldl xBr o).length ≤ o.length + l.length := by
    intro l
    induction l with
    | nil => intro o; exact Nat.le_refl _
    | cons s l ih =>
      intro o
      have := xF0 o s
      have := ih (xBr o s)
      simp only [List.foldl_cons, List.length_cons] at this ⊢
      omega
  have := key l []
  simpa [xJv] using this
def Lo (l : List SpanL) : Prop := l.Pairwise (fun a b => ble a.lo b.lo = true)
theorem xDA (s : SpanL) : ∀ (l o : List SpanL) (d : Bool), insI s l o d = (o ++ (insI s l [] d).1, (insI s l [] d).2)
  | [], o, d => by simp [insI]
  | y :: l, o, d => by
    unfold insI
    split
    · rw [xDA s l (o ++ [s] ++ [y]), xDA s l ([] ++ [s] ++ [y])]; simp
    · rw [xDA s l (o ++ [y]), xDA s l ([] ++ [y])]; simp
def insP (s : SpanL) : List SpanL → List SpanL
  | [] => [s]
  | y :: l => if Op.bytesLess s.lo y.lo = true then s :: y :: l else y :: insP s l
theorem xGb (s : SpanL) : ∀ (l : List SpanL), insI s l [] true = (l, true)
  | [] => rfl
  | y :: l => by
    unfold insI
    rw [if_neg (by simp), xDA, xGb s l]; simp
theorem xQ9 (l : List SpanL) (s : SpanL) : insS l s = if xAH s = true then l else insP s l := by
  unfold insS
  cases he : xAH s with
  | true => rw [xGb]; simp
  | false =>
    have key : ∀ l : List SpanL, (if (insI s l [] false).2 = false then (insI s l [] false).1 ++ [s] else (insI s l [] false).1) = insP s l := by
      intro l
      induction l with
      | nil => simp [insI, insP]
      | cons y l ih =>
        have hI : insI s (y :: l) [] false = if Op.bytesLess s.lo y.lo = true then (s :: y :: l, true) else (y :: (insI s l [] false).1, (insI s l [] false).2) := by
          rw [insI]
          by_cases h : Op.bytesLess s.lo y.lo = true
          · rw [if_pos ⟨rfl, h⟩, if_pos h, xDA, xGb]; simp
          · rw [if_neg (by simp [h]), if_neg h, xDA]; simp
        rw [hI, insP]
        by_cases h : Op.bytesLess s.lo y.lo = true
        · rw [if_pos h, if_pos h]; simp
        · rw [if_neg h, if_neg h, ← ih]
          cases h2 : (insI s l [] false).2 <;> simp [h2]
    simpa using key l
theorem insP_mem {s x : SpanL} : ∀ {l : List SpanL}, x ∈ insP s l ↔ x = s ∨ x ∈ l
  | [] => by simp [insP]
  | y :: l => by
    unfold insP
    split
    · simp
    · simp only [List.mem_cons, insP_mem (l := l)]
      constructor
      · rintro (h | h | h)
        · exact .inr (.inl h)
        · exact .inl h
        · exact .inr (.inr h)
      · rintro (h | h | h)
        · exact .inr (.inl h)
        · exact .inl h
        · exact .inr (.inr h)
theorem xNP {s : SpanL} : ∀ {l : List SpanL}, Lo l → Lo (insP s l)
  | [], _ => by simp [insP, Lo]
  | y :: l, h => by
    unfold insP
    obtain ⟨h1, h2⟩ := List.pairwise_cons.1 h
    split
    · rename_i hb
      refine List.pairwise_cons.2 ⟨fun z hz => ?_, h⟩
      have hsy : ble s.lo y.lo = true := ble_iff.2 (.inl hb)
      rcases List.mem_cons.1 hz with rfl | hz
      · exact hsy
      · exact xAr hsy (h1 z hz)
    · rename_i hb
      refine List.pairwise_cons.2 ⟨fun z hz => ?_, xNP h2⟩
      rcases insP_mem.1 hz with rfl | hz
      · simp [ble, hb]
      · exact h1 z hz
theorem xEj (l : List SpanL) : Lo (xHv l) ∧ (∀ s ∈ xHv l, xAH s = false) ∧ ∀ s, s ∈ xHv l ↔ s ∈ l ∧ xAH s = false := by
  have key : ∀ (l o : List SpanL), Lo o → (∀ s ∈ o, xAH s = false) → Lo (l.foldl insS o) ∧ (∀ s ∈ l.foldl insS o, xAH s = false) ∧ ∀ s, s ∈ l.foldl insS o ↔ s ∈ o ∨ (s ∈ l ∧ xAH s = false) := by
    intro l
    induction l with
    | nil => intro o h1 h2; exact ⟨h1, h2, fun s => by simp⟩
    | cons x l ih =>
      intro o h1 h2
      have hx := xQ9 o x
      cases he : xAH x with
      | true =>
        rw [he, if_pos rfl] at hx
        obtain ⟨g1, g2, g3⟩ := ih o h1 h2
        rw [List.foldl_cons, hx]
        refine ⟨g1, g2, fun s => (g3 s).trans ?_⟩
        constructor
        · rintro (h | ⟨h, h'⟩)
          · exact .inl h
          · exact .inr ⟨by simp [h], h'⟩
        · rintro (h | ⟨h, h'⟩)
          · exact .inl h
          · rcases List.mem_cons.1 h with rfl | h
            · rw [he] at h'; cases h'
            · exact .inr ⟨h, h'⟩
      | false =>
        rw [he, if_neg (by simp)] at hx
        obtain ⟨g1, g2, g3⟩ := ih (insP x o) (xNP h1) (fun s hs => by rcases insP_mem.1 hs with rfl | hs; exact he; exact h2 s hs)
        rw [List.foldl_cons, hx]
        refine ⟨g1, g2, fun s => (g3 s).trans ?_⟩
        rw [insP_mem]
        constructor
        · rintro ((h | h) | ⟨h, h'⟩)
          · subst h; exact .inr ⟨by simp, he⟩
          · exact .inl h
          · exact .inr ⟨by simp [h], h'⟩
        · rintro (h | ⟨h, h'⟩)
          · exact .inl (.inr h)
          · rcases List.mem_cons.1 h with rfl | h
            · exact .inl (.inl rfl)
            · exact .inr ⟨h, h'⟩
  obtain ⟨h1, h2, h3⟩ := key l [] List.Pairwise.nil (by simp)
  exact ⟨h1, h2, fun s => (h3 s).trans (by simp)⟩
def inL (l : List SpanL) (k : Str) : Bool := l.any (fun s => hasL s k)
theorem inL_iff {l : List SpanL} {k : Str} : inL l k = true ↔ ∃ s ∈ l, hasL s k = true := by simp [inL]
def sep (a b : SpanL) : Prop := a.hi ≠ [] ∧ Op.bytesLess a.hi b.lo = true
structure Nrm (l : List SpanL) : Prop where
  ne : ∀ s ∈ l, xAH s = false
  pw : l.Pairwise sep
theorem Nrm.tail {s : SpanL} {l : List SpanL} (h : Nrm (s :: l)) : Nrm l := ⟨fun t ht => h.ne t (by simp [ht]), (List.pairwise_cons.1 h.pw).2⟩
theorem xBA {s : SpanL} (h : xAH s = false) (hh : s.hi ≠ []) : Op.bytesLess s.lo s.hi = true := by
  have := (has_iff.1 (xCt h)).2
  rcases this with h1 | h1
  · exact absurd h1 hh
  · exact h1
theorem Nrm.above {s : SpanL} {l : List SpanL} (h : Nrm (s :: l)) {k : Str} (hk : inL l k = true) : s.hi ≠ [] ∧ Op.bytesLess s.hi k = true := by
  obtain ⟨t, ht, hk⟩ := inL_iff.1 hk
  obtain ⟨h1, h2⟩ := (List.pairwise_cons.1 h.pw).1 t ht
  exact ⟨h1, xAa h2 (has_iff.1 hk).1⟩
theorem xAT {s : SpanL} {l : List SpanL} {k : Str} : inL (s :: l) k = (hasL s k || inL l k) := by simp [inL]
theorem Nrm.ext : ∀ {l m : List SpanL}, Nrm l → Nrm m → (∀ k, inL l k = inL m k) → l = m
  | [], [], _, _, _ => rfl
  | [], t :: m, _, h, hk => by
    have := hk t.lo
    rw [xAT, xCt (h.ne t (by simp))] at this
    simp [inL] at this
  | s :: l, [], h, _, hk => by
    have := hk s.lo
    rw [xAT, xCt (h.ne s (by simp))] at this
    simp [inL] at this
  | s :: l, t :: m, h, g, hk => by
    have least : ∀ {s : SpanL} {l : List SpanL}, Nrm (s :: l) → ∀ {k : Str}, inL (s :: l) k = true → ble s.lo k = true := by
      intro s l h k hk
      rw [xAT, Bool.or_eq_true] at hk
      rcases hk with hk | hk
      · exact (has_iff.1 hk).1
      · obtain ⟨h1, h2⟩ := h.above hk
        exact ble_iff.2 (.inl (xAi (xBA (h.ne s (by simp)) h1) h2))
    have hlo : s.lo = t.lo := by
      have h1 := least h (k := t.lo) (by rw [hk, xAT, xCt (g.ne t (by simp))]; rfl)
      have h2 := least g (k := s.lo) (by rw [← hk, xAT, xCt (h.ne s (by simp))]; rfl)
      exact xDl h1 h2
    have ends : ∀ {s t : SpanL} {l m : List SpanL}, Nrm (s :: l) → Nrm (t :: m) → (∀ k, inL (s :: l) k = inL (t :: m) k) → s.lo = t.lo → ¬ elt s.hi t.hi := by
      intro s t l m h g hk hlo he
      have hs := xBA (h.ne s (by simp)) he.1
      have h1 : hasL t s.hi = true := has_iff.2 ⟨ble_iff.2 (.inl (hlo ▸ hs)), he.2⟩
      have h2 := hk s.hi
      rw [xAT (s := t), h1, xAT] at h2
      have h3 : hasL s s.hi = false := by
        cases h4 : hasL s s.hi with
        | false => rfl
        | true =>
          rcases (has_iff.1 h4).2 with h5 | h5
          · exact absurd h5 he.1
          · rw [xAj] at h5; cases h5
      rw [h3] at h2
      have h4 : inL l s.hi = true := by simpa using h2
      have := (h.above h4).2
      rw [xAj] at this; cases this
    have hhi : s.hi = t.hi := by
      rcases xNb s.hi t.hi with e | e | e
      · exact absurd e (ends h g hk hlo)
      · exact e
      · exact absurd e (ends g h (fun k => (hk k).symm) hlo.symm)
    have hst : s = t := by cases s; cases t; simp_all
    subst hst
    rw [Nrm.ext h.tail g.tail (fun k => ?_)]
    have := hk k
    rw [xAT, xAT] at this
    cases hs : hasL s k with
    | false => rw [hs] at this; simpa using this
    | true =>
      have no : ∀ {l : List SpanL}, Nrm (s :: l) → inL l k = false := by
        intro l h
        cases hl : inL l k with
        | false => rfl
        | true =>
          obtain ⟨h1, h2⟩ := h.above hl
          rcases (has_iff.1 hs).2 with h3 | h3
          · exact absurd h3 h1
          · rw [xBZ h2] at h3; cases h3
      rw [no h, no g]
theorem xDO (o : List SpanL) (x s : SpanL) : xBr (o ++ [x]) s = if x.hi ≠ [] ∧ Op.bytesLess x.hi s.lo = true then o ++ [x] ++ [s] else if xCY x.hi s.hi = true then o ++ [⟨x.lo, s.hi⟩] else o ++ [x] := by
  unfold xBr
  simp
theorem xEn : ∀ (l o : List SpanL), Nrm o → Lo l → (∀ s ∈ l, xAH s = false) → (∀ x ∈ o, ∀ s ∈ l, ble x.lo s.lo = true) → Nrm (l.foldl xBr o) ∧ ∀ k, inL (l.foldl xBr o) k = (inL o k || inL l k)
  | [], o, h, _, _, _ => ⟨h, fun k => by simp [inL]⟩
  | s :: l, o, h, hl, hne, hb => by
    obtain ⟨hl1, hl2⟩ := List.pairwise_cons.1 hl
    have hse := hne s (by simp)
    have go : ∀ o', Nrm o' → (∀ x ∈ o', ∀ t ∈ l, ble x.lo t.lo = true) → (∀ k, inL o' k = (inL o k || hasL s k)) → xBr o s = o' → Nrm ((s :: l).foldl xBr o) ∧ ∀ k, inL ((s :: l).foldl xBr o) k = (inL o k || inL (s :: l) k) := by
      intro o' h1 h2 h3 h4
      obtain ⟨g1, g2⟩ := xEn l o' h1 hl2 (fun t ht => hne t (by simp [ht])) h2
      rw [List.foldl_cons, h4]
      refine ⟨g1, fun k => ?_⟩
      rw [g2, h3, xAT, Bool.or_assoc]
    rcases List.eq_nil_or_concat o with rfl | ⟨p, x, rfl⟩
    · exact go [s] ⟨by simpa using hse, by simp⟩ (by simpa using hl1) (fun k => by simp [inL]) rfl
    · rw [List.concat_eq_append] at *
      have hxs := hb x (by simp) s (by simp)
      have hxe := h.ne x (by simp)
      have hpx : ∀ y ∈ p, sep y x := fun y hy => (List.pairwise_append.1 h.pw).2.2 y hy x (by simp)
      have hpp := (List.pairwise_append.1 h.pw).1
      have inA : ∀ (q : List SpanL) (y : SpanL) (k : Str), inL (q ++ [y]) k = (inL q k || hasL y k) := by intro q y k; simp [inL]
      by_cases h1 : x.hi ≠ [] ∧ Op.bytesLess x.hi s.lo = true
      · refine go (p ++ [x] ++ [s]) ⟨fun t ht => ?_, ?_⟩ (fun y hy t ht => ?_) (fun k => by rw [inA]) (by rw [xDO, if_pos h1])
        · rcases List.mem_append.1 ht with ht | ht
          · exact h.ne t ht
          · rw [List.mem_singleton.1 ht]; exact hse
        · refine List.pairwise_append.2 ⟨h.pw, by simp, fun y hy t ht => ?_⟩
          rw [List.mem_singleton.1 ht]
          rcases List.mem_append.1 hy with hy | hy
          · obtain ⟨g1, g2⟩ := hpx y hy
            exact ⟨g1, xAa g2 hxs⟩
          · rw [List.mem_singleton.1 hy]; exact h1
        · rcases List.mem_append.1 hy with hy | hy
          · exact hb y hy t (by simp [ht])
          · rw [List.mem_singleton.1 hy]; exact hl1 t ht
      · -- s begins in x or at its end
        have hin : x.hi = [] ∨ ble s.lo x.hi = true := by
          by_cases hx : x.hi = []
          · exact .inl hx
          · right
            have : ¬ Op.bytesLess x.hi s.lo = true := fun h' => h1 ⟨hx, h'⟩
            simp [ble, this]
        by_cases h2 : xCY x.hi s.hi = true
        · have he := less_iff.1 h2
          have hx0 := he.1
          have hsx : ble s.lo x.hi = true := by rcases hin with h' | h'; exact absurd h' hx0; exact h'
          have hxlt := xBA hxe hx0
          have hnew : xAH ⟨x.lo, s.hi⟩ = false := by
            cases h' : xAH ⟨x.lo, s.hi⟩ with
            | false => rfl
            | true =>
              obtain ⟨g1, g2⟩ := empty_iff.1 h'
              rcases he.2 with h'' | h''
              · exact absurd h'' g1
              · have := xAa (xAi hxlt h'') g2
                rw [xAj] at this; cases this
          refine go (p ++ [⟨x.lo, s.hi⟩]) ⟨fun t ht => ?_, ?_⟩ (fun y hy t ht => ?_) (fun k => ?_) (by rw [xDO, if_neg h1, if_pos h2])
          · rcases List.mem_append.1 ht with ht | ht
            · exact h.ne t (by simp [ht])
            · rw [List.mem_singleton.1 ht]; exact hnew
          · refine List.pairwise_append.2 ⟨hpp, by simp, fun y hy t ht => ?_⟩
            rw [List.mem_singleton.1 ht]
            exact hpx y hy
          · rcases List.mem_append.1 hy with hy | hy
            · exact hb y (by simp [hy]) t (by simp [ht])
            · rw [List.mem_singleton.1 hy]; exact hb x (by simp) t (by simp [ht])
          · rw [inA, inA, Bool.or_assoc]
            congr 1
            rw [Bool.eq_iff_iff, Bool.or_eq_true, has_iff, has_iff, has_iff]
            simp only
            constructor
            · rintro ⟨g1, g2⟩
              cases hk : Op.bytesLess k x.hi with
              | true => exact .inl ⟨g1, .inr rfl⟩
              | false => exact .inr ⟨xAr hsx (by simp [ble, hk]), g2⟩
            · rintro (⟨g1, g2⟩ | ⟨g1, g2⟩)
              · refine ⟨g1, ?_⟩
                rcases g2 with g2 | g2
                · exact absurd g2 hx0
                · rcases he.2 with h' | h'
                  · exact .inl h'
                  · exact .inr (xAi g2 h')
              · exact ⟨xAr hxs g1, g2⟩
        · have hne2 : ¬ elt x.hi s.hi := fun h' => h2 (less_iff.2 h')
          refine go (p ++ [x]) h (fun y hy t ht => hb y hy t (by simp [ht])) (fun k => ?_) (by rw [xDO, if_neg h1, if_neg h2])
          have : hasL s k = true → hasL x k = true := by
            rw [has_iff, has_iff]
            rintro ⟨g1, g2⟩
            refine ⟨xAr hxs g1, ?_⟩
            by_cases hx : x.hi = []
            · exact .inl hx
            · right
              rcases g2 with g2 | g2
              · exact absurd ⟨hx, .inl g2⟩ hne2
              · rcases xBq x.hi s.hi with h' | h' | h'
                · exact absurd ⟨hx, .inr h'⟩ hne2
                · rw [h']; exact g2
                · exact xAi g2 h'
          rw [inA]
          cases hs : hasL s k with
          | false => simp
          | true => rw [this hs]; simp
theorem xAq (l : List SpanL) : Nrm (xAd l) ∧ ∀ k, inL (xAd l) k = inL l k := by
  obtain ⟨h1, h2, h3⟩ := xEj l
  obtain ⟨g1, g2⟩ := xEn (xHv l) [] ⟨by simp, by simp⟩ h1 h2 (by simp)
  refine ⟨g1, fun k => (g2 k).trans ?_⟩
  rw [show inL [] k = false from rfl, Bool.false_or, Bool.eq_iff_iff, inL_iff, inL_iff]
  constructor
  · rintro ⟨s, hs, hk⟩; exact ⟨s, ((h3 s).1 hs).1, hk⟩
  · rintro ⟨s, hs, hk⟩
    refine ⟨s, (h3 s).2 ⟨hs, ?_⟩, hk⟩
    cases he : xAH s with
    | false => rfl
    | true => rw [xAR he] at hk; cases hk
theorem xMw {l m : List SpanL} (hm : Lo m) (hp : m.Perm (l.filter (fun s => !xAH s))) : xJv m = xAd l := by
  have he : ∀ s ∈ m, xAH s = false := fun s hs => by have := hp.mem_iff.1 hs; simp at this; exact this.2
  obtain ⟨g1, g2⟩ := xEn m [] ⟨by simp, by simp⟩ hm he (by simp)
  obtain ⟨r1, r2⟩ := xAq l
  refine Nrm.ext g1 r1 (fun k => ?_)
  show inL (m.foldl xBr []) k = _
  rw [g2, r2, show inL [] k = false from rfl, Bool.false_or, Bool.eq_iff_iff, inL_iff, inL_iff]
  constructor
  · rintro ⟨s, hs, hk⟩
    have := hp.mem_iff.1 hs
    exact ⟨s, (List.mem_filter.1 this).1, hk⟩
  · rintro ⟨s, hs, hk⟩
    refine ⟨s, hp.mem_iff.2 (List.mem_filter.2 ⟨hs, ?_⟩), hk⟩
    cases he : xAH s with
    | false => rfl
    | true => rw [xAR he] at hk; cases hk
end Go.Pu
set_option linter.unusedVariables false
set_option linter.unusedSimpArgs false
namespace Go.Pu
instance : Inhabited SpanL := ⟨⟨[], []⟩⟩
section
variable {α : Type} [Inhabited α]
theorem gb {xs : List α} {i : Nat} {x : α} (h : xs[i]? = some x) : xs.toArray[i]! = x := by
  simp [h]
theorem xBe {xs : List α} {i j : Nat} {x y : α} (hx : xs[i]? = some x) (hy : xs[j]? = some y) : Sort.swp xs.toArray i j = ((xs.set i y).set j x).toArray := by
  unfold Sort.swp
  rw [gb hx, gb hy]
  simp
theorem xCA (lt : α → α → Bool) (hi first root : Nat) (d : Array α) : (Sort.siftDown lt hi first root d).size = d.size := by
  fun_induction Sort.siftDown lt hi first root d <;> simp_all [Sort.size_swp]
theorem xD4 (lt : α → α → Bool) (hi first : Nat) : ∀ (k : Nat) (d : Array α), (Sort.heapBuild lt hi first k d).size = d.size
  | 0, d => rfl
  | k + 1, d => by rw [Sort.heapBuild, xD4 lt hi first k, xCA]
end
def ltS (a b : SpanL) : Bool := decide (xDi a.lo b.lo < 0)
theorem xKr (a b : SpanL) : ltS a b = Op.bytesLess a.lo b.lo := by
  rw [Bool.eq_iff_iff, ltS, decide_eq_true_eq, xJP]
theorem xNC : Sort.SWO ltS where
  irrefl x := by rw [xKr, xAj]
  trans x y z h1 h2 := by rw [xKr] at *; exact xAi h1 h2
  ntrans x y z h1 h2 := by
    rw [xKr] at *
    have g1 : ble y.lo x.lo = true := by simp [ble, h1]
    have g2 : ble z.lo y.lo = true := by simp [ble, h2]
    have := xAr g2 g1
    simpa [ble] using this
end Go.Pu
set_option linter.unusedVariables false
set_option linter.unusedSimpArgs false
namespace Go.Pu
section
variable {α : Type} [Inhabited α]
theorem xCg (lt : α → α → Bool) : ∀ (j : Nat) (d : Array α), (Sort.shiftDown lt j d).size = d.size
  | 0, d => rfl
  | j + 1, d => by
    rw [Sort.shiftDown]
    split
    · rfl
    · rw [xCg lt j, Sort.size_swp]
theorem xIg (lt : α → α → Bool) (b j : Nat) (d : Array α) : (Sort.shiftUp lt b j d).size = d.size := by
  fun_induction Sort.shiftUp lt b j d <;> simp_all [Sort.size_swp]
theorem xCR (lt : α → α → Bool) (a b : Nat) : ∀ (s i : Nat) (d : Array α), (Sort.partialIns lt a b s i d).1.size = d.size
  | 0, i, d => rfl
  | s + 1, i, d => by
    rw [Sort.partialIns]
    simp only
    split
    · rfl
    · split
      · rfl
      · rw [xCR lt a b s]
        split
        · rw [xIg]
          split
          · rw [xCg, Sort.size_swp]
          · rw [Sort.size_swp]
        · split
          · rw [xCg, Sort.size_swp]
          · rw [Sort.size_swp]
theorem xIs (lt : α → α → Bool) {d : Array α} {a b pivot : Nat} (h1 : a ≤ pivot) (h2 : pivot < b) (hb : b ≤ d.size) : a < (Sort.partitionEqual lt d a b pivot).1 ∧ (Sort.partitionEqual lt d a b pivot).1 ≤ b ∧ (Sort.partitionEqual lt d a b pivot).2.size = d.size := by
  obtain ⟨g1, g2, g3, _⟩ := Sort.partEqLoop_spec (lt := lt) a b (b - 1 + 1 - (a + 1)) (a + 1) (b - 1) (Sort.swp d a pivot) (Nat.le_refl _) (by omega) (by omega) (by omega) (by rw [Sort.size_swp]; exact hb) (fun t h h' => by omega) (fun t h h' => by omega)
  exact ⟨g1, g2, by have := g3.1; rw [Sort.size_swp] at this; exact this⟩
theorem xEa (lt : α → α → Bool) (a : Nat) : ∀ (j : Nat) (d : Array α), (Sort.insInner lt a j d).size = d.size
  | 0, d => rfl
  | j + 1, d => by
    rw [Sort.insInner]
    split
    · rw [xEa lt a j, Sort.size_swp]
    · rfl
theorem xIG (lt : α → α → Bool) (a b i : Nat) (d : Array α) : (Sort.insOuter lt a b i d).size = d.size := by
  fun_induction Sort.insOuter lt a b i d <;> simp_all [xEa]
theorem xFN (lt : α → α → Bool) (first : Nat) : ∀ (k : Nat) (d : Array α), (Sort.heapPop lt first k d).size = d.size
  | 0, d => rfl
  | k + 1, d => by rw [Sort.heapPop, xFN lt first k, xCA, Sort.size_swp]
theorem xIJ (lt : α → α → Bool) (d : Array α) (a b : Nat) : (Sort.heapSort lt d a b).size = d.size := by
  unfold Sort.heapSort
  rw [xFN, xD4]
theorem xFX (i j : Nat) (d : Array α) : (Sort.reverseLoop i j d).size = d.size := by
  fun_induction Sort.reverseLoop i j d <;> simp_all [Sort.size_swp]
theorem xIm (d : Array α) (a b : Nat) : (Sort.reverseRange d a b).size = d.size := xFX _ _ _
theorem xLt (d : Array α) (a b : Nat) : (Sort.breakPatterns d a b).size = d.size := by
  unfold Sort.breakPatterns Sort.breakStep
  simp only
  split
  · simp [Sort.size_swp]
  · rfl
theorem xH3 (lt : α → α → Bool) (a i j : Nat) (d : Array α) : (Sort.partLoop lt a i j d).2.size = d.size := by
  fun_induction Sort.partLoop lt a i j d <;> simp_all [Sort.size_swp]
theorem xGB (lt : α → α → Bool) (a i j : Nat) (d : Array α) : (Sort.partEqLoop lt a i j d).2.size = d.size := by
  fun_induction Sort.partEqLoop lt a i j d <;> simp_all [Sort.size_swp]
theorem xCh (lt : α → α → Bool) (d : Array α) (a b p : Nat) : (Sort.partition lt d a b p).2.2.size = d.size := by
  unfold Sort.partition
  simp only
  split
  · simp [Sort.size_swp]
  · simp [Sort.size_swp, xH3]
theorem xCQ (lt : α → α → Bool) (d : Array α) (a b p : Nat) : (Sort.partitionEqual lt d a b p).2.size = d.size := by
  unfold Sort.partitionEqual
  rw [xGB, Sort.size_swp]
end
end Go.Pu
set_option linter.unusedVariables false
set_option linter.unusedSimpArgs false
namespace Go.Pu
def ne (s : SpanL) : Bool := !xAH s
def delL (xs : List SpanL) : List SpanL := xs.filter ne ++ List.replicate (xs.length - (xs.filter ne).length) ⟨[], []⟩
def xBS (xs : List SpanL) : Array SpanL := Sort.pdq ltS (delL xs).toArray 0 (xs.filter ne).length (Sort.bitsLen (xs.filter ne).length) true true
theorem xLA (xs : List SpanL) : (delL xs).length = xs.length := by
  have := List.length_filter_le ne xs
  simp [delL]; omega
theorem xIc (xs : List SpanL) : (xBS xs).size = xs.length ∧ xJv ((xBS xs).toList.take (xs.filter ne).length) = xAd xs := by
  have hk : (xs.filter ne).length ≤ (delL xs).toArray.size := by simp [delL]
  obtain ⟨h1, h2⟩ := Sort.pdq_sorts ltS xNC (delL xs).toArray 0 (xs.filter ne).length (Sort.bitsLen (xs.filter ne).length) true true (Nat.zero_le _) hk (.inl rfl)
  obtain ⟨g1, _, g3⟩ := h1
  have hs : (xBS xs).size = xs.length := by unfold xBS; rw [g1]; simp [xLA]
  refine ⟨hs, xMw ?_ ?_⟩
  · refine List.pairwise_iff_getElem.2 fun i j hi hj hij => ?_
    simp only [List.length_take, Array.length_toList] at hi hj
    rw [List.getElem_take, List.getElem_take, Array.getElem_toList, Array.getElem_toList]
    have := h2 i j (Nat.zero_le _) hij (by omega)
    rw [xKr] at this
    have e1 : (xBS xs)[i]! = (xBS xs)[i] := getElem!_pos (xBS xs) i (by omega)
    have e2 : (xBS xs)[j]! = (xBS xs)[j] := getElem!_pos (xBS xs) j (by omega)
    have h3 : Op.bytesLess (xBS xs)[j]!.lo (xBS xs)[i]!.lo = false := this
    rw [e1, e2] at h3
    simp [ble, h3]
  · have : ((delL xs).toArray.extract 0 (xs.filter ne).length).toList = xs.filter ne := by simp [delL]
    rw [this] at g3
    have e : ((xBS xs).extract 0 (xs.filter ne).length).toList = (xBS xs).toList.take (xs.filter ne).length := by simp
    rw [← e]
    exact g3
end Go.Pu
set_option linter.unusedVariables false
namespace Go.Pu
theorem xD5 : ∀ (l o : List SpanL), (l.foldl insS o).length ≤ o.length + l.length
  | [], o => by simp
  | s :: l, o => by
    rw [List.foldl_cons, List.length_cons]
    have h1 := xD5 l (insS o s)
    have h2 := xIF o s
    omega
theorem xDR (l : List SpanL) : (xAd l).length ≤ l.length := by
  have h1 := xMv (xHv l)
  have h2 := xD5 l []
  unfold xAd
  unfold xHv at *
  simp only [List.length_nil] at h2
  omega
theorem xOA (o : List SpanL) (s t : SpanL) (h : t ∈ xBr o s) : (∃ x ∈ o, x.lo = t.lo) ∨ t.lo = s.lo := by
  rcases List.eq_nil_or_concat o with rfl | ⟨o, x, rfl⟩
  · right
    have : t = s := by simpa [xBr] using h
    rw [this]
  · rw [List.concat_eq_append, xDO] at h
    split at h
    · rcases List.mem_append.1 h with h | h
      · exact .inl ⟨t, by simpa using h, rfl⟩
      · exact .inr (by rw [List.mem_singleton.1 h])
    · split at h
      · rcases List.mem_append.1 h with h | h
        · exact .inl ⟨t, by simp [h], rfl⟩
        · exact .inl ⟨x, by simp, by rw [List.mem_singleton.1 h]⟩
      · exact .inl ⟨t, by simpa using h, rfl⟩
theorem xKe : ∀ (l o : List SpanL) (t : SpanL), t ∈ l.foldl xBr o → (∃ x ∈ o, x.lo = t.lo) ∨ ∃ x ∈ l, x.lo = t.lo
  | [], o, t, h => .inl ⟨t, h, rfl⟩
  | s :: l, o, t, h => by
    rw [List.foldl_cons] at h
    rcases xKe l _ t h with ⟨x, hx, hxt⟩ | ⟨x, hx, hxt⟩
    · rcases xOA o s x hx with ⟨y, hy, hyx⟩ | h2
      · exact .inl ⟨y, hy, hyx.trans hxt⟩
      · exact .inr ⟨s, by simp, h2.symm.trans hxt⟩
    · exact .inr ⟨x, by simp [hx], hxt⟩
theorem xES {l : List SpanL} {t : SpanL} (h : t ∈ xAd l) : ∃ x ∈ l, x.lo = t.lo ∧ xAH x = false := by
  rcases xKe _ _ t h with ⟨x, hx, _⟩ | ⟨x, hx, hxt⟩
  · exact absurd hx (by simp)
  · have := ((xEj l).2.2 x).1 hx
    exact ⟨x, this.1, hxt, this.2⟩
theorem xOB (o : List SpanL) (s t : SpanL) (h : t ∈ xBr o s) : (∃ x ∈ o, x.hi = t.hi) ∨ t.hi = s.hi := by
  rcases List.eq_nil_or_concat o with rfl | ⟨o, x, rfl⟩
  · right
    have : t = s := by simpa [xBr] using h
    rw [this]
  · rw [List.concat_eq_append, xDO] at h
    split at h
    · rcases List.mem_append.1 h with h | h
      · exact .inl ⟨t, by simpa using h, rfl⟩
      · exact .inr (by rw [List.mem_singleton.1 h])
    · split at h
      · rcases List.mem_append.1 h with h | h
        · exact .inl ⟨t, by simp [h], rfl⟩
        · exact .inr (by rw [List.mem_singleton.1 h])
      · exact .inl ⟨t, by simpa using h, rfl⟩
theorem xKf : ∀ (l o : List SpanL) (t : SpanL), t ∈ l.foldl xBr o → (∃ x ∈ o, x.hi = t.hi) ∨ ∃ x ∈ l, x.hi = t.hi
  | [], o, t, h => .inl ⟨t, h, rfl⟩
  | s :: l, o, t, h => by
    rw [List.foldl_cons] at h
    rcases xKf l _ t h with ⟨x, hx, hxt⟩ | ⟨x, hx, hxt⟩
    · rcases xOB o s x hx with ⟨y, hy, hyx⟩ | h2
      · exact .inl ⟨y, hy, hyx.trans hxt⟩
      · exact .inr ⟨s, by simp, h2.symm.trans hxt⟩
    · exact .inr ⟨x, by simp [hx], hxt⟩
theorem xHx {l : List SpanL} {t : SpanL} (h : t ∈ xAd l) : ∃ x ∈ l, x.hi = t.hi := by
  rcases xKf _ _ t h with ⟨x, hx, _⟩ | ⟨x, hx, hxt⟩
  · exact absurd hx (by simp)
  · exact ⟨x, (((xEj l).2.2 x).1 hx).1, hxt⟩
def xCU : Str → List SpanL → List SpanL → List SpanL
  | lo, [], out => out ++ [⟨lo, []⟩]
  | lo, s :: l, out => if s.hi = [] then (if s.lo = [] then out else out ++ [⟨lo, s.lo⟩]) else xCU s.hi l (if s.lo = [] then out else out ++ [⟨lo, s.lo⟩])
theorem xGi : ∀ (l : List SpanL) (lo : Str) (out : List SpanL), (xCU lo l out).length ≤ out.length + l.length + 1
  | [], lo, out => by simp [xCU]
  | s :: l, lo, out => by
    have h2 : (if s.lo = [] then out else out ++ [⟨lo, s.lo⟩]).length ≤ out.length + 1 := by split <;> simp
    rw [xCU, List.length_cons]
    generalize (if s.lo = [] then out else out ++ [(⟨lo, s.lo⟩ : SpanL)]) = o2 at *
    split
    · omega
    · have := xGi l s.hi o2
      omega
theorem xFk : ∀ (l : List SpanL) (lo : Str) (out : List SpanL) (t : SpanL), t ∈ xCU lo l out → t ∈ out ∨ t.lo = lo ∨ ∃ x ∈ l, x.hi = t.lo
  | [], lo, out, t, h => by
    rw [xCU] at h
    rcases List.mem_append.1 h with h | h
    · exact .inl h
    · exact .inr (.inl (by rw [List.mem_singleton.1 h]))
  | s :: l, lo, out, t, h => by
    have h2 : t ∈ (if s.lo = [] then out else out ++ [⟨lo, s.lo⟩]) → t ∈ out ∨ t.lo = lo := by
      split
      · exact .inl
      · intro h
        rcases List.mem_append.1 h with h | h
        · exact .inl h
        · exact .inr (by rw [List.mem_singleton.1 h])
    rw [xCU] at h
    generalize (if s.lo = [] then out else out ++ [(⟨lo, s.lo⟩ : SpanL)]) = o2 at *
    split at h
    · rcases h2 h with h | h
      · exact .inl h
      · exact .inr (.inl h)
    · rcases xFk l s.hi o2 t h with h | h | ⟨x, hx, hxt⟩
      · rcases h2 h with h | h
        · exact .inl h
        · exact .inr (.inl h)
      · exact .inr (.inr ⟨s, by simp, h.symm⟩)
      · exact .inr (.inr ⟨x, by simp [hx], hxt⟩)
theorem xBh {a b : List SpanL} {k : Str} : inL (a ++ b) k = (inL a k || inL b k) := by simp [inL]
theorem xGh {lo hi k : Str} (h : hi ≠ []) : hasL ⟨lo, hi⟩ k = (ble lo k && Op.bytesLess k hi) := by
  have : (hi == []) = false := by simpa using h
  simp only [hasL, ble, this, Bool.false_or]
theorem xFj {lo k : Str} : hasL ⟨lo, []⟩ k = ble lo k := by simp [hasL, ble]
theorem xHc : ∀ (l : List SpanL) (lo : Str) (out : List SpanL) (k : Str), Nrm l → (∀ x, inL l x = true → ble lo x = true) →
    inL (xCU lo l out) k = (inL out k || (ble lo k && !inL l k))
  | [], lo, out, k, _, _ => by
    rw [xCU, xBh]
    simp [inL, xFj]
  | s :: l, lo, out, k, hn, ha => by
    have hls : ble lo s.lo = true := ha s.lo (by rw [xAT, xCt (hn.ne s (by simp))]; rfl)
    have h2 : inL (if s.lo = [] then out else out ++ [⟨lo, s.lo⟩]) k = (inL out k || (ble lo k && Op.bytesLess k s.lo)) := by
      split
      · next h => rw [h]; simp [xBd]
      · next h => rw [xBh]; simp [inL, xGh h]
    rw [xCU, xAT]
    generalize (if s.lo = [] then out else out ++ [(⟨lo, s.lo⟩ : SpanL)]) = o2 at *
    have hnl : inL l k = true → Op.bytesLess k s.lo = true → False := by
      intro h h3
      obtain ⟨h4, h5⟩ := hn.above h
      have h6 := xAa (xBA (hn.ne s (by simp)) h4) (ble_iff.2 (.inl h5))
      have h7 := xAa h3 (ble_iff.2 (.inl h6))
      rw [xAj] at h7
      cases h7
    have hsl : ble lo k = false → ble s.lo k = false := by
      intro h
      cases h3 : ble s.lo k with
      | false => rfl
      | true => rw [xAr hls h3] at h; cases h
    split
    · next h =>
      have hl : inL l k = false := by
        cases h3 : inL l k with
        | false => rfl
        | true => exact absurd h (hn.above h3).1
      rw [h2, hl]
      simp [hasL, h]
    · next h =>
      rw [xHc l s.hi o2 k hn.tail (fun x hx => ble_iff.2 (.inl (hn.above hx).2)), h2]
      have hlt := xBA (hn.ne s (by simp)) h
      have e1 : hasL s k = (ble s.lo k && Op.bytesLess k s.hi) := xGh (lo := s.lo) h
      rw [e1]
      cases h3 : inL out k with
      | true => simp
      | false =>
        have e2 : ble s.lo k = !Op.bytesLess k s.lo := rfl
        have e3 : ble s.hi k = !Op.bytesLess k s.hi := rfl
        cases h4 : Op.bytesLess k s.lo with
        | true =>
          have h5 : Op.bytesLess k s.hi = true := xAa h4 (ble_iff.2 (.inl hlt))
          have h6 : inL l k = false := by
            cases h7 : inL l k with
            | false => rfl
            | true => exact (hnl h7 h4).elim
          simp [e2, e3, h4, h5, h6]
        | false =>
          cases h5 : Op.bytesLess k s.hi with
          | true => simp [e2, e3, h4, h5]
          | false =>
            have h6 : ble lo k = true := xAr hls (by rw [e2, h4]; rfl)
            simp [e2, e3, h4, h5, h6]
def xBm (l m : List SpanL) : List SpanL := (xCU [] (xAd m) []).flatMap (fun g => l.map (xAV g))
def xBF (l m : List SpanL) : List SpanL := xAd (xBm l m)
theorem xII {α : Type} (f : α → List SpanL) (k : Str) : ∀ (l : List α), inL (l.flatMap f) k = l.any (fun a => inL (f a) k)
  | [] => rfl
  | a :: l => by rw [List.flatMap_cons, xBh, xII f k l, List.any_cons]
theorem xFM (g : SpanL) (k : Str) : ∀ (l : List SpanL), inL (l.map (xAV g)) k = (hasL g k && inL l k)
  | [] => by simp [inL]
  | s :: l => by rw [List.map_cons, xAT, xAT, xFM g k l, xBn]; cases hasL g k <;> simp
theorem xBN (l m : List SpanL) (k : Str) : inL (xBF l m) k = (inL l k && !inL m k) := by
  have h1 := xHc (xAd m) [] [] k (xAq m).1 (fun x _ => xDk x)
  rw [xBF, (xAq _).2, xBm, xII]
  simp only [xFM]
  have h2 : ∀ (gs : List SpanL), gs.any (fun g => hasL g k && inL l k) = (inL gs k && inL l k) := by
    intro gs
    induction gs with
    | nil => rfl
    | cons g gs ih => rw [List.any_cons, ih, xAT]; cases hasL g k <;> cases inL gs k <;> cases inL l k <;> rfl
  rw [h2, h1, (xAq m).2, xDk]
  simp [inL, Bool.and_comm]
theorem xCq (l m : List SpanL) : Nrm (xBF l m) := (xAq _).1
def cutL (s c : SpanL) : List SpanL := (if c.lo = [] then [] else [xAV s ⟨[], c.lo⟩]) ++ (if c.hi = [] then [] else [xAV s ⟨c.hi, []⟩])
def xDB (left : List SpanL) (c : SpanL) : List SpanL := if xAH c = true then left else xAd (left.flatMap (fun s => cutL s c))
def xF6 (l m : List SpanL) : List SpanL := m.foldl xDB (xAd l)
theorem xNh (s c : SpanL) (k : Str) : inL (cutL s c) k = (hasL s k && !hasL c k) := by
  have e : hasL c k = (ble c.lo k && (c.hi == [] || Op.bytesLess k c.hi)) := rfl
  have e1 : ble c.lo k = !Op.bytesLess k c.lo := rfl
  have e2 : ble c.hi k = !Op.bytesLess k c.hi := rfl
  have e3 : inL (if c.lo = [] then [] else [xAV s ⟨[], c.lo⟩]) k = (hasL s k && Op.bytesLess k c.lo) := by
    split
    · next h => rw [h, xBd]; simp [inL]
    · next h => rw [xAT, xBn, xGh h, xDk]; simp [inL]
  have e4 : inL (if c.hi = [] then [] else [xAV s ⟨c.hi, []⟩]) k = (hasL s k && (!(c.hi == []) && !Op.bytesLess k c.hi)) := by
    split
    · next h => rw [h]; simp [inL]
    · next h => 
      have h9 : (c.hi == []) = false := by simpa using h
      rw [xAT, xBn, xFj, e2, h9]; simp [inL]
  rw [cutL, xBh, e3, e4, e, e1]
  cases hasL s k <;> cases Op.bytesLess k c.lo <;> cases (c.hi == []) <;> cases Op.bytesLess k c.hi <;> rfl
theorem xNf (l : List SpanL) (c : SpanL) (k : Str) : inL (xDB l c) k = (inL l k && !hasL c k) := by
  unfold xDB
  split
  · next h => rw [xAR h]; simp
  · rw [(xAq _).2, xII]
    simp only [xNh]
    induction l with
    | nil => rfl
    | cons g gs ih => rw [List.any_cons, ih, xAT]; cases hasL g k <;> cases inL gs k <;> cases hasL c k <;> rfl
theorem xLB {l : List SpanL} (h : Nrm l) (c : SpanL) : Nrm (xDB l c) := by
  unfold xDB
  split
  · exact h
  · exact (xAq _).1
theorem xJM : ∀ (m l : List SpanL), Nrm l → Nrm (m.foldl xDB l) ∧ ∀ k, inL (m.foldl xDB l) k = (inL l k && !inL m k)
  | [], l, h => ⟨h, fun k => by simp [inL]⟩
  | c :: m, l, h => by
    obtain ⟨h1, h2⟩ := xJM m (xDB l c) (xLB h c)
    refine ⟨h1, fun k => ?_⟩
    rw [List.foldl_cons, h2, xNf, xAT]
    cases inL l k <;> cases hasL c k <;> cases inL m k <;> rfl
theorem xM0 (l m : List SpanL) : xBF l m = xF6 l m := by
  obtain ⟨h1, h2⟩ := xJM m (xAd l) (xAq l).1
  refine Nrm.ext (xCq l m) h1 (fun k => ?_)
  rw [xBN]
  exact ((h2 k).trans (by rw [(xAq l).2])).symm
theorem xFm {α : Type} (f : α → List SpanL) (n : Nat) : ∀ (l : List α), (∀ a ∈ l, (f a).length ≤ n) → (l.flatMap f).length ≤ n * l.length
  | [], _ => by simp
  | a :: l, h => by
    rw [List.flatMap_cons, List.length_append, List.length_cons, Nat.mul_succ]
    have h1 := xFm f n l (fun b hb => h b (by simp [hb]))
    have h2 := h a (by simp)
    omega
theorem xLC (s c : SpanL) : (cutL s c).length ≤ 2 := by
  unfold cutL
  split <;> split <;> simp
theorem cuts_len (l : List SpanL) (c : SpanL) : (xDB l c).length ≤ 2 * l.length := by
  unfold xDB
  split
  · omega
  · exact Nat.le_trans (xDR _) (xFm _ 2 l (fun s _ => xLC s c))
theorem xIx (l m : List SpanL) : (xBm l m).length ≤ l.length * (m.length + 1) := by
  unfold xBm
  refine Nat.le_trans (xFm _ l.length _ (fun g _ => by simp)) (Nat.mul_le_mul_left _ ?_)
  have h1 := xGi (xAd m) [] []
  have h2 := xDR m
  simp only [List.length_nil] at h1
  omega
theorem xGF : ∀ (a b : List Str), a.Nodup → (∀ x ∈ a, x ∈ b) → a.length ≤ b.length
  | [], b, _, _ => by simp
  | x :: a, b, hn, hs => by
    obtain ⟨h1, h2⟩ := List.nodup_cons.1 hn
    have h3 := xGF a (b.erase x) h2 (fun y hy => by
      refine (List.mem_erase_of_ne ?_).2 (hs y (by simp [hy]))
      intro h; subst h; exact h1 hy)
    rw [List.length_erase_of_mem (hs x (by simp))] at h3
    have : 0 < b.length := List.length_pos_of_mem (hs x (by simp))
    rw [List.length_cons]
    omega
theorem xJt : ∀ {l : List SpanL}, Nrm l → (l.map SpanL.lo).Nodup
  | [], _ => by simp
  | s :: l, h => by
    rw [List.map_cons, List.nodup_cons]
    refine ⟨?_, xJt h.tail⟩
    intro hm
    obtain ⟨t, ht, hts⟩ := List.mem_map.1 hm
    obtain ⟨h1, h2⟩ := (List.pairwise_cons.1 h.pw).1 t ht
    have h3 := xAa (xBA (h.ne s (by simp)) h1) (ble_iff.2 (.inl h2))
    rw [hts, xAj] at h3
    cases h3
theorem xHU (a b : Str) : maxL a b = a ∨ maxL a b = b := by unfold maxL; split <;> simp
theorem xCr (l m : List SpanL) : (xBF l m).length ≤ l.length + m.length := by
  have h := xGF _ (l.map SpanL.lo ++ m.map SpanL.hi) (xJt (xCq l m)) ?_
  · simpa using h
  · intro x hx
    obtain ⟨t, ht, rfl⟩ := List.mem_map.1 hx
    obtain ⟨y, hy, hyt, hye⟩ := xES ht
    rw [← hyt]
    obtain ⟨g, hg, hy⟩ := List.mem_flatMap.1 hy
    obtain ⟨s, hs, rfl⟩ := List.mem_map.1 hy
    have hm : (xAV g s).lo = maxL g.lo s.lo := by
      unfold xAV at hye ⊢
      split
      · next h => rw [if_pos h] at hye; exact absurd hye (by decide)
      · rfl
    rw [hm]
    have hsl : s.lo ∈ l.map SpanL.lo ++ m.map SpanL.hi := List.mem_append.2 (.inl (List.mem_map.2 ⟨s, hs, rfl⟩))
    rcases xFk _ _ _ g hg with h | h | ⟨z, hz, hzg⟩
    · cases h
    · rw [h]
      have : maxL [] s.lo = s.lo := by
        unfold maxL
        split
        · rfl
        · next h3 =>
          have h4 : ble s.lo [] = true := by simpa [ble] using h3
          rcases ble_iff.1 h4 with h5 | h5
          · rw [xBd] at h5; cases h5
          · exact h5.symm
      rw [this]
      exact hsl
    · rcases xHU g.lo s.lo with h | h
      · rw [h, ← hzg]
        obtain ⟨w, hw, hwz⟩ := xHx hz
        exact List.mem_append.2 (.inr (List.mem_map.2 ⟨w, hw, hwz⟩))
      · rw [h]
        exact hsl
end Go.Pu
set_option linter.unusedVariables false
set_option linter.unusedSimpArgs false
namespace Go.Pu
structure MsgL where
  kind : Int
  key : Str
  val : Str
  sp : SpanL
  fr : Str
  to : Str
  n : Int
  deriving DecidableEq
def xAJ (m : MsgL) : List SpanL :=
  if m.kind = 1 ∨ m.kind = 2 then [oneL m.key] else if m.kind = 4 then [xAU m.fr, xAU m.to] else if m.kind = 5 then [xAU m.to] else [m.sp]
def xAx (m : MsgL) : List SpanL := if m.kind = 4 ∨ m.kind = 5 then [xAU m.fr] else if m.kind = 6 then [m.sp] else []
def xDb (m : MsgL) : List SpanL := if m.kind = 6 then [] else xAJ m
structure MsgOk (m : MsgL) : Prop where
  k : 1 ≤ m.kind ∧ m.kind ≤ 6
  ap : m.kind = 4 ∨ m.kind = 5 → xAG m.fr m.to = false ∧ xAG m.to m.fr = false
  ne : m.kind = 4 ∨ m.kind = 5 → m.fr ≠ [] ∧ m.to ≠ []
def bkL (m : MsgL) (k : Str) : Option Str :=
  if m.kind = 1 ∨ m.kind = 2 then (if m.key = k then none else some k) else
  if m.kind = 3 then (if hasL m.sp k = true then none else some k) else
  if m.kind = 6 then some k else
  if m.kind = 4 ∧ xAG k m.fr = true then none else
  if xAG k m.to = true then some (m.fr ++ k.drop m.to.length) else some k
def bksL : List MsgL → Str → Option Str
  | [], k => some k
  | m :: r, k => (bkL m k).bind (bksL r)
theorem bks_append (a b : List MsgL) (k : Str) : bksL (a ++ b) k = (bksL a k).bind (bksL b) := by
  induction a generalizing k with
  | nil => rfl
  | cons m a ih =>
    rw [List.cons_append, bksL, bksL]
    cases bkL m k with
    | none => rfl
    | some x => exact ih x
def xDV (f t : Str) (s : SpanL) : SpanL := ⟨t ++ s.lo.drop f.length, if xAG s.hi f = true ∧ s.hi ≠ [] then t ++ s.hi.drop f.length else upL t⟩
def xJF (m : MsgL) : List SpanL := xAU m.to :: (if m.kind = 4 then [xAU m.fr] else [])
def inTo (m : MsgL) (l : List SpanL) : List SpanL := (l.map fun x => xAV x (xAU m.to)).filter fun s => !xAH s
def xEh (l : List SpanL) (m : MsgL) : List SpanL :=
  if m.kind = 1 ∨ m.kind = 2 then xBF l [oneL m.key] else
  if m.kind = 3 then xBF l [m.sp] else
  if m.kind = 6 then l else
  xAd (xBF l (xJF m) ++ (inTo m l).map (xDV m.to m.fr))
def xHG (s : SpanL) (r : List MsgL) : List SpanL := r.foldl xEh (xAd [s])
theorem xG7 : ∀ {p a x : Str}, Op.bytesLess (p ++ a) x = true → xAG x p = false → ∀ r, Op.bytesLess (p ++ r) x = true
  | [], a, x, h, hb, r => by simp [xAG] at hb
  | c :: p, a, [], h, hb, r => by simp [Op.bytesLess] at h
  | c :: p, a, d :: x, h, hb, r => by
    rw [List.cons_append, blt_cons] at h ⊢
    rcases h with h | ⟨rfl, h⟩
    · exact .inl h
    · refine .inr ⟨rfl, xG7 h ?_ r⟩
      cases hx : xAG x p with
      | false => rfl
      | true =>
        obtain ⟨q, rfl⟩ := begins_iff.1 hx
        have : xAG (c :: (p ++ q)) (c :: p) = true := begins_iff.2 ⟨q, rfl⟩
        rw [this] at hb
        cases hb
theorem xBw (p r : Str) : xAG (p ++ r) p = true := begins_iff.2 ⟨r, rfl⟩
theorem begins_le {k p : Str} (h : xAG k p = true) : ble p k = true := by
  obtain ⟨r, rfl⟩ := begins_iff.1 h
  exact xCf p r
theorem xHR {f t : Str} (ht : t ≠ []) {s : SpanL} (hn : xAH s = false) (hs : ∀ k, hasL s k = true → xAG k f = true) (k : Str) :
    hasL (xDV f t s) k = true ↔ ∃ r, k = t ++ r ∧ hasL s (f ++ r) = true := by
  obtain ⟨a, ha⟩ := begins_iff.1 (hs _ (xCt hn))
  have hd : s.lo.drop f.length = a := by rw [ha]; simp
  by_cases hh : xAG s.hi f = true ∧ s.hi ≠ []
  · obtain ⟨b, hb⟩ := begins_iff.1 hh.1
    have hd2 : s.hi.drop f.length = b := by rw [hb]; simp
    have e : xDV f t s = ⟨t ++ a, t ++ b⟩ := by unfold xDV; rw [if_pos hh, hd, hd2]
    have hne : t ++ b ≠ [] := by simp [ht]
    rw [e, has_iff]
    simp only [hne, false_or]
    constructor
    · rintro ⟨h1, h2⟩
      have hk : xAG k t = true := by
        cases hk : xAG k t with
        | true => rfl
        | false =>
          exfalso
          rcases ble_iff.1 h1 with h3 | h3
          · have := xG7 h3 hk b
            rw [xBZ this] at h2
            cases h2
          · rw [← h3, xBw] at hk
            cases hk
      obtain ⟨r, rfl⟩ := begins_iff.1 hk
      refine ⟨r, rfl, has_iff.2 ⟨?_, .inr ?_⟩⟩
      · rw [ha, xCl]; rwa [xCl] at h1
      · rw [hb, xEM]; rwa [xEM] at h2
    · rintro ⟨r, rfl, h⟩
      obtain ⟨h1, h2⟩ := has_iff.1 h
      rw [ha, xCl] at h1
      have h2 := h2.resolve_left hh.2
      rw [hb, xEM] at h2
      exact ⟨by rwa [xCl], by rwa [xEM]⟩
  · have e : xDV f t s = ⟨t ++ a, upL t⟩ := by unfold xDV; rw [if_neg hh, hd]
    have hup : ∀ r, s.hi = [] ∨ Op.bytesLess (f ++ r) s.hi = true := by
      intro r
      by_cases h0 : s.hi = []
      · exact .inl h0
      · have hb : xAG s.hi f = false := by
          cases hb : xAG s.hi f with
          | false => rfl
          | true => exact (hh ⟨hb, h0⟩).elim
        have := xBA hn h0
        rw [ha] at this
        exact .inr (xG7 this hb r)
    have hp := xA8 t k
    have e2 : xAU t = ⟨t, upL t⟩ := rfl
    rw [e, has_iff]
    constructor
    · rintro ⟨h1, h2⟩
      have h3 : hasL (xAU t) k = true := by rw [e2, has_iff]; exact ⟨xAr (xCf t a) h1, h2⟩
      rw [hp] at h3
      obtain ⟨r, rfl⟩ := begins_iff.1 h3
      refine ⟨r, rfl, has_iff.2 ⟨?_, hup r⟩⟩
      rw [ha, xCl]; rwa [xCl] at h1
    · rintro ⟨r, rfl, h⟩
      obtain ⟨h1, h2⟩ := has_iff.1 h
      rw [ha, xCl] at h1
      have h3 : hasL (xAU t) (t ++ r) = true := by rw [xA8]; exact xBw t r
      rw [e2, has_iff] at h3
      exact ⟨by rwa [xCl], h3.2⟩
theorem xGd (m : MsgL) (l : List SpanL) (k : Str) (h : ∃ s ∈ inTo m l, hasL s k = true) : inL l k = true ∧ xAG k m.to = true := by
  obtain ⟨s, hs, hk⟩ := h
  unfold inTo at hs
  rw [List.mem_filter, List.mem_map] at hs
  obtain ⟨⟨x, hx, rfl⟩, _⟩ := hs
  rw [xBn, Bool.and_eq_true, xA8] at hk
  exact ⟨inL_iff.2 ⟨x, hx, hk.1⟩, hk.2⟩
theorem xPB (m : MsgL) (l : List SpanL) (k : Str) : (∃ s ∈ inTo m l, hasL s k = true) ↔ inL l k = true ∧ xAG k m.to = true := by
  refine ⟨xGd m l k, ?_⟩
  rintro ⟨h1, h2⟩
  obtain ⟨x, hx, hk⟩ := inL_iff.1 h1
  have hm : hasL (xAV x (xAU m.to)) k = true := by rw [xBn, Bool.and_eq_true, xA8]; exact ⟨hk, h2⟩
  refine ⟨_, List.mem_filter.2 ⟨List.mem_map.2 ⟨x, hx, rfl⟩, ?_⟩, hm⟩
  cases he : xAH (xAV x (xAU m.to)) with
  | false => rfl
  | true => rw [xAR he] at hm; cases hm
theorem xGc {m : MsgL} {l : List SpanL} {s : SpanL} (h : s ∈ inTo m l) : xAH s = false ∧ ∀ k, hasL s k = true → xAG k m.to = true := by
  refine ⟨?_, fun k hk => (xGd m l k ⟨s, h, hk⟩).2⟩
  unfold inTo at h
  rw [List.mem_filter] at h
  simpa using h.2
theorem xNR {m : MsgL} (hf : m.fr ≠ []) (l : List SpanL) (k : Str) : inL ((inTo m l).map (xDV m.to m.fr)) k = true ↔ ∃ r, k = m.fr ++ r ∧ inL l (m.to ++ r) = true := by
  rw [inL_iff]
  constructor
  · rintro ⟨x, hx, hk⟩
    obtain ⟨s, hs, rfl⟩ := List.mem_map.1 hx
    obtain ⟨h1, h2⟩ := xGc hs
    obtain ⟨r, rfl, hr⟩ := (xHR hf h1 h2 k).1 hk
    exact ⟨r, rfl, (xGd m l _ ⟨s, hs, hr⟩).1⟩
  · rintro ⟨r, rfl, hr⟩
    obtain ⟨s, hs, hk⟩ := (xPB m l (m.to ++ r)).2 ⟨hr, xBw _ _⟩
    obtain ⟨h1, h2⟩ := xGc hs
    exact ⟨_, List.mem_map.2 ⟨s, hs, rfl⟩, (xHR hf h1 h2 _).2 ⟨r, rfl, hk⟩⟩
theorem xHu {l : List SpanL} (h : Nrm l) (m : MsgL) : Nrm (xEh l m) := by
  unfold xEh
  split
  · exact xCq _ _
  · split
    · exact xCq _ _
    · split
      · exact h
      · exact (xAq _).1
theorem xIX {m : MsgL} (hm : MsgOk m) (l : List SpanL) (k : Str) : inL (xEh l m) k = true ↔ ∃ x, inL l x = true ∧ bkL m x = some k := by
  unfold xEh bkL
  by_cases h1 : m.kind = 1 ∨ m.kind = 2
  · simp only [if_pos h1]
    rw [xBN, xAT, xJr]
    simp only [inL, List.any_nil, Bool.or_false, Bool.and_eq_true, Bool.not_eq_true', beq_eq_false_iff_ne, ne_eq]
    constructor
    · rintro ⟨g1, g2⟩
      exact ⟨k, g1, by rw [if_neg fun e => g2 e.symm]⟩
    · rintro ⟨x, g1, g2⟩
      split at g2
      · cases g2
      · rename_i hx
        cases g2
        exact ⟨g1, fun e => hx e.symm⟩
  simp only [if_neg h1]
  by_cases h3 : m.kind = 3
  · simp only [if_pos h3]
    rw [xBN, xAT]
    simp only [inL, List.any_nil, Bool.or_false, Bool.and_eq_true, Bool.not_eq_true']
    constructor
    · rintro ⟨g1, g2⟩
      exact ⟨k, g1, by rw [if_neg (by rw [g2]; simp)]⟩
    · rintro ⟨x, g1, g2⟩
      split at g2
      · cases g2
      · rename_i hx
        cases g2
        exact ⟨g1, by simpa using hx⟩
  simp only [if_neg h3]
  by_cases h6 : m.kind = 6
  · simp only [if_pos h6]
    exact ⟨fun h => ⟨k, h, rfl⟩, fun ⟨x, h, e⟩ => by cases e; exact h⟩
  simp only [if_neg h6]
  have hk := hm.k
  have h45 : m.kind = 4 ∨ m.kind = 5 := by omega
  obtain ⟨ap1, ap2⟩ := hm.ap h45
  obtain ⟨ne1, ne2⟩ := hm.ne h45
  have both : ∀ x, xAG x m.fr = true → xAG x m.to = true → False := by
    intro x b1 b2
    obtain ⟨r, rfl⟩ := begins_iff.1 b1
    obtain ⟨q, hq⟩ := begins_iff.1 b2
    rcases Nat.le_total m.fr.length m.to.length with hlen | hlen
    · have : xAG m.to m.fr = true := begins_iff.2 ⟨m.to.drop m.fr.length, by
        have := congrArg (List.take m.fr.length) hq
        rw [List.take_left, List.take_append_of_le_length hlen] at this
        conv => lhs; rw [← List.take_append_drop m.fr.length m.to]
        rw [← this]⟩
      rw [this] at ap2; cases ap2
    · have : xAG m.fr m.to = true := begins_iff.2 ⟨m.fr.drop m.to.length, by
        have := congrArg (List.take m.to.length) hq
        rw [List.take_left, List.take_append_of_le_length hlen] at this
        conv => lhs; rw [← List.take_append_drop m.to.length m.fr]
        rw [this]⟩
      rw [this] at ap1; cases ap1
  rw [(xAq _).2, xBh, Bool.or_eq_true, xBN, xNR ne1]
  have hg : inL (xJF m) k = (xAG k m.to || (decide (m.kind = 4) && xAG k m.fr)) := by
    unfold xJF
    rw [xAT, xA8]
    by_cases h4 : m.kind = 4
    · rw [if_pos h4, xAT, xA8]; simp [inL, h4]
    · rw [if_neg h4]; simp [inL, h4]
  rw [hg]
  simp only [Bool.and_eq_true, Bool.not_eq_true', Bool.or_eq_false_iff]
  constructor
  · rintro (⟨g1, g2, g3⟩ | ⟨r, rfl, g⟩)
    · refine ⟨k, g1, ?_⟩
      rw [if_neg (fun hc => by rw [hc.2, decide_eq_true hc.1] at g3; cases g3), if_neg (by rw [g2]; simp)]
    · refine ⟨m.to ++ r, g, ?_⟩
      rw [if_neg fun hc => both _ hc.2 (xBw _ _), if_pos (xBw _ _)]
      simp
  · rintro ⟨x, g1, g2⟩
    split at g2
    · cases g2
    · rename_i hc
      split at g2
      · rename_i hb
        obtain ⟨r, rfl⟩ := begins_iff.1 hb
        simp only [List.drop_left, Option.some.injEq] at g2
        exact .inr ⟨r, g2.symm, g1⟩
      · rename_i hb
        cases g2
        refine .inl ⟨g1, by simpa using hb, ?_⟩
        by_cases h4 : m.kind = 4
        · rw [decide_eq_true h4, Bool.true_and]
          cases hx : xAG k m.fr with
          | false => rfl
          | true => exact (hc ⟨h4, hx⟩).elim
        · rw [decide_eq_false h4]; rfl
theorem spans_nrm (s : SpanL) (r : List MsgL) : Nrm (xHG s r) := by
  unfold xHG
  have key : ∀ (r : List MsgL) (l : List SpanL), Nrm l → Nrm (r.foldl xEh l) := by
    intro r
    induction r with
    | nil => intro l h; exact h
    | cons m r ih => intro l h; exact ih _ (xHu h m)
  exact key r _ (xAq _).1
theorem xHE : ∀ (r : List MsgL) (l : List SpanL) (k : Str), (∀ m ∈ r, MsgOk m) → (inL (r.foldl xEh l) k = true ↔ ∃ x, inL l x = true ∧ bksL r x = some k)
  | [], l, k, _ => ⟨fun h => ⟨k, h, rfl⟩, fun ⟨x, h, e⟩ => by cases e; exact h⟩
  | m :: r, l, k, h => by
    rw [List.foldl_cons, xHE r _ k fun x hx => h x (by simp [hx])]
    constructor
    · rintro ⟨x, g1, g2⟩
      obtain ⟨y, g3, g4⟩ := (xIX (h m (by simp)) l x).1 g1
      exact ⟨y, g3, by rw [bksL, g4]; exact g2⟩
    · rintro ⟨y, g1, g2⟩
      rw [bksL] at g2
      obtain ⟨x, g3, g4⟩ := Option.bind_eq_some_iff.1 g2
      exact ⟨x, (xIX (h m (by simp)) l x).2 ⟨y, g1, g3⟩, g4⟩
theorem spans_keys (s : SpanL) {r : List MsgL} (h : ∀ m ∈ r, MsgOk m) (k : Str) : inL (xHG s r) k = true ↔ ∃ x, hasL s x = true ∧ bksL r x = some k := by
  unfold xHG
  rw [xHE r _ k h]
  have e : ∀ x, inL (xAd [s]) x = hasL s x := fun x => by rw [(xAq _).2]; simp [inL]
  simp only [e]
end Go.Pu
set_option linter.unusedVariables false
set_option linter.unusedSimpArgs false
namespace Go.Pu
theorem xRT {x a b : Str} (b1 : xAG x a = true) (b2 : xAG x b = true) : xAG a b = true ∨ xAG b a = true := by
  obtain ⟨r, rfl⟩ := begins_iff.1 b1
  obtain ⟨q, hq⟩ := begins_iff.1 b2
  rcases Nat.le_total a.length b.length with hlen | hlen
  · refine .inr (begins_iff.2 ⟨b.drop a.length, ?_⟩)
    have := congrArg (List.take a.length) hq
    rw [List.take_left, List.take_append_of_le_length hlen] at this
    conv => lhs; rw [← List.take_append_drop a.length b]
    rw [← this]
  · refine .inl (begins_iff.2 ⟨a.drop b.length, ?_⟩)
    have := congrArg (List.take b.length) hq
    rw [List.take_left, List.take_append_of_le_length hlen] at this
    conv => lhs; rw [← List.take_append_drop b.length a]
    rw [this]
theorem bk_inj {m : MsgL} (hm : MsgOk m) (hc : m.kind ≠ 5) {a b k : Str} (ha : bkL m a = some k) (hb : bkL m b = some k) : a = b := by
  unfold bkL at ha hb
  by_cases h1 : m.kind = 1 ∨ m.kind = 2
  · rw [if_pos h1] at ha hb
    split at ha
    · cases ha
    · split at hb
      · cases hb
      · cases ha; cases hb; rfl
  rw [if_neg h1] at ha hb
  by_cases h3 : m.kind = 3
  · rw [if_pos h3] at ha hb
    split at ha
    · cases ha
    · split at hb
      · cases hb
      · cases ha; cases hb; rfl
  rw [if_neg h3] at ha hb
  by_cases h6 : m.kind = 6
  · rw [if_pos h6] at ha hb
    cases ha; cases hb; rfl
  rw [if_neg h6] at ha hb
  have hk := hm.k
  have h4 : m.kind = 4 := by omega
  simp only [h4, true_and] at ha hb
  split at ha
  · cases ha
  · rename_i na
    split at hb
    · cases hb
    · rename_i nb
      split at ha
      · rename_i ta
        obtain ⟨r, rfl⟩ := begins_iff.1 ta
        simp only [List.drop_left, Option.some.injEq] at ha
        split at hb
        · rename_i tb
          obtain ⟨q, rfl⟩ := begins_iff.1 tb
          simp only [List.drop_left, Option.some.injEq] at hb
          rw [← hb, List.append_cancel_left_eq] at ha
          rw [ha]
        · cases hb
          rw [← ha] at nb
          exact (nb (xBw _ _)).elim
      · cases ha
        split at hb
        · rename_i tb
          obtain ⟨q, rfl⟩ := begins_iff.1 tb
          simp only [List.drop_left, Option.some.injEq] at hb
          rw [← hb] at na
          exact (na (xBw _ _)).elim
        · cases hb; rfl
theorem xRR : ∀ {r : List MsgL}, (∀ m ∈ r, MsgOk m) → (∀ m ∈ r, m.kind ≠ 5) → ∀ {a b k : Str}, bksL r a = some k → bksL r b = some k → a = b
  | [], _, _, a, b, k, ha, hb => by cases ha; cases hb; rfl
  | m :: r, h, hc, a, b, k, ha, hb => by
    rw [bksL] at ha hb
    obtain ⟨x, g1, g2⟩ := Option.bind_eq_some_iff.1 ha
    obtain ⟨y, g3, g4⟩ := Option.bind_eq_some_iff.1 hb
    have := xRR (fun m hm => h m (by simp [hm])) (fun m hm => hc m (by simp [hm])) g2 g4
    subst this
    exact bk_inj (h m (by simp)) (hc m (by simp)) g1 g3
theorem xND {l : List SpanL} (h : Nrm l) {b : List Str} (hb : ∀ s ∈ l, s.lo ∈ b) : l.length ≤ b.length := by
  have := xGF (l.map SpanL.lo) b (xJt h) (by
    intro x hx
    obtain ⟨s, hs, rfl⟩ := List.mem_map.1 hx
    exact hb s hs)
  simpa using this
theorem xJx {l g : List SpanL} {t : SpanL} (h : t ∈ xBm l g) : xAH t = false → (∃ x ∈ l, x.lo = t.lo) ∨ ∃ x ∈ g, x.hi = t.lo := by
  intro hne
  unfold xBm at h
  rw [List.mem_flatMap] at h
  obtain ⟨c, hc, ht⟩ := h
  obtain ⟨x, hx, rfl⟩ := List.mem_map.1 ht
  have hm : xAV c x = ⟨maxL c.lo x.lo, xBg c.hi x.hi⟩ ∨ xAV c x = xGE := by unfold xAV; split <;> simp
  rcases hm with hm | hm
  · rw [hm]
    simp only
    rcases xHU c.lo x.lo with e | e
    · rw [e]
      rcases xFk _ _ _ _ hc with h1 | h1 | ⟨y, hy, h1⟩
      · cases h1
      · rw [h1] at e ⊢
        left
        refine ⟨x, hx, ?_⟩
        have h2 : ble x.lo [] = true := by
          have := (xGN (a := c.lo) (b := x.lo) (k := maxL c.lo x.lo)).1 (xDE _)
          rw [h1, e] at this
          exact this.2
        exact xDl h2 (xDk _)
      · right
        obtain ⟨z, hz, e2⟩ := xHx hy
        exact ⟨z, hz, by rw [e2, h1]⟩
    · rw [e]
      exact .inl ⟨x, hx, rfl⟩
  · rw [hm] at hne
    exact absurd hne (by decide)
theorem xOr {l g : List SpanL} {t : SpanL} (h : t ∈ xBF l g) : (∃ x ∈ l, x.lo = t.lo) ∨ ∃ x ∈ g, x.hi = t.lo := by
  unfold xBF at h
  obtain ⟨y, hy, e, hne⟩ := xES h
  rw [← e]
  exact xJx hy hne
theorem xOp (f t : Str) (s : SpanL) : (xDV f t s).lo = t ++ s.lo.drop f.length := rfl
theorem xQt (a b : SpanL) : (xAV a b).lo = maxL a.lo b.lo ∨ xAV a b = xGE := by
  unfold xAV
  split
  · exact .inr rfl
  · exact .inl rfl
theorem xN8 {m : MsgL} (hm : MsgOk m) {l : List SpanL} (h : Nrm l) : (xEh l m).length ≤ l.length + 3 := by
  have hn := xHu h m
  unfold xEh at hn ⊢
  split
  · have := xCr l [oneL m.key]
    simp at this
    omega
  · split
    · have := xCr l [m.sp]
      simp at this
      omega
    · split
      · omega
      · rename_i h1 h3 h6
        rw [if_neg h1, if_neg h3, if_neg h6] at hn
        have hk := hm.k
        have h45 : m.kind = 4 ∨ m.kind = 5 := by omega
        refine Nat.le_trans (xND hn (b := (l.map fun x => if xAG x.lo m.to = true then m.fr ++ x.lo.drop m.to.length else x.lo) ++ [upL m.to, upL m.fr, m.fr]) ?_) (by simp)
        intro s hs
        obtain ⟨y, hy, e, hne⟩ := xES hs
        rw [← e]
        rw [List.mem_append] at hy
        rcases hy with hy | hy
        · rcases xOr hy with ⟨x, hx, e1⟩ | ⟨x, hx, e1⟩
          · have hx2 : xAG y.lo m.to = false := by
              have h7 : inL (xBF l (xJF m)) y.lo = true := inL_iff.2 ⟨y, hy, xCt hne⟩
              rw [xBN, Bool.and_eq_true, xJF, xAT, xA8] at h7
              have h8 := h7.2
              simp only [Bool.not_eq_true', Bool.or_eq_false_iff] at h8
              exact h8.1
            rw [List.mem_append]
            left
            rw [List.mem_map]
            refine ⟨x, hx, ?_⟩
            rw [e1, if_neg (by rw [hx2]; simp)]
          · rw [List.mem_append]
            right
            rw [← e1]
            unfold xJF at hx
            split at hx
            · simp at hx
              rcases hx with rfl | rfl
              · simp [xAU]
              · simp [xAU]
            · simp at hx
              subst hx
              simp [xAU]
        · obtain ⟨s2, hs2, rfl⟩ := List.mem_map.1 hy
          obtain ⟨hne2, hbg⟩ := xGc hs2
          have hb2 := hbg _ (xCt hne2)
          unfold inTo at hs2
          rw [List.mem_filter, List.mem_map] at hs2
          obtain ⟨⟨x, hx, rfl⟩, _⟩ := hs2
          rw [xOp, List.mem_append]
          rcases xQt x (xAU m.to) with e2 | e2
          · rw [e2] at hb2 ⊢
            rcases xHU x.lo (xAU m.to).lo with e3 | e3
            · rw [e3] at hb2 ⊢
              left
              rw [List.mem_map]
              exact ⟨x, hx, by rw [if_pos hb2]⟩
            · rw [e3]
              right
              simp [xAU]
          · rw [e2] at hne2
            exact absurd hne2 (by decide)
theorem spans_len (s : SpanL) {r : List MsgL} (h : ∀ m ∈ r, MsgOk m) : (xHG s r).length ≤ 1 + 3 * r.length := by
  unfold xHG
  have key : ∀ (r : List MsgL) (l : List SpanL), Nrm l → (∀ m ∈ r, MsgOk m) → (r.foldl xEh l).length ≤ l.length + 3 * r.length := by
    intro r
    induction r with
    | nil => intro l h _; simp
    | cons m r ih =>
      intro l hl h
      have h1 := ih _ (xHu hl m) fun x hx => h x (by simp [hx])
      have h2 := xN8 (h m (by simp)) hl
      simp only [List.foldl_cons, List.length_cons]
      omega
  have h1 := key r _ (xAq [s]).1 h
  have h2 := xDR [s]
  simp only [List.length_cons, List.length_nil] at h2
  omega
end Go.Pu
set_option linter.unusedVariables false
set_option linter.unusedSimpArgs false
namespace Go.Pu
theorem xNe {l : List SpanL} (h : Nrm l) (c : SpanL) : (xDB l c).length ≤ l.length + 1 := by
  have hn := xLB h c
  have : (xDB l c).length ≤ (l.map SpanL.lo ++ [c.hi]).length := xND hn fun s hs => by
    unfold xDB at hs
    split at hs
    · exact List.mem_append.2 (.inl (List.mem_map.2 ⟨s, hs, rfl⟩))
    · obtain ⟨y, hy, e, hne⟩ := xES hs
      rw [← e]
      obtain ⟨x, hx, hy⟩ := List.mem_flatMap.1 hy
      unfold cutL at hy
      have two : ∀ z : SpanL, y = xAV x z → (z.lo = [] ∨ z.lo = c.hi) → y.lo ∈ l.map SpanL.lo ++ [c.hi] := by
        rintro z rfl hz
        have hm : xAV x z = ⟨maxL x.lo z.lo, xBg x.hi z.hi⟩ ∨ xAV x z = xGE := by unfold xAV; split <;> simp
        rcases hm with hm | hm
        · rw [hm]
          rcases xHU x.lo z.lo with e2 | e2
          · simp only [e2]
            exact List.mem_append.2 (.inl (List.mem_map.2 ⟨x, hx, rfl⟩))
          · simp only [e2]
            rcases hz with hz | hz
            · rw [hz] at e2 ⊢
              have h2 : ble x.lo [] = true := by
                have := (xGN (a := x.lo) (b := []) (k := maxL x.lo [])).1 (xDE _)
                rw [e2] at this
                exact this.1
              have h3 := xDl h2 (xDk _)
              exact List.mem_append.2 (.inl (List.mem_map.2 ⟨x, hx, h3⟩))
            · rw [hz]
              simp
        · rw [hm] at hne
          exact absurd hne (by decide)
      rw [List.mem_append] at hy
      rcases hy with hy | hy
      · split at hy
        · cases hy
        · exact two _ (List.mem_singleton.1 hy) (.inl rfl)
      · split at hy
        · cases hy
        · exact two _ (List.mem_singleton.1 hy) (.inr rfl)
  simpa using this
end Go.Pu
set_option linter.unusedVariables false
set_option linter.unusedSimpArgs false
namespace Go.Pu
theorem xK4 : ∀ (l : List SpanL) (lo : Str) (out : List SpanL) (t : SpanL), t ∈ xCU lo l out → t ∈ out ∨ t.hi = [] ∨ ∃ x ∈ l, x.lo = t.hi
  | [], lo, out, t, h => by
    rw [xCU] at h
    rcases List.mem_append.1 h with h | h
    · exact .inl h
    · exact .inr (.inl (by rw [List.mem_singleton.1 h]))
  | s :: l, lo, out, t, h => by
    have h2 : t ∈ (if s.lo = [] then out else out ++ [⟨lo, s.lo⟩]) → t ∈ out ∨ s.lo = t.hi := by
      split
      · exact .inl
      · intro h
        rcases List.mem_append.1 h with h | h
        · exact .inl h
        · exact .inr (by rw [List.mem_singleton.1 h])
    rw [xCU] at h
    generalize (if s.lo = [] then out else out ++ [(⟨lo, s.lo⟩ : SpanL)]) = o2 at *
    split at h
    · rcases h2 h with h | h
      · exact .inl h
      · exact .inr (.inr ⟨s, by simp, h⟩)
    · rcases xK4 l s.hi o2 t h with h | h | ⟨x, hx, hxt⟩
      · rcases h2 h with h | h
        · exact .inl h
        · exact .inr (.inr ⟨s, by simp, h⟩)
      · exact .inr (.inl h)
      · exact .inr (.inr ⟨x, by simp [hx], hxt⟩)
def SpLen (n : Nat) (l : List SpanL) : Prop := ∀ s ∈ l, s.lo.length ≤ n ∧ s.hi.length ≤ n
theorem SpLen.mono {n m : Nat} (h : n ≤ m) {l : List SpanL} (hl : SpLen n l) : SpLen m l := fun s hs => ⟨Nat.le_trans (hl s hs).1 h, Nat.le_trans (hl s hs).2 h⟩
theorem SpLen.app {n : Nat} {a b : List SpanL} (ha : SpLen n a) (hb : SpLen n b) : SpLen n (a ++ b) := fun s hs => (List.mem_append.1 hs).elim (ha s) (hb s)
theorem xD9 {n : Nat} {l : List SpanL} (h : SpLen n l) : SpLen n (xAd l) := by
  intro s hs
  obtain ⟨x, hx, e, _⟩ := xES hs
  obtain ⟨y, hy, e2⟩ := xHx hs
  rw [← e, ← e2]
  exact ⟨(h x hx).1, (h y hy).2⟩
theorem xO8 (a b : Str) : xBg a b = a ∨ xBg a b = b := by unfold xBg; split <;> simp
theorem xHT {n : Nat} (hn : 1 ≤ n) {a b : SpanL} (ha : a.lo.length ≤ n ∧ a.hi.length ≤ n) (hb : b.lo.length ≤ n ∧ b.hi.length ≤ n) : (xAV a b).lo.length ≤ n ∧ (xAV a b).hi.length ≤ n := by
  unfold xAV
  split
  · exact ⟨hn, hn⟩
  · simp only
    constructor
    · rcases xHU a.lo b.lo with e | e <;> rw [e]
      · exact ha.1
      · exact hb.1
    · rcases xO8 a.hi b.hi with e | e <;> rw [e]
      · exact ha.2
      · exact hb.2
theorem xLk {n : Nat} {g : List SpanL} (hg : SpLen n g) : SpLen n (xCU [] (xAd g) []) := by
  have h := xD9 hg
  intro s hs
  constructor
  · rcases xFk _ _ _ _ hs with h1 | h1 | ⟨x, hx, h1⟩
    · cases h1
    · rw [h1]; simp
    · rw [← h1]; exact (h x hx).2
  · rcases xK4 _ _ _ _ hs with h1 | h1 | ⟨x, hx, h1⟩
    · cases h1
    · rw [h1]; simp
    · rw [← h1]; exact (h x hx).1
theorem xEE {n : Nat} (hn : 1 ≤ n) {l g : List SpanL} (hl : SpLen n l) (hg : SpLen n g) : SpLen n (xBF l g) := by
  unfold xBF
  refine xD9 fun s hs => ?_
  unfold xBm at hs
  rw [List.mem_flatMap] at hs
  obtain ⟨c, hc, ht⟩ := hs
  obtain ⟨x, hx, rfl⟩ := List.mem_map.1 ht
  exact xHT hn (xLk hg c hc) (hl x hx)
structure MsgLen (b : Nat) (m : MsgL) : Prop where
  key : m.key.length ≤ b
  lo : m.sp.lo.length ≤ b
  hi : m.sp.hi.length ≤ b
  fr : m.fr.length ≤ b
  to : m.to.length ≤ b
theorem xCc {n : Nat} {p : Str} (h : p.length ≤ n) : (xAU p).lo.length ≤ n ∧ (xAU p).hi.length ≤ n := ⟨h, Nat.le_trans (xJd p) h⟩
theorem xLj {b : Nat} {m : MsgL} (hm : MsgLen b m) : SpLen b (xJF m) := by
  intro s hs
  unfold xJF at hs
  split at hs
  · simp at hs
    rcases hs with rfl | rfl
    · exact xCc hm.to
    · exact xCc hm.fr
  · simp at hs
    subst hs
    exact xCc hm.to
theorem xLh {n : Nat} (hn : 1 ≤ n) {l : List SpanL} (hl : SpLen n l) {m : MsgL} (hm : m.to.length ≤ n) : SpLen n (inTo m l) := by
  intro s hs
  unfold inTo at hs
  rw [List.mem_filter, List.mem_map] at hs
  obtain ⟨⟨x, hx, rfl⟩, _⟩ := hs
  exact xHT hn (hl x hx) (xCc hm)
theorem xIw {n b : Nat} {s : SpanL} (hs : s.lo.length ≤ n ∧ s.hi.length ≤ n) {f t : Str} (ht : t.length ≤ b) : (xDV f t s).lo.length ≤ n + b ∧ (xDV f t s).hi.length ≤ n + b := by
  unfold xDV
  simp only
  constructor
  · simp only [List.length_append, List.length_drop]; omega
  · split
    · simp only [List.length_append, List.length_drop]; omega
    · have := xJd t; omega
theorem xLL {n b : Nat} (hb : b + 1 ≤ n) {l : List SpanL} (hl : SpLen n l) {m : MsgL} (hm : MsgLen b m) : SpLen (n + b) (xEh l m) := by
  unfold xEh
  split
  · refine (xEE (by omega) hl ?_).mono (by omega)
    intro s hs
    simp at hs
    subst hs
    have := hm.key
    unfold oneL
    simp
    omega
  · split
    · refine (xEE (by omega) hl ?_).mono (by omega)
      intro s hs
      simp at hs
      subst hs
      have h1 := hm.lo
      have h2 := hm.hi
      omega
    · split
      · exact hl.mono (by omega)
      · refine xD9 (SpLen.app ((xEE (by omega) hl ((xLj hm).mono (by omega))).mono (by omega)) ?_)
        intro s hs
        obtain ⟨x, hx, rfl⟩ := List.mem_map.1 hs
        exact xIw (xLh (by omega) hl (by have := hm.to; omega) x hx) hm.fr
theorem xJg {b : Nat} : ∀ (r : List MsgL) (n : Nat) (l : List SpanL), b + 1 ≤ n → SpLen n l → (∀ m ∈ r, MsgLen b m) → SpLen (n + b * r.length) (r.foldl xEh l)
  | [], n, l, _, h, _ => by simpa using h
  | m :: r, n, l, hb, h, hm => by
    have := xJg r (n + b) _ (by omega) (xLL hb h (hm m (by simp))) fun x hx => hm x (by simp [hx])
    rw [List.foldl_cons]
    refine this.mono ?_
    rw [List.length_cons, Nat.mul_add]
    omega
end Go.Pu
set_option linter.unusedVariables false
set_option linter.unusedSimpArgs false
namespace Go.Pu
structure RawM where
  a : Nat
  b : Nat
  c : Nat
  d : Nat
  e : Nat
  f : Nat
  deriving DecidableEq
def RawM.ok (r : RawM) : Prop := r.a < 256 ∧ r.b < 256 ∧ r.c < 256 ∧ r.d < 256 ∧ r.e < 256 ∧ r.f < 256
def paths5 : List Str := [[97, 47], [98, 47], [97, 47, 98, 47], [99, 47], [100, 47]]
def xAm (n : Nat) : Str := (paths5[n % 5]?).getD []
def ends5 : List Str := [[1], [2, 0, 0], [2, 0, 1], [2, 0, 2], [3, 120]]
def endM (n : Nat) : Str := (ends5[n % 5]?).getD []
def keyM (n : Nat) : Str := xAm (n % 4) ++ endM (n / 4)
def vals5 : List Str := [[], [120], [121, 121], [49, 50, 51, 52, 53, 54, 55, 56, 57, 48], [0, 255]]
def valM (n : Nat) : Str := (vals5[n % 5]?).getD []
def minS (a b : Str) : Str := if Op.bytesLess b a = true then b else a
def spM (x : RawM) : SpanL :=
  if x.e % 4 = 0 then xAU (xAm x.b) else
  if x.e % 16 = 1 then ⟨keyM x.b, []⟩ else
  if x.e % 16 = 5 then ⟨[], []⟩ else
  if keyM x.b = keyM x.d then oneL (keyM x.b) else ⟨minS (keyM x.b) (keyM x.d), maxL (keyM x.b) (keyM x.d)⟩
def toM (x : RawM) : Str :=
  if xAG (xAm x.b) (xAm x.d) = true ∨ xAG (xAm x.d) (xAm x.b) = true then (if xAm x.b = [100, 47] then [99, 47] else [100, 47]) else xAm x.d
def xAe (x : RawM) : MsgL :=
  if x.a % 6 = 0 then ⟨1, keyM x.b, valM x.c, ⟨[], []⟩, [], [], (x.f % 8 : Nat)⟩ else
  if x.a % 6 = 1 then ⟨2, keyM x.b, [], ⟨[], []⟩, [], [], 0⟩ else
  if x.a % 6 = 2 then ⟨3, [], [], spM x, [], [], 0⟩ else
  if x.a % 6 = 3 then ⟨4, [], [], ⟨[], []⟩, xAm x.b, toM x, 0⟩ else
  if x.a % 6 = 4 then ⟨5, [], [], ⟨[], []⟩, xAm x.b, toM x, 0⟩ else ⟨6, [], [], spM x, [], [], (x.f % 8 : Nat)⟩
def xDX (l : List RawM) (n : Nat) : List MsgL := (l.take n).map xAe
theorem xCC (n : Nat) : xAm n ∈ paths5 := by
  unfold xAm paths5
  have : n % 5 < 5 := Nat.mod_lt _ (by omega)
  generalize n % 5 = m at this
  match m, this with
  | 0, _ => simp
  | 1, _ => simp
  | 2, _ => simp
  | 3, _ => simp
  | 4, _ => simp
theorem xNa (n : Nat) : endM n ∈ ends5 := by
  unfold endM ends5
  have : n % 5 < 5 := Nat.mod_lt _ (by omega)
  generalize n % 5 = m at this
  match m, this with
  | 0, _ => simp
  | 1, _ => simp
  | 2, _ => simp
  | 3, _ => simp
  | 4, _ => simp
theorem xCd {p : Str} (h : p ∈ paths5) : p.length ≤ 4 ∧ p ≠ [] := by
  have : ∀ p ∈ paths5, p.length ≤ 4 ∧ p ≠ [] := by decide
  exact this p h
theorem xJ0 (n : Nat) : (keyM n).length ≤ 7 := by
  have h1 := (xCd (xCC (n % 4))).1
  have h2 : ∀ p ∈ ends5, p.length ≤ 3 := by decide
  have h3 := h2 _ (xNa (n / 4))
  unfold keyM
  simp only [List.length_append]
  omega
theorem xPU (x : RawM) : toM x ∈ paths5 := by
  unfold toM
  split
  · split
    · decide
    · decide
  · exact xCC _
theorem xN7 (x : RawM) : xAG (xAm x.b) (toM x) = false ∧ xAG (toM x) (xAm x.b) = false := by
  have key : ∀ p ∈ paths5, ∀ q ∈ paths5, xAG p (if xAG p q = true ∨ xAG q p = true then (if p = [100, 47] then [99, 47] else [100, 47]) else q) = false ∧ xAG (if xAG p q = true ∨ xAG q p = true then (if p = [100, 47] then [99, 47] else [100, 47]) else q) p = false := by decide
  exact key _ (xCC _) _ (xCC _)
theorem xOD (x : RawM) : xAH (spM x) = false := by
  unfold spM
  split
  · exact xB3 _
  · split
    · simp [xAH]
    · split
      · simp [xAH]
      · split
        · exact xEU _
        · rename_i h
          generalize keyM x.b = a at h
          generalize keyM x.d = b at h
          unfold minS maxL xAH
          simp only
          rcases xBq a b with h1 | h1 | h1
          · have h2 := xBZ h1
            simp [h1, h2, (xJV h1).symm]
          · exact absurd h1 h
          · have h2 := xBZ h1
            simp [h1, h2, (xJV h1).symm]
theorem xIB (x : RawM) : MsgOk (xAe x) := by
  have ha := xN7 x
  have h1 := (xCd (xCC x.b)).2
  have h2 := (xCd (xPU x)).2
  unfold xAe
  repeat' split
  all_goals refine ⟨by simp, ?_, ?_⟩
  all_goals first | (intro h; exact ha) | (intro h; exact ⟨h1, h2⟩) | (intro h; simp at h)
theorem xGR (x : RawM) (h : (xAe x).kind = 3 ∨ (xAe x).kind = 6) : xAH (xAe x).sp = false := by
  have hs := xOD x
  unfold xAe at h ⊢
  repeat' split
  all_goals first | exact hs | simp_all
theorem xLc {a b : Str} {n : Nat} (ha : a.length ≤ n) (hb : b.length ≤ n) : (minS a b).length ≤ n ∧ (maxL a b).length ≤ n := by
  unfold minS maxL
  constructor <;> split <;> assumption
theorem xKq (x : RawM) : MsgLen 8 (xAe x) := by
  have h1 := (xCd (xCC x.b)).1
  have h2 := (xCd (xPU x)).1
  have h3 := xJ0 x.b
  have h4 := xJ0 x.d
  have h5 := xJd (xAm x.b)
  have h6 := xLc (n := 8) (a := keyM x.b) (b := keyM x.d) (by omega) (by omega)
  have hs : (spM x).lo.length ≤ 8 ∧ (spM x).hi.length ≤ 8 := by
    unfold spM
    repeat' split
    · exact ⟨by show (xAm x.b).length ≤ 8; omega, by show (upL (xAm x.b)).length ≤ 8; omega⟩
    · exact ⟨by simp only; omega, by simp⟩
    · simp
    · exact ⟨by show (keyM x.b).length ≤ 8; omega, by show (keyM x.b ++ [0]).length ≤ 8; simp; omega⟩
    · exact h6
  unfold xAe
  repeat' split
  all_goals (refine ⟨?_, ?_, ?_, ?_, ?_⟩ <;> simp only [List.length_nil] <;> omega)
theorem xQ1 {l : List RawM} {n : Nat} : ∀ m ∈ xDX l n, MsgOk m := by
  intro m hm
  obtain ⟨x, _, rfl⟩ := List.mem_map.1 hm
  exact xIB x
theorem xO4 {l : List RawM} {n : Nat} : ∀ m ∈ xDX l n, MsgLen 8 m := by
  intro m hm
  obtain ⟨x, _, rfl⟩ := List.mem_map.1 hm
  exact xKq x
end Go.Pu
set_option linter.unusedVariables false
set_option linter.unusedSimpArgs false
namespace Go.Pu
def covL (m : MsgL) (d : List SpanL) : Bool := (xBF (xAJ m) d).length == 0
def nxtL (m : MsgL) (d : List SpanL) : List SpanL := xBF (d ++ xDb m) (xAx m)
def xDK : List MsgL → List SpanL → List MsgL
  | [], _ => []
  | m :: r, d => if covL m d = true then xDK r d else m :: xDK r (nxtL m d)
def xRI : List MsgL → List SpanL → List SpanL
  | [], d => d
  | m :: r, d => if covL m d = true then xRI r d else xRI r (nxtL m d)
def xQy (l : List MsgL) (dead : List SpanL) : List MsgL × List SpanL := ((xDK l.reverse (xAd dead)).reverse, xRI l.reverse (xAd dead))
def xCN (l : List MsgL) : List MsgL := (xQy l []).1
theorem xIk : xAd [] = [] := rfl
theorem xA6 (m : MsgL) : (xAJ m).length ≤ 2 := by
  unfold xAJ
  repeat' split
  all_goals simp
theorem xNJ (m : MsgL) : (xDb m).length ≤ 2 := by unfold xDb; split; simp; exact xA6 m
theorem xCp (m : MsgL) : (xAx m).length ≤ 1 := by
  unfold xAx
  repeat' split
  all_goals simp
theorem nxt_len (m : MsgL) (d : List SpanL) : (nxtL m d).length ≤ d.length + 3 := by
  have h1 := xCr (d ++ xDb m) (xAx m)
  have h2 := xNJ m
  have h3 := xCp m
  unfold nxtL
  rw [List.length_append] at h1
  omega
theorem cov_iff {m : MsgL} {d : List SpanL} : covL m d = true ↔ ∀ k, inL (xAJ m) k = true → inL d k = true := by
  unfold covL
  have e : ((xBF (xAJ m) d).length == 0) = true ↔ xBF (xAJ m) d = [] := by simp
  rw [e]
  constructor
  · intro h k hk
    have := xBN (xAJ m) d k
    rw [h, hk] at this
    cases hd : inL d k with
    | true => rfl
    | false => rw [hd] at this; simp [inL] at this
  · intro h
    refine Nrm.ext (xCq _ _) ⟨by simp, by simp⟩ fun k => ?_
    rw [xBN]
    cases hw : inL (xAJ m) k with
    | false => simp [inL]
    | true => rw [h k hw]; simp [inL]
theorem xH6 (m : MsgL) (d : List SpanL) (k : Str) : inL (nxtL m d) k = ((inL d k || inL (xDb m) k) && !inL (xAx m) k) := by
  unfold nxtL
  rw [xBN, xBh]
structure MsgW (m : MsgL) : Prop extends MsgOk m where
  w : ∃ k, inL (xAJ m) k = true
theorem xM9 (x : RawM) : MsgW (xAe x) := by
  refine ⟨xIB x, ?_⟩
  have hk := (xIB x).k
  unfold xAJ
  split
  · exact ⟨(xAe x).key, by rw [xAT, xJr]; simp⟩
  · split
    · exact ⟨(xAe x).fr, by rw [xAT, xA8]; simp [begins_iff]⟩
    · split
      · exact ⟨(xAe x).to, by rw [xAT, xA8]; simp [begins_iff]⟩
      · have h := xGR x (by omega)
        exact ⟨(xAe x).sp.lo, by rw [xAT, xCt h]; rfl⟩
theorem xJu {m : MsgL} (h : MsgW m) : covL m [] = false := by
  cases hc : covL m [] with
  | false => rfl
  | true =>
    obtain ⟨k, hk⟩ := h.w
    have := cov_iff.1 hc k hk
    simp [inL] at this
theorem xIE : ∀ (r : List MsgL) (d : List SpanL), (xDK r d).Sublist r
  | [], d => by simp [xDK]
  | m :: r, d => by
    rw [xDK]
    split
    · exact (xIE r d).cons m
    · exact (xIE r _).cons_cons m
theorem xGY : ∀ (r : List MsgL) (d : List SpanL), xDK (xDK r d) d = xDK r d
  | [], d => rfl
  | m :: r, d => by
    rw [xDK]
    cases h : covL m d with
    | true => simp only [if_true]; exact xGY r d
    | false =>
      simp only [Bool.false_eq_true, if_false]
      rw [xDK, h]
      simp only [Bool.false_eq_true, if_false]
      rw [xGY r]
theorem xOS (l : List MsgL) : xCN (xCN l) = xCN l := by
  unfold xCN xQy
  simp only [List.reverse_reverse, xIk]
  rw [xGY]
theorem reduce_sub (l : List MsgL) : (xCN l).Sublist l := by
  have := (xIE l.reverse (xAd [])).reverse
  rw [List.reverse_reverse] at this
  exact this
theorem xC5 {l : List MsgL} {m : MsgL} (h : MsgW m) : xCN (l ++ [m]) = (xDK l.reverse (nxtL m [])).reverse ++ [m] := by
  unfold xCN xQy
  simp only [List.reverse_append, List.reverse_cons, List.reverse_nil, List.nil_append, List.singleton_append, xIk]
  rw [xDK, xJu h]
  simp
theorem xKz : ∀ (r : List MsgL) (d : List SpanL), (∀ k, inL d k = true) → xDK r d = []
  | [], d, _ => rfl
  | m :: r, d, h => by
    rw [xDK, if_pos (cov_iff.2 fun k _ => h k)]
    exact xKz r d h
def xCW : MsgL := ⟨3, [], [], ⟨[], []⟩, [], [], 0⟩
theorem xNc : MsgW xCW := ⟨⟨by simp [xCW], by simp [xCW], by simp [xCW]⟩, [], by simp [xAJ, xCW, inL, hasL, xAj]⟩
theorem xN2 (l : List MsgL) : xCN (l ++ [xCW]) = [xCW] := by
  rw [xC5 xNc, xKz]
  · rfl
  · intro k
    rw [xH6]
    have h1 : inL (xDb xCW) k = true := by simp [xDb, xAJ, xCW, inL, hasL, xBd]
    have h2 : inL (xAx xCW) k = false := by simp [xAx, xCW, inL]
    rw [h1, h2]
    simp
theorem xPb {l : List MsgL} {m : MsgL} (h : MsgW m) (hk : m.kind = 1 ∨ m.kind = 2 ∨ m.kind = 3) : xCN (l ++ [m, m]) = xCN (l ++ [m]) := by
  have e : l ++ [m, m] = (l ++ [m]) ++ [m] := by simp
  rw [e, xC5 h, xC5 h]
  congr 1
  rw [List.reverse_append]
  simp only [List.reverse_cons, List.reverse_nil, List.nil_append, List.singleton_append]
  rw [xDK, if_pos]
  refine cov_iff.2 fun k hw => ?_
  rw [xH6]
  have h1 : xDb m = xAJ m := by unfold xDb; rw [if_neg (by omega)]
  have h2 : xAx m = [] := by unfold xAx; rw [if_neg (by omega), if_neg (by omega)]
  rw [h1, h2, hw]
  simp [inL]
def xIO (s d : SpanL) : Bool := !Op.bytesLess s.lo d.lo && (d.hi == [] || (!(s.hi == []) && (Op.bytesLess s.hi d.hi || s.hi == d.hi)))
def xFn (m d : MsgL) : Bool := (xAJ m).all fun s => xIO s d.sp
theorem xFQ {s d : SpanL} (hs : xAH s = false) : xIO s d = true ↔ ∀ k, hasL s k = true → hasL d k = true := by
  unfold xIO
  simp only [Bool.and_eq_true, Bool.not_eq_true', Bool.or_eq_true, beq_iff_eq, beq_eq_false_iff_ne, ne_eq]
  constructor
  · rintro ⟨h1, h2⟩ k hk
    obtain ⟨g1, g2⟩ := has_iff.1 hk
    have h3 : ble d.lo s.lo = true := by simp [ble, h1]
    refine has_iff.2 ⟨xAr h3 g1, ?_⟩
    rcases h2 with h2 | ⟨h2, h4⟩
    · exact .inl h2
    · have g2 := g2.resolve_left h2
      rcases h4 with h4 | h4
      · exact .inr (xAi g2 h4)
      · rw [← h4]; exact .inr g2
  · intro h
    have h1 := (has_iff.1 (h _ (xCt hs))).1
    refine ⟨by simpa [ble] using h1, ?_⟩
    by_cases hd : d.hi = []
    · exact .inl hd
    · refine .inr ?_
      have no : ∀ k, ble d.hi k = true → hasL d k = false := by
        intro k hk
        cases hh : hasL d k with
        | false => rfl
        | true =>
          have := (has_iff.1 hh).2.resolve_left hd
          simp [ble, this] at hk
      have hm : ble d.hi (maxL s.lo d.hi) = true := by
        have := (xGN (a := s.lo) (b := d.hi) (k := maxL s.lo d.hi)).1 (xDE _)
        exact this.2
      have hm1 : ble s.lo (maxL s.lo d.hi) = true := by
        have := (xGN (a := s.lo) (b := d.hi) (k := maxL s.lo d.hi)).1 (xDE _)
        exact this.1
      by_cases hsh : s.hi = []
      · have := h (maxL s.lo d.hi) (has_iff.2 ⟨hm1, .inl hsh⟩)
        rw [no _ hm] at this
        cases this
      · refine ⟨hsh, ?_⟩
        rcases xBq s.hi d.hi with h4 | h4 | h4
        · exact .inl h4
        · exact .inr h4
        · have h5 : Op.bytesLess (maxL s.lo d.hi) s.hi = true := by
            rcases xHU s.lo d.hi with e | e <;> rw [e]
            · exact xBA hs hsh
            · exact h4
          have := h (maxL s.lo d.hi) (has_iff.2 ⟨hm1, .inr h5⟩)
          rw [no _ hm] at this
          cases this
theorem xFp (x : RawM) : ∀ s ∈ xAJ (xAe x), xAH s = false := by
  intro s hs
  have hk := (xIB x).k
  unfold xAJ at hs
  split at hs
  · rw [List.mem_singleton.1 hs]; exact xEU _
  · split at hs
    · simp only [List.mem_cons, List.not_mem_nil, or_false] at hs
      rcases hs with rfl | rfl <;> exact xB3 _
    · split at hs
      · rw [List.mem_singleton.1 hs]; exact xB3 _
      · rw [List.mem_singleton.1 hs]; exact xGR x (by omega)
theorem xRJ (x y : RawM) (hy : (xAe y).kind = 3) : ((xCN [xAe x, xAe y]).length == 1) = xFn (xAe x) (xAe y) := by
  have e : ([xAe x, xAe y] : List MsgL) = [xAe x] ++ [xAe y] := rfl
  rw [e, xC5 (xM9 y)]
  have hw : xAJ (xAe y) = [(xAe y).sp] := by unfold xAJ; rw [if_neg (by omega), if_neg (by omega), if_neg (by omega)]
  have hkl : xDb (xAe y) = [(xAe y).sp] := by unfold xDb; rw [if_neg (by omega), hw]
  have hrd : xAx (xAe y) = [] := by unfold xAx; rw [if_neg (by omega), if_neg (by omega)]
  have hd : ∀ k, inL (nxtL (xAe y) []) k = hasL (xAe y).sp k := by
    intro k
    rw [xH6, hkl, hrd]
    simp [inL]
  have hc : covL (xAe x) (nxtL (xAe y) []) = xFn (xAe x) (xAe y) := by
    rw [Bool.eq_iff_iff, cov_iff]
    unfold xFn
    rw [List.all_eq_true]
    constructor
    · intro h s hs
      refine (xFQ (xFp x s hs)).2 fun k hk => ?_
      rw [← hd]
      exact h k (inL_iff.2 ⟨s, hs, hk⟩)
    · intro h k hk
      obtain ⟨s, hs, hk⟩ := inL_iff.1 hk
      rw [hd]
      exact (xFQ (xFp x s hs)).1 (h s hs) k hk
  simp only [List.reverse_cons, List.reverse_nil, List.nil_append]
  rw [xDK, hc]
  cases xFn (xAe x) (xAe y) <;> simp [xDK]
end Go.Pu
set_option linter.unusedVariables false
set_option linter.unusedSimpArgs false
namespace Go.Pu
def xBK (s : SpanL) : Str → List Str → List SpanL
  | lo, [] => [xAV s ⟨lo, []⟩]
  | lo, p :: l => xAV s ⟨lo, p⟩ :: xBK s p l
theorem xHK (s : SpanL) : ∀ (lo : Str) (l : List Str), (xBK s lo l).length = l.length + 1
  | _, [] => rfl
  | _, p :: l => by rw [xBK, List.length_cons, xHK s p l, List.length_cons]
def xAS (x : Str) : List Str → List Str → Bool → List Str × Bool
  | [], nx, d => (nx, d)
  | y :: l, nx, d =>
    if d = false ∧ (Op.bytesLess x y || x == y) = true then xAS x l ((if Op.bytesLess x y = true then nx ++ [x] else nx) ++ [y]) true
    else xAS x l (nx ++ [y]) d
def xBs (out : List Str) (x : Str) : List Str :=
  let r := xAS x out [] (x == [])
  if r.2 = false then r.1 ++ [x] else r.1
def pivL (l : List Str) : List Str := l.foldl xBs []
theorem xDT (x : Str) : ∀ (l nx : List Str) (d : Bool), (xAS x l nx d).1.length ≤ nx.length + l.length + (if d = true then 0 else if (xAS x l nx d).2 = true then 1 else 0)
  | [], nx, d => by simp [xAS]
  | y :: l, nx, d => by
    unfold xAS
    split
    · rename_i h
      have := xDT x l ((if Op.bytesLess x y = true then nx ++ [x] else nx) ++ [y]) true
      have h2 : (xAS x l ((if Op.bytesLess x y = true then nx ++ [x] else nx) ++ [y]) true).2 = true := by
        have key : ∀ (l nx : List Str), (xAS x l nx true).2 = true := by
          intro l
          induction l with
          | nil => intro nx; rfl
          | cons z l ih => intro nx; unfold xAS; rw [if_neg (by simp)]; exact ih _
        exact key _ _
      rw [h2, h.1]
      simp only [if_true, List.length_append, List.length_cons, List.length_nil] at this ⊢
      split at this <;> simp_all <;> omega
    · have := xDT x l (nx ++ [y]) d
      simp only [List.length_append, List.length_cons, List.length_nil] at this ⊢
      omega
theorem xGA (out : List Str) (x : Str) : (xBs out x).length ≤ out.length + 1 := by
  have := xDT x out [] (x == [])
  unfold xBs
  generalize (x == []) = d0 at this
  generalize xAS x out [] d0 = r at this
  obtain ⟨r1, r2⟩ := r
  simp only [List.length_nil] at this ⊢
  cases r2 <;> cases d0 <;> simp at this ⊢ <;> omega
def Asc (l : List Str) : Prop := (∀ x ∈ l, x ≠ []) ∧ l.Pairwise (fun a b => Op.bytesLess a b = true)
theorem xCB (x : Str) : ∀ (l nx : List Str), xAS x l nx true = (nx ++ l, true)
  | [], nx => by simp [xAS]
  | y :: l, nx => by rw [xAS, if_neg (by simp), xCB x l]; simp
def putP (x : Str) : List Str → List Str
  | [] => [x]
  | y :: l => if Op.bytesLess x y = true then x :: y :: l else if x = y then y :: l else y :: putP x l
theorem xD0 (x : Str) : ∀ (l nx : List Str), (if (xAS x l nx false).2 = false then (xAS x l nx false).1 ++ [x] else (xAS x l nx false).1) = nx ++ putP x l
  | [], nx => by simp [xAS, putP]
  | y :: l, nx => by
    have e : xAS x (y :: l) nx false = if false = false ∧ (Op.bytesLess x y || x == y) = true then xAS x l ((if Op.bytesLess x y = true then nx ++ [x] else nx) ++ [y]) true else xAS x l (nx ++ [y]) false := by rw [xAS]
    by_cases h : Op.bytesLess x y = true
    · have e2 : xAS x (y :: l) nx false = (nx ++ x :: y :: l, true) := by
        rw [e, if_pos ⟨rfl, by rw [h]; rfl⟩, if_pos h, xCB]; simp
      rw [e2, putP, if_pos h]
      simp
    · by_cases h2 : x = y
      · have e2 : xAS x (y :: l) nx false = (nx ++ y :: l, true) := by
          rw [e, if_pos ⟨rfl, by simp [h2]⟩, if_neg h, xCB]; simp
        rw [e2, putP, if_neg h, if_pos h2]
        simp
      · have e2 : xAS x (y :: l) nx false = xAS x l (nx ++ [y]) false := by
          rw [e, if_neg (by simp [h, h2])]
        rw [e2, xD0 x l, putP, if_neg h, if_neg h2]
        simp
theorem xLb (out : List Str) (x : Str) : xBs out x = if x = [] then out else putP x out := by
  unfold xBs
  by_cases h : x = []
  · have : (x == []) = true := by simpa using h
    rw [this, xCB, if_pos h]
    simp
  · have : (x == []) = false := by simpa using h
    rw [this, if_neg h]
    exact xD0 x out []
theorem xKV {x z : Str} : ∀ {l : List Str}, z ∈ putP x l → z = x ∨ z ∈ l
  | [], h => .inl (by simpa [putP] using h)
  | y :: l, h => by
    rw [putP] at h
    split at h
    · simpa using h
    · split at h
      · exact .inr h
      · rcases List.mem_cons.1 h with h | h
        · exact .inr (by simp [h])
        · rcases xKV h with h | h
          · exact .inl h
          · exact .inr (by simp [h])
theorem xKW {x : Str} (hx : x ≠ []) : ∀ {l : List Str}, Asc l → Asc (putP x l)
  | [], _ => ⟨by simp [putP, hx], by simp [putP]⟩
  | y :: l, ⟨h1, h2⟩ => by
    rw [putP]
    obtain ⟨h3, h4⟩ := List.pairwise_cons.1 h2
    split
    · next h =>
      refine ⟨?_, List.pairwise_cons.2 ⟨?_, h2⟩⟩
      · intro z hz
        rcases List.mem_cons.1 hz with rfl | hz
        · exact hx
        · exact h1 z hz
      · intro z hz
        rcases List.mem_cons.1 hz with rfl | hz
        · exact h
        · exact xAi h (h3 z hz)
    · split
      · exact ⟨h1, h2⟩
      · next h h5 =>
        have hyx : Op.bytesLess y x = true := by
          rcases xBq x y with h6 | h6 | h6
          · exact absurd h6 h
          · exact absurd h6 h5
          · exact h6
        obtain ⟨h6, h7⟩ := xKW hx (l := l) ⟨fun z hz => h1 z (by simp [hz]), h4⟩
        refine ⟨?_, List.pairwise_cons.2 ⟨?_, h7⟩⟩
        · intro z hz
          rcases List.mem_cons.1 hz with rfl | hz
          · exact h1 _ (by simp)
          · exact h6 z hz
        · intro z hz
          rcases xKV hz with rfl | hz
          · exact hyx
          · exact h3 z hz
theorem xFF : ∀ (l o : List Str), Asc o → Asc (l.foldl xBs o)
  | [], o, h => h
  | x :: l, o, h => by
    rw [List.foldl_cons]
    refine xFF l _ ?_
    rw [xLb]
    split
    · exact h
    · next hx => exact xKW hx h
theorem xOX (l : List Str) : Asc (pivL l) := xFF l [] ⟨by simp, by simp⟩
theorem xFE : ∀ (l o : List Str), (l.foldl xBs o).length ≤ o.length + l.length
  | [], o => by simp
  | x :: l, o => by
    rw [List.foldl_cons, List.length_cons]
    have h1 := xFE l (xBs o x)
    have h2 := xGA o x
    omega
theorem xOW (l : List Str) : (pivL l).length ≤ l.length := by
  have := xFE l []
  simpa [pivL] using this
def atL (key : Str) : List Str → Nat
  | [] => 0
  | p :: l => if ble p key = true then atL key l + 1 else 0
theorem xNy (key : Str) : ∀ l : List Str, atL key l ≤ l.length
  | [] => Nat.le_refl _
  | p :: l => by
    have := xNy key l
    rw [atL, List.length_cons]
    split <;> omega
theorem xRU (key : Str) : ∀ (l : List Str) (i : Nat) (p : Str), l[i]? = some p → i ≤ atL key l → (ble p key = true ↔ i < atL key l)
  | [], i, p, h, _ => by simp at h
  | q :: l, i, p, h, hi => by
    rw [atL] at hi ⊢
    cases i with
    | zero =>
      obtain rfl : q = p := by simpa using h
      split
      · next h2 => simp [h2]
      · next h2 => simp [h2]
    | succ i =>
      split at hi
      · next h2 =>
        rw [if_pos h2]
        have := xRU key l i p (by simpa using h) (by omega)
        rw [this]
        omega
      · omega
theorem xIr (s : SpanL) (key : Str) : ∀ (l : List Str) (lo : Str) (k : Nat) (t : SpanL), Asc l → (∀ p ∈ l, ble lo p = true) → (xBK s lo l)[k]? = some t →
    hasL t key = (ble lo key && (decide (k = atL key l) && hasL s key))
  | [], lo, k, t, _, _, h => by
    rw [xBK] at h
    have hk : k = 0 := by
      have := (List.getElem?_eq_some_iff.1 h).1
      simp at this
      omega
    subst hk
    obtain rfl : xAV s ⟨lo, []⟩ = t := by simpa using h
    rw [xBn, xFj, atL]
    cases hasL s key <;> simp
  | p :: l, lo, k, t, ha, hlo, h => by
    rw [xBK] at h
    obtain ⟨h3, h4⟩ := List.pairwise_cons.1 ha.2
    cases k with
    | zero =>
      obtain rfl : xAV s ⟨lo, p⟩ = t := by simpa using h
      rw [xBn, xGh (ha.1 p (by simp)), atL]
      have e : ble p key = !Op.bytesLess key p := rfl
      rw [e]
      cases Op.bytesLess key p <;> cases hasL s key <;> simp
    | succ k =>
      rw [xIr s key l p k t ⟨fun z hz => ha.1 z (by simp [hz]), h4⟩ (fun z hz => ble_iff.2 (.inl (h3 z hz))) (by simpa using h), atL]
      cases h5 : ble p key with
      | true =>
        have h6 : ble lo key = true := xAr (hlo p (by simp)) h5
        simp [h6]
      | false => simp
theorem xOZ (s : SpanL) (key : Str) : ∀ (l : List Str) (lo : Str), Asc l → (∀ p ∈ l, ble lo p = true) → inL (xBK s lo l) key = (ble lo key && hasL s key)
  | [], lo, _, _ => by
    rw [xBK, xAT, xBn, xFj]
    cases hasL s key <;> simp [inL]
  | p :: l, lo, ha, hlo => by
    obtain ⟨h3, h4⟩ := List.pairwise_cons.1 ha.2
    rw [xBK, xAT, xBn, xGh (ha.1 p (by simp)), xOZ s key l p ⟨fun z hz => ha.1 z (by simp [hz]), h4⟩ (fun z hz => ble_iff.2 (.inl (h3 z hz)))]
    have e : ble p key = !Op.bytesLess key p := rfl
    cases h5 : Op.bytesLess key p with
    | true => rw [e, h5]; cases hasL s key <;> simp
    | false =>
      have h6 : ble lo key = true := xAr (hlo p (by simp)) (by rw [e, h5]; rfl)
      rw [e, h5, h6]
      cases hasL s key <;> simp
def lbS (l : List Str) (k : Str) : Nat := (l.takeWhile (fun p => Op.bytesLess p k)).length
def fdS (l : List Str) (k : Str) : Bool := match l[lbS l k]? with | some p => p == k | none => false
theorem xID (p : Str) (t : List Str) (k : Str) : lbS (p :: t) k = if Op.bytesLess p k = true then lbS t k + 1 else 0 := by
  unfold lbS
  rw [List.takeWhile_cons]
  split <;> simp [*]
theorem xNH (k : Str) : ∀ t : List Str, lbS t k ≤ t.length
  | [] => Nat.le_refl _
  | p :: t => by
    have := xNH k t
    rw [xID, List.length_cons]
    split <;> omega
theorem xQ6 {t : List Str} (h : t.Pairwise (fun a b => Op.bytesLess a b = true)) (k : Str) : ∀ {m : Nat} {p : Str}, t[m]? = some p → (Op.bytesLess p k = true ↔ m < lbS t k) := by
  induction t with
  | nil => intro m p hp; simp at hp
  | cons x t ih =>
    intro m p hp
    obtain ⟨hx0, ht⟩ := List.pairwise_cons.1 h
    rw [xID]
    cases m with
    | zero =>
      obtain rfl : x = p := by simpa using hp
      split <;> simp [*]
    | succ m =>
      have hp' : t[m]? = some p := by simpa using hp
      split
      · rw [ih ht hp']; omega
      · next hx =>
        have hmem : p ∈ t := List.mem_of_getElem? hp'
        constructor
        · intro h2
          exact absurd (xAi (hx0 p hmem) h2) hx
        · intro h2; omega
theorem xPo (k : Str) : ∀ {t : List Str}, t.Pairwise (fun a b => Op.bytesLess a b = true) → lbS t k + (if fdS t k = true then 1 else 0) = atL k t
  | [], _ => rfl
  | x :: t, h => by
    obtain ⟨hx0, ht⟩ := List.pairwise_cons.1 h
    have ih := xPo k ht
    unfold fdS at ih ⊢
    rw [xID, atL]
    by_cases hx : Op.bytesLess x k = true
    · rw [if_pos hx, if_pos (ble_iff.2 (.inl hx)), List.getElem?_cons_succ]
      omega
    · rw [if_neg hx, List.getElem?_cons_zero]
      by_cases he : x = k
      · subst he
        have : atL x t = 0 := by
          cases t with
          | nil => rfl
          | cons y t =>
            rw [atL, if_neg]
            have h1 := hx0 y (by simp)
            intro h2
            have := xE5 h2 h1
            rw [xAj] at this
            cases this
        simp [xDE, this]
      · have h1 : ble x k = false := by
          cases hb : ble x k with
          | false => rfl
          | true => rcases ble_iff.1 hb with h2 | h2
                    · exact absurd h2 hx
                    · exact absurd h2 he
        simp [he, h1]
theorem xPR {a b : Str} (h : ble a b = true) : ∀ l : List Str, atL a l ≤ atL b l
  | [] => Nat.le_refl _
  | p :: l => by
    rw [atL, atL]
    split
    · next h2 =>
      rw [if_pos (xAr h2 h)]
      have := xPR h l
      omega
    · exact Nat.zero_le _
end Go.Pu
set_option linter.unusedVariables false
set_option linter.unusedSimpArgs false
namespace Go.Pu
theorem xLp {a b : SpanL} (h : xAs a b = true) {k : Str} (hk : hasL b k = true) : hasL a k = true := by
  rw [xAs, Bool.or_eq_true, Bool.and_eq_true] at h
  rcases h with h | ⟨h1, h2⟩
  · rw [xAR h] at hk; cases hk
  · have hk' := has_iff.1 hk
    refine has_iff.2 ⟨xAr (has_iff.1 h1).1 hk'.1, ?_⟩
    by_cases ha : a.hi = []
    · exact .inl ha
    · right
      have hn : ¬ elt a.hi b.hi := fun h => by have := cmpEnd_lt.2 h; have := of_decide_eq_true h2; omega
      rcases hk'.2 with h3 | h3
      · exact absurd ⟨ha, .inl h3⟩ hn
      · rcases xBq a.hi b.hi with h | h | h
        · exact absurd ⟨ha, .inr h⟩ hn
        · rw [h]; exact h3
        · exact xAi h3 h
def allS : SpanL := ⟨[], []⟩
theorem xIQ (k : Str) : hasL allS k = true := by simp [hasL, allS, xBd]
def xBQ (m : MsgL) : Bool := m.kind == 4 || m.kind == 5
def xAk (m : MsgL) : Bool := m.kind == 3 || m.kind == 6
def tch (a b : SpanL) : Bool := !xAH (xAV a b)
theorem xN9 (a b : SpanL) : tch a b = tch b a := by unfold tch; rw [xM3]
theorem tch_iff {a b : SpanL} : tch a b = true ↔ ∃ k, hasL a k = true ∧ hasL b k = true := by
  unfold tch
  constructor
  · intro h
    have h : xAH (xAV a b) = false := by simpa using h
    have := xCt h
    rw [xBn, Bool.and_eq_true] at this
    exact ⟨_, this⟩
  · rintro ⟨k, h1, h2⟩
    cases he : xAH (xAV a b) with
    | false => rfl
    | true =>
      have := xAR he k
      rw [xBn, h1, h2] at this
      cases this
def xCZ (a b : List SpanL) : Bool := a.any fun x => b.any fun y => tch x y
theorem touch_iff {a b : List SpanL} : xCZ a b = true ↔ ∃ k, inL a k = true ∧ inL b k = true := by
  unfold xCZ inL
  simp only [List.any_eq_true, tch_iff]
  constructor
  · rintro ⟨x, hx, y, hy, k, h1, h2⟩; exact ⟨k, ⟨x, hx, h1⟩, ⟨y, hy, h2⟩⟩
  · rintro ⟨k, ⟨x, hx, h1⟩, ⟨y, hy, h2⟩⟩; exact ⟨x, hx, y, hy, k, h1, h2⟩
def xBG (m : MsgL) : List SpanL := xAx m ++ xAJ m
def xB7 (m : MsgL) (s : SpanL) : Bool := (xBG m).all (xAs s)
theorem xKs {m : MsgL} {s : SpanL} (h : xB7 m s = true) {k : Str} (hk : inL (xBG m) k = true) : hasL s k = true := by
  unfold inL at hk
  obtain ⟨x, hx, h2⟩ := List.any_eq_true.1 hk
  exact xLp (List.all_eq_true.1 h x hx) h2
def xB4 (m : MsgL) (s : SpanL) : List MsgL :=
  if xAk m = true then (if xAH (xAV m.sp s) = true then [] else [{ m with sp := xAV m.sp s }]) else if (xAJ m).any (fun x => tch x s) = true then [m] else []
def xIi (m : MsgL) (s : SpanL) : List MsgL :=
  if xCZ (xAJ m) [s] = true then [if xAk m = true then { m with sp := xAV m.sp s } else m] else []
theorem xL8 (l : List SpanL) (s : SpanL) : xCZ l [s] = l.any (fun x => tch x s) := by simp [xCZ]
theorem xHp {m : MsgL} (h : xAk m = true) : xAJ m = [m.sp] := by
  unfold xAk at h
  have : m.kind = 3 ∨ m.kind = 6 := by simpa using h
  unfold xAJ
  rw [if_neg (by omega), if_neg (by omega), if_neg (by omega)]
theorem xJp (m : MsgL) (s : SpanL) : xB4 m s = xIi m s := by
  unfold xB4 xIi
  rw [xL8]
  cases hr : xAk m with
  | true =>
    rw [xHp hr]
    simp only [if_true, List.any_cons, List.any_nil, Bool.or_false, tch]
    cases xAH (xAV m.sp s) <;> simp
  | false => simp
def xE0 (b l : List SpanL) : Bool := !l.any fun x => b.any fun y => tch y x
theorem xNV (b l : List SpanL) : xE0 b l = !xCZ l b := by
  unfold xE0 xCZ
  congr 2
  funext x
  congr 1
  funext y
  exact xN9 y x
def xEw (m : MsgL) (s : SpanL) : List MsgL := if xAk m = true then (xBF [m.sp] [s]).map (fun x => { m with sp := x }) else []
structure WayL where
  go : List MsgL
  stay : List MsgL
  blk : List SpanL
def xAw (s : SpanL) (w : WayL) (m : MsgL) : WayL :=
  if xBQ m = true then
    (if (xB7 m s && xE0 w.blk (xBG m)) = true then ⟨w.go ++ [m], w.stay, w.blk⟩ else ⟨w.go, w.stay ++ [m], w.blk ++ xBG m⟩)
  else match xB4 m s with
    | [] => ⟨w.go, w.stay ++ [m], w.blk⟩
    | p :: _ => if xE0 w.blk (xAJ p) = true then ⟨w.go ++ [p], w.stay ++ xEw m s, w.blk⟩ else ⟨w.go, w.stay ++ [m], w.blk ++ xAJ p⟩
def xA5 (buf : List MsgL) (s : SpanL) : WayL := buf.foldl (xAw s) ⟨[], [], []⟩
def xAK (pv : List Str) : List SpanL := xBK allS [] pv
theorem xCO (pv : List Str) : (xAK pv).length = pv.length + 1 := xHK _ _ _
theorem xKU {pv : List Str} (ha : Asc pv) {i : Nat} {s : SpanL} (h : (xAK pv)[i]? = some s) (k : Str) : hasL s k = decide (i = atL k pv) := by
  have := xIr allS k pv [] i s ha (fun p _ => xDk p) h
  rw [this, xDk, xIQ]
  simp
theorem xOV (pv : List Str) (k : Str) : ∃ s, (xAK pv)[atL k pv]? = some s := by
  have h1 := xNy k pv
  have h2 := xCO pv
  exact ⟨_, List.getElem?_eq_getElem (by omega)⟩
def xFP (m : MsgL) (pv : List Str) : Bool := xBQ m && !xB7 m (((xAK pv)[atL m.fr pv]?).getD xGE)
def xF9 (m : MsgL) (pv : List Str) : Bool := xBQ m && (xAK pv).all fun s => !xB7 m s
theorem moves_iff {m : MsgL} : xBQ m = true ↔ m.kind = 4 ∨ m.kind = 5 := by simp [xBQ]
theorem xOo {m : MsgL} (h : xBQ m = true) : inL (xBG m) m.fr = true := by
  unfold xBG xAx
  rw [if_pos (moves_iff.1 h), xBh]
  have : xAG m.fr m.fr = true := begins_iff.2 ⟨[], by simp⟩
  simp [inL, xA8, this]
theorem xO5 {m : MsgL} {pv : List Str} (ha : Asc pv) {i : Nat} {s : SpanL} (h : (xAK pv)[i]? = some s) (hm : xBQ m = true) (hl : xB7 m s = true) : i = atL m.fr pv := by
  have := xKs hl (xOo hm)
  rw [xKU ha h] at this
  exact of_decide_eq_true this
theorem xLD {m : MsgL} {pv : List Str} (ha : Asc pv) : xFP m pv = xF9 m pv := by
  unfold xFP xF9
  cases hm : xBQ m with
  | false => rfl
  | true =>
    rw [Bool.true_and, Bool.true_and]
    obtain ⟨s, hs⟩ := xOV pv m.fr
    rw [hs, Option.getD_some]
    cases hl : xB7 m s with
    | true =>
      symm
      rw [Bool.not_true, List.all_eq_false]
      exact ⟨s, List.mem_of_getElem? hs, by rw [hl]; simp⟩
    | false =>
      symm
      rw [Bool.not_false, List.all_eq_true]
      intro t ht
      obtain ⟨i, hi⟩ := List.getElem?_of_mem ht
      cases hlt : xB7 m t with
      | false => rfl
      | true =>
        have := xO5 ha hi hm hlt
        subst this
        rw [hs] at hi
        cases hi
        rw [hl] at hlt; cases hlt
theorem xQH (s : SpanL) (w : WayL) (m : MsgL) : ∃ x, (xAw s w m).go = w.go ++ x := by
  unfold xAw
  split
  · split
    · exact ⟨_, rfl⟩
    · exact ⟨[], by simp⟩
  · split
    · exact ⟨[], by simp⟩
    · split
      · exact ⟨_, rfl⟩
      · exact ⟨[], by simp⟩
theorem xMB (s : SpanL) (w : WayL) (m : MsgL) : ∃ x, (xAw s w m).stay = w.stay ++ x := by
  unfold xAw
  split
  · split
    · exact ⟨[], by simp⟩
    · exact ⟨_, rfl⟩
  · split
    · exact ⟨_, rfl⟩
    · split
      · exact ⟨_, rfl⟩
      · exact ⟨_, rfl⟩
theorem xNW (s : SpanL) : ∀ (l : List MsgL) (w : WayL), ∃ x, (l.foldl (xAw s) w).go = w.go ++ x
  | [], w => ⟨[], by simp⟩
  | m :: l, w => by
    obtain ⟨x, hx⟩ := xQH s w m
    obtain ⟨y, hy⟩ := xNW s l (xAw s w m)
    exact ⟨x ++ y, by rw [List.foldl_cons, hy, hx, List.append_assoc]⟩
theorem xJI (s : SpanL) : ∀ (l : List MsgL) (w : WayL), ∃ x, (l.foldl (xAw s) w).stay = w.stay ++ x
  | [], w => ⟨[], by simp⟩
  | m :: l, w => by
    obtain ⟨x, hx⟩ := xMB s w m
    obtain ⟨y, hy⟩ := xJI s l (xAw s w m)
    exact ⟨x ++ y, by rw [List.foldl_cons, hy, hx, List.append_assoc]⟩
theorem xFl (l : List SpanL) : xE0 [] l = true := by simp [xE0]
theorem xJ5 {m : MsgL} {pv : List Str} (ha : Asc pv) (hc : xFP m pv = true) {i : Nat} {s : SpanL} (hs : (xAK pv)[i]? = some s) (r : List MsgL) : ∃ x, (xA5 (m :: r) s).stay = m :: x := by
  rw [xLD ha, xF9, Bool.and_eq_true] at hc
  have hl : xB7 m s = false := by
    have := List.all_eq_true.1 hc.2 s (List.mem_of_getElem? hs)
    simpa using this
  have e : xAw s ⟨[], [], []⟩ m = ⟨[], [m], xBG m⟩ := by
    unfold xAw
    rw [if_pos hc.1, hl]
    simp
  obtain ⟨x, hx⟩ := xJI s r ⟨[], [m], xBG m⟩
  exact ⟨x, by unfold xA5; rw [List.foldl_cons, e, hx]; rfl⟩
theorem xOa (m : MsgL) (s : SpanL) : (xB4 m s).length ≤ 1 := by
  unfold xB4
  repeat' split
  all_goals simp
theorem xLl {m : MsgL} {pv : List Str} (ha : Asc pv) (hc : xFP m pv = false) {i : Nat} {s : SpanL} (hs : (xAK pv)[i]? = some s) {p : MsgL} {q : List MsgL} (hp : xB4 m s = p :: q) (r : List MsgL) : ∃ x, (xA5 (m :: r) s).go = p :: x := by
  have key : ∃ w, xAw s ⟨[], [], []⟩ m = w ∧ w.go = [p] := by
    cases hm : xBQ m with
    | false =>
      refine ⟨_, rfl, ?_⟩
      unfold xAw
      rw [if_neg (by rw [hm]; simp), hp]
      simp [xFl]
    | true =>
      have hr : xAk m = false := by
        have := moves_iff.1 hm
        simp only [xAk, Bool.or_eq_false_iff, beq_eq_false_iff_ne]
        omega
      have hpe : p = m ∧ (xAJ m).any (fun x => tch x s) = true := by
        unfold xB4 at hp
        rw [if_neg (by rw [hr]; simp)] at hp
        split at hp
        · rename_i h; cases hp; exact ⟨rfl, h⟩
        · cases hp
      obtain ⟨s', hs'⟩ := xOV pv m.fr
      have hl : xB7 m s' = true := by
        unfold xFP at hc
        rw [hm, hs', Bool.true_and] at hc
        simpa using hc
      obtain ⟨x, hx, ht⟩ := List.any_eq_true.1 hpe.2
      obtain ⟨k, h1, h2⟩ := tch_iff.1 ht
      have h3 : hasL s' k = true := xKs hl (by unfold xBG; rw [xBh]; have : inL (xAJ m) k = true := List.any_eq_true.2 ⟨x, hx, h1⟩; rw [this]; simp)
      rw [xKU ha hs] at h2
      rw [xKU ha hs'] at h3
      have e : i = atL m.fr pv := by rw [of_decide_eq_true h2, of_decide_eq_true h3]
      subst e
      rw [hs] at hs'
      cases hs'
      refine ⟨_, rfl, ?_⟩
      unfold xAw
      rw [if_pos hm, hl, xFl]
      simp [hpe.1]
  obtain ⟨w, hw, hg⟩ := key
  obtain ⟨x, hx⟩ := xNW s r w
  exact ⟨x, by unfold xA5; rw [List.foldl_cons, hw, hx, hg]; rfl⟩
theorem xMo {m : MsgL} {s : SpanL} {k : Str} (hw : inL (xAJ m) k = true) (hs : hasL s k = true) : xB4 m s ≠ [] := by
  rw [xJp]
  unfold xIi
  rw [if_pos (touch_iff.2 ⟨k, hw, by simp [inL, hs]⟩)]
  simp
theorem xNT {m : MsgL} (hm : MsgW m) {pv : List Str} (ha : Asc pv) : ∃ i s, i ≤ pv.length ∧ (xAK pv)[i]? = some s ∧ xB4 m s ≠ [] := by
  obtain ⟨k, hk⟩ := hm.w
  obtain ⟨s, hs⟩ := xOV pv k
  refine ⟨_, s, xNy k pv, hs, xMo hk ?_⟩
  rw [xKU ha hs]
  simp
def xAn (m : MsgL) : Bool := !xAk m
theorem xEl {m : MsgL} {s : SpanL} {p : MsgL} {q : List MsgL} (h : xB4 m s = p :: q) : q = [] ∧ xAk p = xAk m := by
  unfold xB4 at h
  split at h
  · split at h
    · cases h
    · cases h; exact ⟨rfl, rfl⟩
  · split at h
    · cases h; exact ⟨rfl, rfl⟩
    · cases h
theorem xLe (m : MsgL) (s : SpanL) : (xEw m s).countP xAn = 0 := by
  unfold xEw
  split
  · rename_i h
    rw [List.countP_eq_zero]
    intro x hx
    obtain ⟨y, _, rfl⟩ := List.mem_map.1 hx
    have e : xAk { m with sp := y } = xAk m := rfl
    simp [xAn, e, h]
  · rfl
theorem xKw (m : MsgL) (s : SpanL) : (xEw m s).length ≤ 2 := by
  unfold xEw
  split
  · have := xCr [m.sp] [s]
    rw [List.length_map]
    simpa using this
  · simp
theorem xLM (s : SpanL) (w : WayL) (m : MsgL) : (xAw s w m).go.countP xAn + (xAw s w m).stay.countP xAn = w.go.countP xAn + w.stay.countP xAn + (if xAn m = true then 1 else 0) ∧ (xAw s w m).go.length + (xAw s w m).stay.length ≤ w.go.length + w.stay.length + 3 ∧ (xAw s w m).blk.length ≤ w.blk.length + 3 := by
  have hb : (xBG m).length ≤ 3 := by
    unfold xBG
    have := xCp m
    have := xA6 m
    rw [List.length_append]; omega
  unfold xAw
  split
  · split
    · simp only [List.countP_append, List.countP_cons, List.countP_nil, List.length_append, List.length_cons, List.length_nil]
      exact ⟨by omega, by omega, by omega⟩
    · simp only [List.countP_append, List.countP_cons, List.countP_nil, List.length_append, List.length_cons, List.length_nil]
      exact ⟨by omega, by omega, by omega⟩
  · split
    · simp only [List.countP_append, List.countP_cons, List.countP_nil, List.length_append, List.length_cons, List.length_nil]
      exact ⟨by omega, by omega, by omega⟩
    · rename_i p q hp
      obtain ⟨_, hr⟩ := xEl hp
      have hw : xAn p = xAn m := by unfold xAn; rw [hr]
      have h1 := xLe m s
      have h2 := xKw m s
      have h3 := xA6 p
      split
      · simp only [List.countP_append, List.countP_cons, List.countP_nil, List.length_append, List.length_cons, List.length_nil, h1, hw]
        exact ⟨by omega, by omega, by omega⟩
      · simp only [List.countP_append, List.countP_cons, List.countP_nil, List.length_append, List.length_cons, List.length_nil]
        exact ⟨by omega, by omega, by omega⟩
theorem xDu (s : SpanL) : ∀ (l : List MsgL) (w : WayL), (l.foldl (xAw s) w).go.countP xAn + (l.foldl (xAw s) w).stay.countP xAn = w.go.countP xAn + w.stay.countP xAn + l.countP xAn ∧ (l.foldl (xAw s) w).go.length + (l.foldl (xAw s) w).stay.length ≤ w.go.length + w.stay.length + 3 * l.length ∧ (l.foldl (xAw s) w).blk.length ≤ w.blk.length + 3 * l.length
  | [], w => by simp
  | m :: l, w => by
    obtain ⟨h1, h2, h3⟩ := xLM s w m
    obtain ⟨h4, h5, h6⟩ := xDu s l (xAw s w m)
    rw [List.foldl_cons, List.countP_cons, List.length_cons]
    exact ⟨by omega, by omega, by omega⟩
theorem xF8 (l : List MsgL) (s : SpanL) : (xA5 l s).go.countP xAn + (xA5 l s).stay.countP xAn = l.countP xAn ∧ (xA5 l s).go.length + (xA5 l s).stay.length ≤ 3 * l.length ∧ (xA5 l s).blk.length ≤ 3 * l.length := by
  have := xDu s l ⟨[], [], []⟩
  simpa [xA5] using this
theorem xLq (x : SpanL) : xAs allS x = true := by
  unfold xAs
  cases xAH x with
  | true => rfl
  | false =>
    rw [xIQ]
    have : ¬ xDj allS.hi x.hi < 0 := by
      rw [cmpEnd_lt]
      rintro ⟨h, _⟩
      exact h rfl
    simp only [Bool.false_or, Bool.true_and]
    exact decide_eq_true (by omega)
theorem xO6 (m : MsgL) : xB7 m allS = true := List.all_eq_true.2 fun x _ => xLq x
theorem xMk : xAK [] = [allS] := by decide
theorem xOs {s : SpanL} (h : xAH s = false) : xAV s allS = s := by
  have e1 : maxL s.lo allS.lo = s.lo := by unfold maxL allS; simp [xBd]
  have e2 : xBg s.hi allS.hi = s.hi := by
    rw [xDa]
    simp [xCY, allS]
  have e3 : (⟨s.lo, s.hi⟩ : SpanL) = s := rfl
  unfold xAV
  rw [e1, e2, e3, if_neg (by rw [h]; simp)]
theorem xM1 (s : SpanL) : xBF [s] [allS] = [] := by
  refine Nrm.ext (xCq _ _) ⟨by simp, by simp⟩ fun k => ?_
  rw [xBN]
  simp [inL, xIQ]
theorem xMb {l : List MsgL} (hl : ∀ m ∈ l, MsgW m) (hs : ∀ m ∈ l, xAk m = true → xAH m.sp = false) : xA5 l allS = ⟨l, [], []⟩ := by
  have key : ∀ (l : List MsgL) (g : List MsgL), (∀ m ∈ l, MsgW m) → (∀ m ∈ l, xAk m = true → xAH m.sp = false) → l.foldl (xAw allS) ⟨g, [], []⟩ = ⟨g ++ l, [], []⟩ := by
    intro l
    induction l with
    | nil => intro g _ _; simp
    | cons m l ih =>
      intro g h1 h2
      have e : xAw allS ⟨g, [], []⟩ m = ⟨g ++ [m], [], []⟩ := by
        unfold xAw
        split
        · rw [xO6, xFl]; rfl
        · have hp : xB4 m allS = [m] := by
            unfold xB4
            split
            · rename_i hr
              have he := h2 m (by simp) hr
              rw [xOs he, if_neg (by rw [he]; simp)]
            · obtain ⟨k, hk⟩ := (h1 m (by simp)).w
              obtain ⟨x, hx, hxk⟩ := List.any_eq_true.1 hk
              have hany : (xAJ m).any (fun x => tch x allS) = true := List.any_eq_true.2 ⟨x, hx, tch_iff.2 ⟨k, hxk, xIQ k⟩⟩
              rw [if_pos hany]
          have hlf : xEw m allS = [] := by
            unfold xEw
            rw [xM1]
            simp
          rw [hp]
          simp [xFl, hlf]
      rw [List.foldl_cons, e, ih _ (fun x hx => h1 x (by simp [hx])) (fun x hx => h2 x (by simp [hx]))]
      simp
  have := key l [] hl hs
  simpa [xA5] using this
end Go.Pu
