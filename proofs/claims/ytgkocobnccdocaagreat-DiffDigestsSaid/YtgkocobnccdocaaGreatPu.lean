/- The order of texts, and sorted tables: plain Lean. -/
import GoSem.Op.String
import Derived.Sort.AssemblyPlain
set_option linter.unusedVariables false
namespace Go.Pu
abbrev Str := List UInt8
theorem xCJ (a : Str) : Op.bytesLess a [] = false := by cases a <;> rfl
theorem xAg : ∀ a : Str, Op.bytesLess a a = false
  | [] => rfl
  | x :: a => by
    simp only [Op.bytesLess, Op.bytesLess, Bool.or_eq_false_iff, decide_eq_false_iff_not, Bool.and_eq_false_iff]
    exact ⟨UInt8.lt_irrefl x, .inr (xAg a)⟩
theorem blt_cons {x y : UInt8} {a b : Str} : Op.bytesLess (x :: a) (y :: b) = true ↔ x < y ∨ (x = y ∧ Op.bytesLess a b = true) := by
  simp [Op.bytesLess, Op.bytesLess]
theorem xAa : ∀ {a b c : Str}, Op.bytesLess a b = true → Op.bytesLess b c = true → Op.bytesLess a c = true
  | _, _, [], _, h => by rw [xCJ] at h; cases h
  | _, [], _ :: _, h, _ => by rw [xCJ] at h; cases h
  | [], _ :: _, _ :: _, _, _ => rfl
  | x :: a, y :: b, z :: c, h1, h2 => by
    rw [blt_cons] at h1 h2 ⊢
    rcases h1 with h1 | ⟨rfl, h1⟩
    · rcases h2 with h2 | ⟨rfl, h2⟩
      · exact .inl (UInt8.lt_trans h1 h2)
      · exact .inl h1
    · rcases h2 with h2 | ⟨rfl, h2⟩
      · exact .inl h2
      · exact .inr ⟨rfl, xAa h1 h2⟩
theorem xBi : ∀ (a b : Str), Op.bytesLess a b = true ∨ a = b ∨ Op.bytesLess b a = true
  | [], [] => .inr (.inl rfl)
  | [], _ :: _ => .inl rfl
  | _ :: _, [] => .inr (.inr rfl)
  | x :: a, y :: b => by
    rw [blt_cons, blt_cons]
    by_cases h : x < y
    · exact .inl (.inl h)
    · by_cases h' : y < x
      · exact .inr (.inr (.inl h'))
      · have e : x = y := UInt8.le_antisymm (UInt8.not_lt.1 h') (UInt8.not_lt.1 h)
        subst e
        rcases xBi a b with h1 | h1 | h1
        · exact .inl (.inr ⟨rfl, h1⟩)
        · exact .inr (.inl (by rw [h1]))
        · exact .inr (.inr (.inr ⟨rfl, h1⟩))
theorem xBx {a b : Str} (h : Op.bytesLess a b = true) : Op.bytesLess b a = false := by
  cases h' : Op.bytesLess b a with
  | false => rfl
  | true => have := xAa h h'; rw [xAg] at this; cases this
theorem xCw {a b : Str} (h : Op.bytesLess a b = true) : a ≠ b := by
  intro e; subst e; rw [xAg] at h; cases h
theorem xO9 {a b : Str} (h : Op.bytesLess a b = false) (hne : a ≠ b) : Op.bytesLess b a = true := by
  rcases xBi a b with h1 | h1 | h1
  · rw [h] at h1; cases h1
  · exact absurd h1 hne
  · exact h1
def ble (a b : Str) : Bool := !Op.bytesLess b a
theorem ble_iff {a b : Str} : ble a b = true ↔ Op.bytesLess a b = true ∨ a = b := by
  unfold ble
  constructor
  · intro h
    have h : Op.bytesLess b a = false := by simpa using h
    rcases xBi a b with h1 | h1 | h1
    · exact .inl h1
    · exact .inr h1
    · rw [h] at h1; cases h1
  · rintro (h | rfl)
    · simp [xBx h]
    · simp [xAg]
theorem xCY (a : Str) : ble a a = true := ble_iff.2 (.inr rfl)
theorem xA3 {a b c : Str} (h1 : ble a b = true) (h2 : ble b c = true) : ble a c = true := by
  rw [ble_iff] at *
  rcases h1 with h1 | rfl
  · rcases h2 with h2 | rfl
    · exact .inl (xAa h1 h2)
    · exact .inl h1
  · exact h2
theorem xD8 {a b c : Str} (h1 : ble a b = true) (h2 : Op.bytesLess b c = true) : Op.bytesLess a c = true := by
  rw [ble_iff] at h1
  rcases h1 with h1 | rfl
  · exact xAa h1 h2
  · exact h2
theorem xAl {a b c : Str} (h1 : Op.bytesLess a b = true) (h2 : ble b c = true) : Op.bytesLess a c = true := by
  rw [ble_iff] at h2
  rcases h2 with h2 | rfl
  · exact xAa h1 h2
  · exact h1
theorem xDm (a : Str) : ble [] a = true := by simp [ble, xCJ]
structure PairL where
  key : Str
  val : Str
  stamp : Int
  deriving DecidableEq
def Srt (t : List PairL) : Prop := t.Pairwise fun a b => Op.bytesLess a.key b.key = true
def xA4 (p : PairL) (s : List PairL × Bool) (x : PairL) : List PairL × Bool :=
  let s1 := if (!s.2 && !(Op.bytesLess x.key p.key)) = true then (s.1 ++ [p], true) else s
  (if (!(x.key == p.key)) = true then s1.1 ++ [x] else s1.1, s1.2)
def putL (t : List PairL) (p : PairL) : List PairL :=
  let s := t.foldl (xA4 p) ([], false)
  if s.2 = true then s.1 else s.1 ++ [p]
def insL (p : PairL) : List PairL → List PairL
  | [] => [p]
  | x :: r => if Op.bytesLess x.key p.key = true then x :: insL p r else p :: (x :: r).filter fun y => !(y.key == p.key)
theorem putT (p : PairL) : ∀ (l o : List PairL), l.foldl (xA4 p) (o, true) = (o ++ l.filter (fun y => !(y.key == p.key)), true)
  | [], o => by simp
  | x :: l, o => by
    rw [List.foldl_cons]
    have : xA4 p (o, true) x = (o ++ [x].filter (fun y => !(y.key == p.key)), true) := by
      simp only [xA4, Bool.not_true, Bool.false_and, Bool.false_eq_true, if_false, List.filter_cons, List.filter_nil]
      split <;> simp
    rw [this, putT p l, List.append_assoc, ← List.filter_append]
    rfl
theorem putF (p : PairL) : ∀ (l o : List PairL), (if (l.foldl (xA4 p) (o, false)).2 = true then (l.foldl (xA4 p) (o, false)).1 else (l.foldl (xA4 p) (o, false)).1 ++ [p]) = o ++ insL p l
  | [], o => by simp [insL]
  | x :: l, o => by
    rw [List.foldl_cons, insL]
    by_cases h : Op.bytesLess x.key p.key = true
    · have hne : (x.key == p.key) = false := by simpa using xCw h
      have : xA4 p (o, false) x = (o ++ [x], false) := by
        simp [xA4, h, xCw h]
      rw [this, putF p l, if_pos h, List.append_assoc]
      rfl
    · have h' : Op.bytesLess x.key p.key = false := by simpa using h
      have : xA4 p (o, false) x = (o ++ [p] ++ [x].filter (fun y => !(y.key == p.key)), true) := by
        simp only [xA4, Bool.not_false, h', Bool.and_self, if_true, List.filter_cons, List.filter_nil]
        split <;> simp
      rw [this, putT, if_neg h]
      simp only [if_true]
      rw [List.append_assoc, List.append_assoc, ← List.filter_append]
      rfl
theorem xEg (t : List PairL) (p : PairL) : putL t p = insL p t := by
  have := putF p t []
  simpa [putL] using this
theorem xGC {p y : PairL} : ∀ {t : List PairL}, y ∈ insL p t → y = p ∨ y ∈ t
  | [], h => by simp [insL] at h; exact .inl h
  | x :: r, h => by
    rw [insL] at h
    split at h
    · rcases List.mem_cons.1 h with rfl | h
      · exact .inr (by simp)
      · rcases xGC h with h | h
        · exact .inl h
        · exact .inr (List.mem_cons_of_mem _ h)
    · rcases List.mem_cons.1 h with rfl | h
      · exact .inl rfl
      · exact .inr (List.mem_filter.1 h).1
theorem xNz {p : PairL} : ∀ {t : List PairL}, Srt t → Srt (insL p t)
  | [], _ => by simp [insL, Srt]
  | x :: r, h => by
    obtain ⟨h1, h2⟩ := List.pairwise_cons.1 h
    rw [insL]
    split
    · rename_i hx
      refine List.pairwise_cons.2 ⟨fun y hy => ?_, xNz h2⟩
      rcases xGC hy with rfl | hy
      · exact hx
      · exact h1 y hy
    · rename_i hx
      have hx : Op.bytesLess x.key p.key = false := by simpa using hx
      refine List.pairwise_cons.2 ⟨fun y hy => ?_, h.filter _⟩
      obtain ⟨hy1, hy2⟩ := List.mem_filter.1 hy
      have hne : y.key ≠ p.key := by simpa using hy2
      rcases List.mem_cons.1 hy1 with rfl | hy1
      · exact xO9 hx hne
      · have := h1 y hy1
        rcases xBi p.key y.key with h3 | h3 | h3
        · exact h3
        · exact absurd h3.symm hne
        · have := xAa this h3
          rw [hx] at this; cases this
theorem xN0 {p : PairL} : ∀ t : List PairL, (insL p t).length ≤ t.length + 1
  | [] => by simp [insL]
  | x :: r => by
    rw [insL]
    split
    · have := xN0 (p := p) r; simp; omega
    · simp only [List.length_cons]
      have := List.length_filter_le (fun y : PairL => !(y.key == p.key)) (x :: r)
      simp at this ⊢
      omega
theorem xKH (t : List PairL) (p : PairL) : (putL t p).length ≤ t.length + 1 := by rw [xEg]; exact xN0 t
theorem xBL {t : List PairL} {p : PairL} (h : Srt t) : Srt (putL t p) := by rw [xEg]; exact xNz h
theorem xAo {α : Type} {l : List α} {i : Nat} {x : α} (h : l[i]? = some x) : l.drop i = x :: l.drop (i + 1) := by
  have hl := (List.getElem?_eq_some_iff.1 h).1
  rw [List.drop_eq_getElem_cons hl]
  congr 1
  exact (List.getElem?_eq_some_iff.1 h).2
end Go.Pu
set_option linter.unusedVariables false
namespace Go.Pu
structure SpanL where
  lo : Str
  hi : Str
  deriving DecidableEq
def hasL (s : SpanL) (k : Str) : Bool := !(Op.bytesLess k s.lo) && (s.hi == [] || Op.bytesLess k s.hi)
def xAK (s : SpanL) : Bool := !(s.hi == []) && (Op.bytesLess s.hi s.lo || s.hi == s.lo)
def xBr (a b : Str) : Int := if Op.bytesLess a b = true then -1 else if a = b then 0 else 1
def xEV (e f : Str) : Int := if e = f then 0 else if e = [] then 1 else if f = [] then -1 else xBr e f
def xCN (a b : Str) : Str := if xEV b a < 0 then b else a
def maxL (a b : Str) : Str := if Op.bytesLess a b = true then b else a
def xH8 : SpanL := ⟨[97], [97]⟩
def xAd (a b : SpanL) : SpanL := if xAK ⟨maxL a.lo b.lo, xCN a.hi b.hi⟩ = true then xH8 else ⟨maxL a.lo b.lo, xCN a.hi b.hi⟩
def xDT (a b : Str) : Bool := !(a == []) && (b == [] || Op.bytesLess a b)
def xAG (k p : Str) : Bool := decide (k.length ≥ p.length) && (k.take p.length == p)
def xDb (k f t : Str) : Str × Bool := if xAG k f = true then (t ++ k.drop f.length, true) else ([], false)
def oneL (k : Str) : SpanL := ⟨k, k ++ [0]⟩
def xB1 (p : Str) : Nat → Nat
  | 0 => 0
  | n + 1 => if p[n]? = some 255 then xB1 p n else n + 1
def upL (p : Str) : Str :=
  match xB1 p p.length with
  | 0 => []
  | n + 1 => p.take n ++ [p.getD n 0 + 1]
def xAH (p : Str) : SpanL := ⟨p, upL p⟩
theorem xK8 (p : Str) : ∀ n, xB1 p n ≤ n
  | 0 => Nat.le_refl _
  | n + 1 => by
    rw [xB1]
    split
    · exact Nat.le_succ_of_le (xK8 p n)
    · exact Nat.le_refl _
theorem has_iff {s : SpanL} {k : Str} : hasL s k = true ↔ ble s.lo k = true ∧ (s.hi = [] ∨ Op.bytesLess k s.hi = true) := by
  simp [hasL, ble]
theorem empty_iff {s : SpanL} : xAK s = true ↔ s.hi ≠ [] ∧ ble s.hi s.lo = true := by
  simp only [xAK, Bool.and_eq_true, Bool.not_eq_true', Bool.or_eq_true, beq_iff_eq, beq_eq_false_iff_ne, ble_iff]
theorem xAW {s : SpanL} (h : xAK s = true) (k : Str) : hasL s k = false := by
  cases hk : hasL s k with
  | false => rfl
  | true =>
    obtain ⟨h1, h2⟩ := empty_iff.1 h
    obtain ⟨h3, h4⟩ := has_iff.1 hk
    rcases h4 with h4 | h4
    · exact absurd h4 h1
    · have := xAl h4 (xA3 h2 h3)
      rw [xAg] at this; cases this
theorem xDd {s : SpanL} (h : xAK s = false) : hasL s s.lo = true := by
  refine has_iff.2 ⟨xCY _, ?_⟩
  by_cases he : s.hi = []
  · exact .inl he
  · right
    cases hb : Op.bytesLess s.lo s.hi with
    | true => rfl
    | false =>
      have : xAK s = true := empty_iff.2 ⟨he, by simp [ble, hb]⟩
      rw [h] at this; cases this
def elt (a b : Str) : Prop := a ≠ [] ∧ (b = [] ∨ Op.bytesLess a b = true)
theorem less_iff {a b : Str} : xDT a b = true ↔ elt a b := by simp [xDT, elt]
theorem cmpStr_lt {a b : Str} : xBr a b < 0 ↔ Op.bytesLess a b = true := by
  unfold xBr
  split
  · rename_i h; simp [h]
  · rename_i h
    split <;> simp [h]
theorem cmpStr_eq {a b : Str} : xBr a b = 0 ↔ a = b := by
  unfold xBr
  split
  · rename_i h
    constructor
    · intro h'; simp at h'
    · intro e; subst e; rw [xAg] at h; cases h
  · split
    · rename_i h; simp [h]
    · rename_i h; simp [h]
theorem cmpEnd_lt {a b : Str} : xEV a b < 0 ↔ elt a b := by
  unfold xEV elt
  split
  · rename_i h
    subst h
    simp
    intro h; exact ⟨h, xAg a⟩
  · rename_i h
    split
    · rename_i h1; simp [h1]
    · rename_i h1
      split
      · rename_i h2; simp [h1, h2]
      · rename_i h2; simp [h1, h2, cmpStr_lt]
theorem xRM (a b : Str) : elt a b ∨ a = b ∨ elt b a := by
  unfold elt
  by_cases ha : a = []
  · by_cases hb : b = []
    · exact .inr (.inl (ha.trans hb.symm))
    · exact .inr (.inr ⟨hb, .inl ha⟩)
  · by_cases hb : b = []
    · exact .inl ⟨ha, .inl hb⟩
    · rcases xBi a b with h | h | h
      · exact .inl ⟨ha, .inr h⟩
      · exact .inr (.inl h)
      · exact .inr (.inr ⟨hb, .inr h⟩)
theorem xFb (k x : Str) : hasL (oneL k) x = (x == k) := by
  rw [Bool.eq_iff_iff, has_iff, beq_iff_eq]
  simp only [oneL]
  constructor
  · rintro ⟨h1, h2 | h2⟩
    · simp at h2
    · -- k ≤ x < k ++ [0]
      have key : ∀ k x : Str, ble k x = true → Op.bytesLess x (k ++ [0]) = true → x = k := by
        intro k
        induction k with
        | nil =>
          intro x h1 h2
          cases x with
          | nil => rfl
          | cons a x =>
            rw [List.nil_append, blt_cons] at h2
            rcases h2 with h2 | ⟨_, h2⟩
            · exact absurd h2 (UInt8.not_lt.2 (UInt8.le_iff_toNat_le.2 (by simp)))
            · rw [xCJ] at h2; cases h2
        | cons b k ih =>
          intro x h1 h2
          cases x with
          | nil =>
            rw [ble_iff] at h1
            rcases h1 with h1 | h1
            · rw [xCJ] at h1; cases h1
            · cases h1
          | cons a x =>
            rw [List.cons_append, blt_cons] at h2
            have h1' : ¬ (a < b ∨ a = b ∧ Op.bytesLess x k = true) := by
              intro h
              have h3 := blt_cons.2 h
              have h4 : Op.bytesLess (a :: x) (b :: k) = false := by simpa [ble] using h1
              rw [h4] at h3; cases h3
            rcases h2 with h2 | ⟨rfl, h2⟩
            · exact absurd (.inl h2) h1'
            · have : ble k x = true := by
                simp only [ble, Bool.not_eq_true']
                cases hx : Op.bytesLess x k with
                | false => rfl
                | true => exact absurd (.inr ⟨rfl, hx⟩) h1'
              rw [ih x this h2]
      exact key k x h1 h2
  · rintro rfl
    refine ⟨xCY _, .inr ?_⟩
    induction x with
    | nil => rfl
    | cons a x ih => exact blt_cons.2 (.inr ⟨rfl, ih⟩)
end Go.Pu
set_option linter.unusedVariables false
namespace Go.Pu
theorem begins_iff {k p : Str} : xAG k p = true ↔ ∃ r, k = p ++ r := by
  simp only [xAG, Bool.and_eq_true, decide_eq_true_eq, beq_iff_eq]
  constructor
  · rintro ⟨h1, h2⟩
    refine ⟨k.drop p.length, ?_⟩
    have := List.take_append_drop p.length k
    rw [h2] at this
    exact this.symm
  · rintro ⟨r, rfl⟩
    simp
theorem xEv {p a b : Str} : Op.bytesLess (p ++ a) (p ++ b) = Op.bytesLess a b := by
  induction p with
  | nil => rfl
  | cons x p ih =>
    rw [Bool.eq_iff_iff, List.cons_append, List.cons_append, blt_cons, ih]
    simp [UInt8.lt_irrefl]
theorem xDn {p a b : Str} : ble (p ++ a) (p ++ b) = ble a b := by simp [ble, xEv]
theorem xDg (p r : Str) : ble p (p ++ r) = true := by
  have := xDn (p := p) (a := []) (b := r)
  rw [List.append_nil] at this
  rw [this]; exact xDm r
theorem xHt (p : Str) : ∀ n, n ≤ p.length → (∀ i, xB1 p n ≤ i → i < n → p[i]? = some 255) ∧ (∀ m, xB1 p n = m + 1 → p[m]? ≠ some 255)
  | 0, _ => ⟨fun i _ h => by omega, fun m h => by cases h⟩
  | n + 1, hn => by
    obtain ⟨h1, h2⟩ := xHt p n (by omega)
    by_cases h : p[n]? = some 255
    · have e : xB1 p (n + 1) = xB1 p n := by rw [xB1, if_pos h]
      rw [e]
      refine ⟨fun i hi hl => ?_, h2⟩
      by_cases he : i = n
      · subst he; exact h
      · exact h1 i hi (by omega)
    · have e : xB1 p (n + 1) = n + 1 := by rw [xB1, if_neg h]
      rw [e]
      refine ⟨fun i hi hl => by omega, fun m hm => ?_⟩
      have : m = n := by omega
      subst this; exact h
theorem lt_up {c : UInt8} (h : c ≠ 255) : c < c + 1 := by
  rw [UInt8.lt_iff_toNat_lt]
  have h1 : c.toNat ≠ 255 := fun e => h (UInt8.toNat_inj.1 e)
  have h2 : c.toNat < 256 := c.toNat_lt
  rw [UInt8.toNat_add]
  simp
  omega
theorem up_le {c x : UInt8} (h : c ≠ 255) (hx : x < c + 1) : x ≤ c := by
  rw [UInt8.lt_iff_toNat_lt, UInt8.toNat_add] at hx
  rw [UInt8.le_iff_toNat_le]
  have h1 : c.toNat ≠ 255 := fun e => h (UInt8.toNat_inj.1 e)
  have h2 : c.toNat < 256 := c.toNat_lt
  simp at hx
  omega
theorem le_255 (x : UInt8) : x ≤ 255 := by
  rw [UInt8.le_iff_toNat_le]
  have := x.toNat_lt
  show x.toNat ≤ 255
  omega
theorem xGx : ∀ (p k : Str), (∀ c ∈ p, c = 255) → ble p k = true → xAG k p = true
  | [], k, _, _ => begins_iff.2 ⟨k, rfl⟩
  | c :: p, k, h, hk => by
    cases k with
    | nil =>
      rw [ble_iff] at hk
      rcases hk with hk | hk
      · rw [xCJ] at hk; cases hk
      · cases hk
    | cons x k =>
      have hc : c = 255 := h c (by simp)
      subst hc
      have hx : ¬ (x < 255 ∨ x = 255 ∧ Op.bytesLess k p = true) := by
        intro h'
        have := blt_cons.2 h'
        simp [ble, this] at hk
      have hxe : x = 255 := UInt8.le_antisymm (le_255 x) (UInt8.not_lt.1 (fun h' => hx (.inl h')))
      subst hxe
      have : ble p k = true := by
        simp only [ble, Bool.not_eq_true']
        cases hb : Op.bytesLess k p with
        | false => rfl
        | true => exact absurd (.inr ⟨rfl, hb⟩) hx
      obtain ⟨r, rfl⟩ := begins_iff.1 (xGx p k (fun c hc => h c (by simp [hc])) this)
      exact begins_iff.2 ⟨r, rfl⟩
theorem xRw {a : Str} {c : UInt8} {q : Str} (hc : c ≠ 255) (hq : ∀ x ∈ q, x = 255) (k : Str) : (ble (a ++ c :: q) k = true ∧ Op.bytesLess k (a ++ [c + 1]) = true) ↔ xAG k (a ++ c :: q) = true := by
  constructor
  · rintro ⟨h1, h2⟩
    have ha : ∀ (a k : Str), ble (a ++ c :: q) k = true → Op.bytesLess k (a ++ [c + 1]) = true → ∃ r, k = a ++ r := by
      intro a
      induction a with
      | nil => intro k _ _; exact ⟨k, rfl⟩
      | cons x a ih =>
        intro k h1 h2
        cases k with
        | nil =>
          rw [ble_iff] at h1
          rcases h1 with h1 | h1
          · rw [xCJ] at h1; cases h1
          · cases h1
        | cons y k =>
          rw [List.cons_append, blt_cons] at h2
          have h1' : ¬ (y < x ∨ y = x ∧ Op.bytesLess k (a ++ c :: q) = true) := by
            intro h'
            have := blt_cons.2 h'
            rw [List.cons_append] at h1
            simp [ble, this] at h1
          have hxy : y = x := by
            rcases h2 with h2 | ⟨h2, _⟩
            · exact absurd (.inl h2) h1'
            · exact h2
          subst hxy
          have h2' : Op.bytesLess k (a ++ [c + 1]) = true := by
            rcases h2 with h2 | ⟨_, h2⟩
            · exact absurd h2 (UInt8.lt_irrefl _)
            · exact h2
          have : ble (a ++ c :: q) k = true := by
            simp only [ble, Bool.not_eq_true']
            cases hb : Op.bytesLess k (a ++ c :: q) with
            | false => rfl
            | true => exact absurd (.inr ⟨rfl, hb⟩) h1'
          obtain ⟨r, rfl⟩ := ih k this h2'
          exact ⟨r, rfl⟩
    obtain ⟨r, rfl⟩ := ha a k h1 h2
    rw [xDn] at h1
    rw [xEv] at h2
    cases r with
    | nil =>
      rw [ble_iff] at h1
      rcases h1 with h1 | h1
      · rw [xCJ] at h1; cases h1
      · cases h1
    | cons y r =>
      rw [blt_cons] at h2
      have hyc : y ≤ c := by
        rcases h2 with h2 | ⟨_, h2⟩
        · exact up_le hc h2
        · rw [xCJ] at h2; cases h2
      have h1' : ¬ (y < c ∨ y = c ∧ Op.bytesLess r q = true) := by
        intro h'
        have := blt_cons.2 h'
        simp [ble, this] at h1
      have hye : y = c := UInt8.le_antisymm hyc (UInt8.not_lt.1 (fun h' => h1' (.inl h')))
      subst hye
      have : ble q r = true := by
        simp only [ble, Bool.not_eq_true']
        cases hb : Op.bytesLess r q with
        | false => rfl
        | true => exact absurd (.inr ⟨rfl, hb⟩) h1'
      obtain ⟨s, rfl⟩ := begins_iff.1 (xGx q r hq this)
      exact begins_iff.2 ⟨s, by simp⟩
  · intro h
    obtain ⟨r, rfl⟩ := begins_iff.1 h
    refine ⟨xDg _ _, ?_⟩
    rw [List.append_assoc, xEv, List.cons_append]
    exact blt_cons.2 (.inl (lt_up hc))
theorem xHs (p : Str) : (upL p = [] ∧ ∀ c ∈ p, c = 255) ∨ ∃ a c q, p = a ++ c :: q ∧ c ≠ 255 ∧ (∀ x ∈ q, x = 255) ∧ upL p = a ++ [c + 1] := by
  obtain ⟨h1, h2⟩ := xHt p p.length (Nat.le_refl _)
  have hle := xK8 p p.length
  unfold upL
  cases hs : xB1 p p.length with
  | zero =>
    left
    refine ⟨rfl, fun c hc => ?_⟩
    obtain ⟨i, hi⟩ := List.mem_iff_getElem?.1 hc
    have := h1 i (by omega) (List.getElem?_eq_some_iff.1 hi).1
    rw [hi] at this
    simpa using this
  | succ n =>
    right
    have hn : n < p.length := by omega
    have hg : p[n]? = some p[n] := List.getElem?_eq_getElem hn
    refine ⟨p.take n, p[n], p.drop (n + 1), ?_, ?_, ?_, ?_⟩
    · rw [← List.drop_eq_getElem_cons hn, List.take_append_drop]
    · intro e
      rw [e] at hg
      exact h2 n hs hg
    · intro x hx
      obtain ⟨i, hi⟩ := List.mem_iff_getElem?.1 hx
      rw [List.getElem?_drop] at hi
      have := h1 (n + 1 + i) (by omega) (List.getElem?_eq_some_iff.1 hi).1
      rw [hi] at this
      simpa using this
    · simp only [List.getD, hg, Option.getD_some]
theorem xAX (p k : Str) : hasL (xAH p) k = xAG k p := by
  rw [Bool.eq_iff_iff, has_iff]
  simp only [xAH]
  rcases xHs p with ⟨h1, h2⟩ | ⟨a, c, q, rfl, hc, hq, hu⟩
  · rw [h1]
    constructor
    · rintro ⟨h3, _⟩; exact xGx p k h2 h3
    · intro h
      obtain ⟨r, rfl⟩ := begins_iff.1 h
      exact ⟨xDg _ _, .inl rfl⟩
  · rw [hu, ← xRw hc hq k]
    constructor
    · rintro ⟨h3, h4 | h4⟩
      · simp at h4
      · exact ⟨h3, h4⟩
    · rintro ⟨h3, h4⟩; exact ⟨h3, .inr h4⟩
end Go.Pu
set_option linter.unusedVariables false
set_option linter.unusedSimpArgs false
namespace Go.Pu
theorem xEw {a b : Str} (h1 : ble a b = true) (h2 : ble b a = true) : a = b := by
  rcases ble_iff.1 h1 with h | h
  · rw [ble, Bool.not_eq_true', h] at h2; cases h2
  · exact h
def insI (s : SpanL) : List SpanL → List SpanL → Bool → List SpanL × Bool
  | [], o, d => (o, d)
  | y :: l, o, d => if d = false ∧ Op.bytesLess s.lo y.lo = true then insI s l (o ++ [s] ++ [y]) true else insI s l (o ++ [y]) d
def insS (l : List SpanL) (s : SpanL) : List SpanL :=
  if (insI s l [] (xAK s)).2 = false then (insI s l [] (xAK s)).1 ++ [s] else (insI s l [] (xAK s)).1
def xKB (l : List SpanL) : List SpanL := l.foldl insS []
def xCd (out : List SpanL) (s : SpanL) : List SpanL :=
  match out[out.length - 1]? with
  | none => out ++ [s]
  | some x => if x.hi ≠ [] ∧ Op.bytesLess x.hi s.lo = true then out ++ [s] else if xDT x.hi s.hi = true then out.set (out.length - 1) ⟨x.lo, s.hi⟩ else out
def xMn (l : List SpanL) : List SpanL := l.foldl xCd []
def xAS (l : List SpanL) : List SpanL := xMn (xKB l)
theorem xKf (s : SpanL) : ∀ (l o : List SpanL) (d : Bool), (insI s l o d).1.length = o.length + l.length + (if d = false ∧ (insI s l o d).2 = true then 1 else 0)
  | [], o, d => by cases d <;> simp [insI]
  | y :: l, o, d => by
    unfold insI
    split
    · rename_i h
      have h2 : ∀ (l o : List SpanL), (insI s l o true).2 = true := by
        intro l
        induction l with
        | nil => intro o; rfl
        | cons z l ih => intro o; unfold insI; rw [if_neg (by simp)]; exact ih _
      have := xKf s l (o ++ [s] ++ [y]) true
      rw [h2, h.1]
      simp at this ⊢
      omega
    · have := xKf s l (o ++ [y]) d
      simp only [List.length_append, List.length_cons, List.length_nil] at this ⊢
      omega
theorem xKd (l : List SpanL) (s : SpanL) : (insS l s).length ≤ l.length + 1 := by
  have := xKf s l [] (xAK s)
  unfold insS
  generalize insI s l [] (xAK s) = r at this
  generalize xAK s = d at this
  obtain ⟨r1, r2⟩ := r
  cases r2 <;> cases d <;> simp at this ⊢ <;> omega
theorem xHu (out : List SpanL) (s : SpanL) : (xCd out s).length ≤ out.length + 1 := by
  unfold xCd
  split
  · simp
  · split
    · simp
    · split
      · simp
      · omega
theorem xQc (l : List SpanL) : (xMn l).length ≤ l.length := by
  have key : ∀ (l o : List SpanL), (l.foldl xCd o).length ≤ o.length + l.length := by
    intro l
    induction l with
    | nil => intro o; exact Nat.le_refl _
    | cons s l ih =>
      intro o
      have := xHu o s
      have := ih (xCd o s)
      simp only [List.foldl_cons, List.length_cons] at this ⊢
      omega
  have := key l []
  simpa [xMn] using this
def Lo (l : List SpanL) : Prop := l.Pairwise (fun a b => ble a.lo b.lo = true)
theorem xEO (s : SpanL) : ∀ (l o : List SpanL) (d : Bool), insI s l o d = (o ++ (insI s l [] d).1, (insI s l [] d).2)
  | [], o, d => by simp [insI]
  | y :: l, o, d => by
    unfold insI
    split
    · rw [xEO s l (o ++ [s] ++ [y]), xEO s l ([] ++ [s] ++ [y])]; simp
    · rw [xEO s l (o ++ [y]), xEO s l ([] ++ [y])]; simp
def insP (s : SpanL) : List SpanL → List SpanL
  | [] => [s]
  | y :: l => if Op.bytesLess s.lo y.lo = true then s :: y :: l else y :: insP s l
theorem xIb (s : SpanL) : ∀ (l : List SpanL), insI s l [] true = (l, true)
  | [] => rfl
  | y :: l => by
    unfold insI
    rw [if_neg (by simp), xEO, xIb s l]; simp
theorem xVu (l : List SpanL) (s : SpanL) : insS l s = if xAK s = true then l else insP s l := by
  unfold insS
  cases he : xAK s with
  | true => rw [xIb]; simp
  | false =>
    have key : ∀ l : List SpanL, (if (insI s l [] false).2 = false then (insI s l [] false).1 ++ [s] else (insI s l [] false).1) = insP s l := by
      intro l
      induction l with
      | nil => simp [insI, insP]
      | cons y l ih =>
        have hI : insI s (y :: l) [] false = if Op.bytesLess s.lo y.lo = true then (s :: y :: l, true) else (y :: (insI s l [] false).1, (insI s l [] false).2) := by
          rw [insI]
          by_cases h : Op.bytesLess s.lo y.lo = true
          · rw [if_pos ⟨rfl, h⟩, if_pos h, xEO, xIb]; simp
          · rw [if_neg (by simp [h]), if_neg h, xEO]; simp
        rw [hI, insP]
        by_cases h : Op.bytesLess s.lo y.lo = true
        · rw [if_pos h, if_pos h]; simp
        · rw [if_neg h, if_neg h, ← ih]
          cases h2 : (insI s l [] false).2 <;> simp [h2]
    simpa using key l
theorem insP_mem {s x : SpanL} : ∀ {l : List SpanL}, x ∈ insP s l ↔ x = s ∨ x ∈ l
  | [] => by simp [insP]
  | y :: l => by
    unfold insP
    split
    · simp
    · simp only [List.mem_cons, insP_mem (l := l)]
      constructor
      · rintro (h | h | h)
        · exact .inr (.inl h)
        · exact .inl h
        · exact .inr (.inr h)
      · rintro (h | h | h)
        · exact .inr (.inl h)
        · exact .inl h
        · exact .inr (.inr h)
theorem xQ9 {s : SpanL} : ∀ {l : List SpanL}, Lo l → Lo (insP s l)
  | [], _ => by simp [insP, Lo]
  | y :: l, h => by
    unfold insP
    obtain ⟨h1, h2⟩ := List.pairwise_cons.1 h
    split
    · rename_i hb
      refine List.pairwise_cons.2 ⟨fun z hz => ?_, h⟩
      have hsy : ble s.lo y.lo = true := ble_iff.2 (.inl hb)
      rcases List.mem_cons.1 hz with rfl | hz
      · exact hsy
      · exact xA3 hsy (h1 z hz)
    · rename_i hb
      refine List.pairwise_cons.2 ⟨fun z hz => ?_, xQ9 h2⟩
      rcases insP_mem.1 hz with rfl | hz
      · simp [ble, hb]
      · exact h1 z hz
theorem xGZ (l : List SpanL) : Lo (xKB l) ∧ (∀ s ∈ xKB l, xAK s = false) ∧ ∀ s, s ∈ xKB l ↔ s ∈ l ∧ xAK s = false := by
  have key : ∀ (l o : List SpanL), Lo o → (∀ s ∈ o, xAK s = false) → Lo (l.foldl insS o) ∧ (∀ s ∈ l.foldl insS o, xAK s = false) ∧ ∀ s, s ∈ l.foldl insS o ↔ s ∈ o ∨ (s ∈ l ∧ xAK s = false) := by
    intro l
    induction l with
    | nil => intro o h1 h2; exact ⟨h1, h2, fun s => by simp⟩
    | cons x l ih =>
      intro o h1 h2
      have hx := xVu o x
      cases he : xAK x with
      | true =>
        rw [he, if_pos rfl] at hx
        obtain ⟨g1, g2, g3⟩ := ih o h1 h2
        rw [List.foldl_cons, hx]
        refine ⟨g1, g2, fun s => (g3 s).trans ?_⟩
        constructor
        · rintro (h | ⟨h, h'⟩)
          · exact .inl h
          · exact .inr ⟨by simp [h], h'⟩
        · rintro (h | ⟨h, h'⟩)
          · exact .inl h
          · rcases List.mem_cons.1 h with rfl | h
            · rw [he] at h'; cases h'
            · exact .inr ⟨h, h'⟩
      | false =>
        rw [he, if_neg (by simp)] at hx
        obtain ⟨g1, g2, g3⟩ := ih (insP x o) (xQ9 h1) (fun s hs => by rcases insP_mem.1 hs with rfl | hs; exact he; exact h2 s hs)
        rw [List.foldl_cons, hx]
        refine ⟨g1, g2, fun s => (g3 s).trans ?_⟩
        rw [insP_mem]
        constructor
        · rintro ((h | h) | ⟨h, h'⟩)
          · subst h; exact .inr ⟨by simp, he⟩
          · exact .inl h
          · exact .inr ⟨by simp [h], h'⟩
        · rintro (h | ⟨h, h'⟩)
          · exact .inl (.inr h)
          · rcases List.mem_cons.1 h with rfl | h
            · exact .inl (.inl rfl)
            · exact .inr ⟨h, h'⟩
  obtain ⟨h1, h2, h3⟩ := key l [] List.Pairwise.nil (by simp)
  exact ⟨h1, h2, fun s => (h3 s).trans (by simp)⟩
def inL (l : List SpanL) (k : Str) : Bool := l.any (fun s => hasL s k)
theorem inL_iff {l : List SpanL} {k : Str} : inL l k = true ↔ ∃ s ∈ l, hasL s k = true := by simp [inL]
def sep (a b : SpanL) : Prop := a.hi ≠ [] ∧ Op.bytesLess a.hi b.lo = true
structure Nrm (l : List SpanL) : Prop where
  ne : ∀ s ∈ l, xAK s = false
  pw : l.Pairwise sep
theorem Nrm.tail {s : SpanL} {l : List SpanL} (h : Nrm (s :: l)) : Nrm l := ⟨fun t ht => h.ne t (by simp [ht]), (List.pairwise_cons.1 h.pw).2⟩
theorem xBP {s : SpanL} (h : xAK s = false) (hh : s.hi ≠ []) : Op.bytesLess s.lo s.hi = true := by
  have := (has_iff.1 (xDd h)).2
  rcases this with h1 | h1
  · exact absurd h1 hh
  · exact h1
theorem Nrm.above {s : SpanL} {l : List SpanL} (h : Nrm (s :: l)) {k : Str} (hk : inL l k = true) : s.hi ≠ [] ∧ Op.bytesLess s.hi k = true := by
  obtain ⟨t, ht, hk⟩ := inL_iff.1 hk
  obtain ⟨h1, h2⟩ := (List.pairwise_cons.1 h.pw).1 t ht
  exact ⟨h1, xAl h2 (has_iff.1 hk).1⟩
theorem xAT {s : SpanL} {l : List SpanL} {k : Str} : inL (s :: l) k = (hasL s k || inL l k) := by simp [inL]
theorem Nrm.ext : ∀ {l m : List SpanL}, Nrm l → Nrm m → (∀ k, inL l k = inL m k) → l = m
  | [], [], _, _, _ => rfl
  | [], t :: m, _, h, hk => by
    have := hk t.lo
    rw [xAT, xDd (h.ne t (by simp))] at this
    simp [inL] at this
  | s :: l, [], h, _, hk => by
    have := hk s.lo
    rw [xAT, xDd (h.ne s (by simp))] at this
    simp [inL] at this
  | s :: l, t :: m, h, g, hk => by
    have least : ∀ {s : SpanL} {l : List SpanL}, Nrm (s :: l) → ∀ {k : Str}, inL (s :: l) k = true → ble s.lo k = true := by
      intro s l h k hk
      rw [xAT, Bool.or_eq_true] at hk
      rcases hk with hk | hk
      · exact (has_iff.1 hk).1
      · obtain ⟨h1, h2⟩ := h.above hk
        exact ble_iff.2 (.inl (xAa (xBP (h.ne s (by simp)) h1) h2))
    have hlo : s.lo = t.lo := by
      have h1 := least h (k := t.lo) (by rw [hk, xAT, xDd (g.ne t (by simp))]; rfl)
      have h2 := least g (k := s.lo) (by rw [← hk, xAT, xDd (h.ne s (by simp))]; rfl)
      exact xEw h1 h2
    have ends : ∀ {s t : SpanL} {l m : List SpanL}, Nrm (s :: l) → Nrm (t :: m) → (∀ k, inL (s :: l) k = inL (t :: m) k) → s.lo = t.lo → ¬ elt s.hi t.hi := by
      intro s t l m h g hk hlo he
      have hs := xBP (h.ne s (by simp)) he.1
      have h1 : hasL t s.hi = true := has_iff.2 ⟨ble_iff.2 (.inl (hlo ▸ hs)), he.2⟩
      have h2 := hk s.hi
      rw [xAT (s := t), h1, xAT] at h2
      have h3 : hasL s s.hi = false := by
        cases h4 : hasL s s.hi with
        | false => rfl
        | true =>
          rcases (has_iff.1 h4).2 with h5 | h5
          · exact absurd h5 he.1
          · rw [xAg] at h5; cases h5
      rw [h3] at h2
      have h4 : inL l s.hi = true := by simpa using h2
      have := (h.above h4).2
      rw [xAg] at this; cases this
    have hhi : s.hi = t.hi := by
      rcases xRM s.hi t.hi with e | e | e
      · exact absurd e (ends h g hk hlo)
      · exact e
      · exact absurd e (ends g h (fun k => (hk k).symm) hlo.symm)
    have hst : s = t := by cases s; cases t; simp_all
    subst hst
    rw [Nrm.ext h.tail g.tail (fun k => ?_)]
    have := hk k
    rw [xAT, xAT] at this
    cases hs : hasL s k with
    | false => rw [hs] at this; simpa using this
    | true =>
      have no : ∀ {l : List SpanL}, Nrm (s :: l) → inL l k = false := by
        intro l h
        cases hl : inL l k with
        | false => rfl
        | true =>
          obtain ⟨h1, h2⟩ := h.above hl
          rcases (has_iff.1 hs).2 with h3 | h3
          · exact absurd h3 h1
          · rw [xBx h2] at h3; cases h3
      rw [no h, no g]
theorem xEd (o : List SpanL) (x s : SpanL) : xCd (o ++ [x]) s = if x.hi ≠ [] ∧ Op.bytesLess x.hi s.lo = true then o ++ [x] ++ [s] else if xDT x.hi s.hi = true then o ++ [⟨x.lo, s.hi⟩] else o ++ [x] := by
  unfold xCd
  simp
theorem xGf : ∀ (l o : List SpanL), Nrm o → Lo l → (∀ s ∈ l, xAK s = false) → (∀ x ∈ o, ∀ s ∈ l, ble x.lo s.lo = true) → Nrm (l.foldl xCd o) ∧ ∀ k, inL (l.foldl xCd o) k = (inL o k || inL l k)
  | [], o, h, _, _, _ => ⟨h, fun k => by simp [inL]⟩
  | s :: l, o, h, hl, hne, hb => by
    obtain ⟨hl1, hl2⟩ := List.pairwise_cons.1 hl
    have hse := hne s (by simp)
    have go : ∀ o', Nrm o' → (∀ x ∈ o', ∀ t ∈ l, ble x.lo t.lo = true) → (∀ k, inL o' k = (inL o k || hasL s k)) → xCd o s = o' → Nrm ((s :: l).foldl xCd o) ∧ ∀ k, inL ((s :: l).foldl xCd o) k = (inL o k || inL (s :: l) k) := by
      intro o' h1 h2 h3 h4
      obtain ⟨g1, g2⟩ := xGf l o' h1 hl2 (fun t ht => hne t (by simp [ht])) h2
      rw [List.foldl_cons, h4]
      refine ⟨g1, fun k => ?_⟩
      rw [g2, h3, xAT, Bool.or_assoc]
    rcases List.eq_nil_or_concat o with rfl | ⟨p, x, rfl⟩
    · exact go [s] ⟨by simpa using hse, by simp⟩ (by simpa using hl1) (fun k => by simp [inL]) rfl
    · rw [List.concat_eq_append] at *
      have hxs := hb x (by simp) s (by simp)
      have hxe := h.ne x (by simp)
      have hpx : ∀ y ∈ p, sep y x := fun y hy => (List.pairwise_append.1 h.pw).2.2 y hy x (by simp)
      have hpp := (List.pairwise_append.1 h.pw).1
      have inA : ∀ (q : List SpanL) (y : SpanL) (k : Str), inL (q ++ [y]) k = (inL q k || hasL y k) := by intro q y k; simp [inL]
      by_cases h1 : x.hi ≠ [] ∧ Op.bytesLess x.hi s.lo = true
      · refine go (p ++ [x] ++ [s]) ⟨fun t ht => ?_, ?_⟩ (fun y hy t ht => ?_) (fun k => by rw [inA]) (by rw [xEd, if_pos h1])
        · rcases List.mem_append.1 ht with ht | ht
          · exact h.ne t ht
          · rw [List.mem_singleton.1 ht]; exact hse
        · refine List.pairwise_append.2 ⟨h.pw, by simp, fun y hy t ht => ?_⟩
          rw [List.mem_singleton.1 ht]
          rcases List.mem_append.1 hy with hy | hy
          · obtain ⟨g1, g2⟩ := hpx y hy
            exact ⟨g1, xAl g2 hxs⟩
          · rw [List.mem_singleton.1 hy]; exact h1
        · rcases List.mem_append.1 hy with hy | hy
          · exact hb y hy t (by simp [ht])
          · rw [List.mem_singleton.1 hy]; exact hl1 t ht
      · -- s begins in x or at its end
        have hin : x.hi = [] ∨ ble s.lo x.hi = true := by
          by_cases hx : x.hi = []
          · exact .inl hx
          · right
            have : ¬ Op.bytesLess x.hi s.lo = true := fun h' => h1 ⟨hx, h'⟩
            simp [ble, this]
        by_cases h2 : xDT x.hi s.hi = true
        · have he := less_iff.1 h2
          have hx0 := he.1
          have hsx : ble s.lo x.hi = true := by rcases hin with h' | h'; exact absurd h' hx0; exact h'
          have hxlt := xBP hxe hx0
          have hnew : xAK ⟨x.lo, s.hi⟩ = false := by
            cases h' : xAK ⟨x.lo, s.hi⟩ with
            | false => rfl
            | true =>
              obtain ⟨g1, g2⟩ := empty_iff.1 h'
              rcases he.2 with h'' | h''
              · exact absurd h'' g1
              · have := xAl (xAa hxlt h'') g2
                rw [xAg] at this; cases this
          refine go (p ++ [⟨x.lo, s.hi⟩]) ⟨fun t ht => ?_, ?_⟩ (fun y hy t ht => ?_) (fun k => ?_) (by rw [xEd, if_neg h1, if_pos h2])
          · rcases List.mem_append.1 ht with ht | ht
            · exact h.ne t (by simp [ht])
            · rw [List.mem_singleton.1 ht]; exact hnew
          · refine List.pairwise_append.2 ⟨hpp, by simp, fun y hy t ht => ?_⟩
            rw [List.mem_singleton.1 ht]
            exact hpx y hy
          · rcases List.mem_append.1 hy with hy | hy
            · exact hb y (by simp [hy]) t (by simp [ht])
            · rw [List.mem_singleton.1 hy]; exact hb x (by simp) t (by simp [ht])
          · rw [inA, inA, Bool.or_assoc]
            congr 1
            rw [Bool.eq_iff_iff, Bool.or_eq_true, has_iff, has_iff, has_iff]
            simp only
            constructor
            · rintro ⟨g1, g2⟩
              cases hk : Op.bytesLess k x.hi with
              | true => exact .inl ⟨g1, .inr rfl⟩
              | false => exact .inr ⟨xA3 hsx (by simp [ble, hk]), g2⟩
            · rintro (⟨g1, g2⟩ | ⟨g1, g2⟩)
              · refine ⟨g1, ?_⟩
                rcases g2 with g2 | g2
                · exact absurd g2 hx0
                · rcases he.2 with h' | h'
                  · exact .inl h'
                  · exact .inr (xAa g2 h')
              · exact ⟨xA3 hxs g1, g2⟩
        · have hne2 : ¬ elt x.hi s.hi := fun h' => h2 (less_iff.2 h')
          refine go (p ++ [x]) h (fun y hy t ht => hb y hy t (by simp [ht])) (fun k => ?_) (by rw [xEd, if_neg h1, if_neg h2])
          have : hasL s k = true → hasL x k = true := by
            rw [has_iff, has_iff]
            rintro ⟨g1, g2⟩
            refine ⟨xA3 hxs g1, ?_⟩
            by_cases hx : x.hi = []
            · exact .inl hx
            · right
              rcases g2 with g2 | g2
              · exact absurd ⟨hx, .inl g2⟩ hne2
              · rcases xBi x.hi s.hi with h' | h' | h'
                · exact absurd ⟨hx, .inr h'⟩ hne2
                · rw [h']; exact g2
                · exact xAa g2 h'
          rw [inA]
          cases hs : hasL s k with
          | false => simp
          | true => rw [this hs]; simp
theorem xAr (l : List SpanL) : Nrm (xAS l) ∧ ∀ k, inL (xAS l) k = inL l k := by
  obtain ⟨h1, h2, h3⟩ := xGZ l
  obtain ⟨g1, g2⟩ := xGf (xKB l) [] ⟨by simp, by simp⟩ h1 h2 (by simp)
  refine ⟨g1, fun k => (g2 k).trans ?_⟩
  rw [show inL [] k = false from rfl, Bool.false_or, Bool.eq_iff_iff, inL_iff, inL_iff]
  constructor
  · rintro ⟨s, hs, hk⟩; exact ⟨s, ((h3 s).1 hs).1, hk⟩
  · rintro ⟨s, hs, hk⟩
    refine ⟨s, (h3 s).2 ⟨hs, ?_⟩, hk⟩
    cases he : xAK s with
    | false => rfl
    | true => rw [xAW he] at hk; cases hk
theorem xQd {l m : List SpanL} (hm : Lo m) (hp : m.Perm (l.filter (fun s => !xAK s))) : xMn m = xAS l := by
  have he : ∀ s ∈ m, xAK s = false := fun s hs => by have := hp.mem_iff.1 hs; simp at this; exact this.2
  obtain ⟨g1, g2⟩ := xGf m [] ⟨by simp, by simp⟩ hm he (by simp)
  obtain ⟨r1, r2⟩ := xAr l
  refine Nrm.ext g1 r1 (fun k => ?_)
  show inL (m.foldl xCd []) k = _
  rw [g2, r2, show inL [] k = false from rfl, Bool.false_or, Bool.eq_iff_iff, inL_iff, inL_iff]
  constructor
  · rintro ⟨s, hs, hk⟩
    have := hp.mem_iff.1 hs
    exact ⟨s, (List.mem_filter.1 this).1, hk⟩
  · rintro ⟨s, hs, hk⟩
    refine ⟨s, hp.mem_iff.2 (List.mem_filter.2 ⟨hs, ?_⟩), hk⟩
    cases he : xAK s with
    | false => rfl
    | true => rw [xAW he] at hk; cases hk
end Go.Pu
set_option linter.unusedVariables false
set_option linter.unusedSimpArgs false
namespace Go.Pu
instance : Inhabited SpanL := ⟨⟨[], []⟩⟩
section
variable {α : Type} [Inhabited α]
theorem gb {xs : List α} {i : Nat} {x : α} (h : xs[i]? = some x) : xs.toArray[i]! = x := by
  simp [h]
theorem xCK {xs : List α} {i j : Nat} {x y : α} (hx : xs[i]? = some x) (hy : xs[j]? = some y) : Sort.swp xs.toArray i j = ((xs.set i y).set j x).toArray := by
  unfold Sort.swp
  rw [gb hx, gb hy]
  simp
theorem xC3 (lt : α → α → Bool) (hi first root : Nat) (d : Array α) : (Sort.siftDown lt hi first root d).size = d.size := by
  fun_induction Sort.siftDown lt hi first root d <;> simp_all [Sort.size_swp]
theorem xFQ (lt : α → α → Bool) (hi first : Nat) : ∀ (k : Nat) (d : Array α), (Sort.heapBuild lt hi first k d).size = d.size
  | 0, d => rfl
  | k + 1, d => by rw [Sort.heapBuild, xFQ lt hi first k, xC3]
end
def ltS (a b : SpanL) : Bool := decide (xBr a.lo b.lo < 0)
theorem xNp (a b : SpanL) : ltS a b = Op.bytesLess a.lo b.lo := by
  rw [Bool.eq_iff_iff, ltS, decide_eq_true_eq, cmpStr_lt]
theorem xQu : Sort.SWO ltS where
  irrefl x := by rw [xNp, xAg]
  trans x y z h1 h2 := by rw [xNp] at *; exact xAa h1 h2
  ntrans x y z h1 h2 := by
    rw [xNp] at *
    have g1 : ble y.lo x.lo = true := by simp [ble, h1]
    have g2 : ble z.lo y.lo = true := by simp [ble, h2]
    have := xA3 g2 g1
    simpa [ble] using this
end Go.Pu
set_option linter.unusedVariables false
set_option linter.unusedSimpArgs false
namespace Go.Pu
section
variable {α : Type} [Inhabited α]
theorem xDi (lt : α → α → Bool) : ∀ (j : Nat) (d : Array α), (Sort.shiftDown lt j d).size = d.size
  | 0, d => rfl
  | j + 1, d => by
    rw [Sort.shiftDown]
    split
    · rfl
    · rw [xDi lt j, Sort.size_swp]
theorem xLF (lt : α → α → Bool) (b j : Nat) (d : Array α) : (Sort.shiftUp lt b j d).size = d.size := by
  fun_induction Sort.shiftUp lt b j d <;> simp_all [Sort.size_swp]
theorem xDG (lt : α → α → Bool) (a b : Nat) : ∀ (s i : Nat) (d : Array α), (Sort.partialIns lt a b s i d).1.size = d.size
  | 0, i, d => rfl
  | s + 1, i, d => by
    rw [Sort.partialIns]
    simp only
    split
    · rfl
    · split
      · rfl
      · rw [xDG lt a b s]
        split
        · rw [xLF]
          split
          · rw [xDi, Sort.size_swp]
          · rw [Sort.size_swp]
        · split
          · rw [xDi, Sort.size_swp]
          · rw [Sort.size_swp]
theorem xLS (lt : α → α → Bool) {d : Array α} {a b pivot : Nat} (h1 : a ≤ pivot) (h2 : pivot < b) (hb : b ≤ d.size) : a < (Sort.partitionEqual lt d a b pivot).1 ∧ (Sort.partitionEqual lt d a b pivot).1 ≤ b ∧ (Sort.partitionEqual lt d a b pivot).2.size = d.size := by
  obtain ⟨g1, g2, g3, _⟩ := Sort.partEqLoop_spec (lt := lt) a b (b - 1 + 1 - (a + 1)) (a + 1) (b - 1) (Sort.swp d a pivot) (Nat.le_refl _) (by omega) (by omega) (by omega) (by rw [Sort.size_swp]; exact hb) (fun t h h' => by omega) (fun t h h' => by omega)
  exact ⟨g1, g2, by have := g3.1; rw [Sort.size_swp] at this; exact this⟩
theorem xGD (lt : α → α → Bool) (a : Nat) : ∀ (j : Nat) (d : Array α), (Sort.insInner lt a j d).size = d.size
  | 0, d => rfl
  | j + 1, d => by
    rw [Sort.insInner]
    split
    · rw [xGD lt a j, Sort.size_swp]
    · rfl
theorem xKe (lt : α → α → Bool) (a b i : Nat) (d : Array α) : (Sort.insOuter lt a b i d).size = d.size := by
  fun_induction Sort.insOuter lt a b i d <;> simp_all [xGD]
theorem xHA (lt : α → α → Bool) (first : Nat) : ∀ (k : Nat) (d : Array α), (Sort.heapPop lt first k d).size = d.size
  | 0, d => rfl
  | k + 1, d => by rw [Sort.heapPop, xHA lt first k, xC3, Sort.size_swp]
theorem xKj (lt : α → α → Bool) (d : Array α) (a b : Nat) : (Sort.heapSort lt d a b).size = d.size := by
  unfold Sort.heapSort
  rw [xHA, xFQ]
theorem xHL (i j : Nat) (d : Array α) : (Sort.reverseLoop i j d).size = d.size := by
  fun_induction Sort.reverseLoop i j d <;> simp_all [Sort.size_swp]
theorem xLM (d : Array α) (a b : Nat) : (Sort.reverseRange d a b).size = d.size := xHL _ _ _
theorem xO8 (d : Array α) (a b : Nat) : (Sort.breakPatterns d a b).size = d.size := by
  unfold Sort.breakPatterns Sort.breakStep
  simp only
  split
  · simp [Sort.size_swp]
  · rfl
theorem xKK (lt : α → α → Bool) (a i j : Nat) (d : Array α) : (Sort.partLoop lt a i j d).2.size = d.size := by
  fun_induction Sort.partLoop lt a i j d <;> simp_all [Sort.size_swp]
theorem xH5 (lt : α → α → Bool) (a i j : Nat) (d : Array α) : (Sort.partEqLoop lt a i j d).2.size = d.size := by
  fun_induction Sort.partEqLoop lt a i j d <;> simp_all [Sort.size_swp]
theorem xDj (lt : α → α → Bool) (d : Array α) (a b p : Nat) : (Sort.partition lt d a b p).2.2.size = d.size := by
  unfold Sort.partition
  simp only
  split
  · simp [Sort.size_swp]
  · simp [Sort.size_swp, xKK]
theorem xDF (lt : α → α → Bool) (d : Array α) (a b p : Nat) : (Sort.partitionEqual lt d a b p).2.size = d.size := by
  unfold Sort.partitionEqual
  rw [xH5, Sort.size_swp]
end
end Go.Pu
set_option linter.unusedVariables false
set_option linter.unusedSimpArgs false
namespace Go.Pu
def ne (s : SpanL) : Bool := !xAK s
def delL (xs : List SpanL) : List SpanL := xs.filter ne ++ List.replicate (xs.length - (xs.filter ne).length) ⟨[], []⟩
def xB4 (xs : List SpanL) : Array SpanL := Sort.pdq ltS (delL xs).toArray 0 (xs.filter ne).length (Sort.bitsLen (xs.filter ne).length) true true
theorem xOB (xs : List SpanL) : (delL xs).length = xs.length := by
  have := List.length_filter_le ne xs
  simp [delL]; omega
theorem xLB (xs : List SpanL) : (xB4 xs).size = xs.length ∧ xMn ((xB4 xs).toList.take (xs.filter ne).length) = xAS xs := by
  have hk : (xs.filter ne).length ≤ (delL xs).toArray.size := by simp [delL]
  obtain ⟨h1, h2⟩ := Sort.pdq_sorts ltS xQu (delL xs).toArray 0 (xs.filter ne).length (Sort.bitsLen (xs.filter ne).length) true true (Nat.zero_le _) hk (.inl rfl)
  obtain ⟨g1, _, g3⟩ := h1
  have hs : (xB4 xs).size = xs.length := by unfold xB4; rw [g1]; simp [xOB]
  refine ⟨hs, xQd ?_ ?_⟩
  · refine List.pairwise_iff_getElem.2 fun i j hi hj hij => ?_
    simp only [List.length_take, Array.length_toList] at hi hj
    rw [List.getElem_take, List.getElem_take, Array.getElem_toList, Array.getElem_toList]
    have := h2 i j (Nat.zero_le _) hij (by omega)
    rw [xNp] at this
    have e1 : (xB4 xs)[i]! = (xB4 xs)[i] := getElem!_pos (xB4 xs) i (by omega)
    have e2 : (xB4 xs)[j]! = (xB4 xs)[j] := getElem!_pos (xB4 xs) j (by omega)
    have h3 : Op.bytesLess (xB4 xs)[j]!.lo (xB4 xs)[i]!.lo = false := this
    rw [e1, e2] at h3
    simp [ble, h3]
  · have : ((delL xs).toArray.extract 0 (xs.filter ne).length).toList = xs.filter ne := by simp [delL]
    rw [this] at g3
    have e : ((xB4 xs).extract 0 (xs.filter ne).length).toList = (xB4 xs).toList.take (xs.filter ne).length := by simp
    rw [← e]
    exact g3
end Go.Pu
set_option linter.unusedVariables false
namespace Go.Pu
theorem xFS : ∀ (l o : List SpanL), (l.foldl insS o).length ≤ o.length + l.length
  | [], o => by simp
  | s :: l, o => by
    rw [List.foldl_cons, List.length_cons]
    have h1 := xFS l (insS o s)
    have h2 := xKd o s
    omega
theorem xDE (l : List SpanL) : (xAS l).length ≤ l.length := by
  have h1 := xQc (xKB l)
  have h2 := xFS l []
  unfold xAS
  unfold xKB at *
  simp only [List.length_nil] at h2
  omega
theorem xSF (o : List SpanL) (s t : SpanL) (h : t ∈ xCd o s) : (∃ x ∈ o, x.lo = t.lo) ∨ t.lo = s.lo := by
  rcases List.eq_nil_or_concat o with rfl | ⟨o, x, rfl⟩
  · right
    have : t = s := by simpa [xCd] using h
    rw [this]
  · rw [List.concat_eq_append, xEd] at h
    split at h
    · rcases List.mem_append.1 h with h | h
      · exact .inl ⟨t, by simpa using h, rfl⟩
      · exact .inr (by rw [List.mem_singleton.1 h])
    · split at h
      · rcases List.mem_append.1 h with h | h
        · exact .inl ⟨t, by simp [h], rfl⟩
        · exact .inl ⟨x, by simp, by rw [List.mem_singleton.1 h]⟩
      · exact .inl ⟨t, by simpa using h, rfl⟩
theorem xNd : ∀ (l o : List SpanL) (t : SpanL), t ∈ l.foldl xCd o → (∃ x ∈ o, x.lo = t.lo) ∨ ∃ x ∈ l, x.lo = t.lo
  | [], o, t, h => .inl ⟨t, h, rfl⟩
  | s :: l, o, t, h => by
    rw [List.foldl_cons] at h
    rcases xNd l _ t h with ⟨x, hx, hxt⟩ | ⟨x, hx, hxt⟩
    · rcases xSF o s x hx with ⟨y, hy, hyx⟩ | h2
      · exact .inl ⟨y, hy, hyx.trans hxt⟩
      · exact .inr ⟨s, by simp, h2.symm.trans hxt⟩
    · exact .inr ⟨x, by simp [hx], hxt⟩
theorem xFv {l : List SpanL} {t : SpanL} (h : t ∈ xAS l) : ∃ x ∈ l, x.lo = t.lo ∧ xAK x = false := by
  rcases xNd _ _ t h with ⟨x, hx, _⟩ | ⟨x, hx, hxt⟩
  · exact absurd hx (by simp)
  · have := ((xGZ l).2.2 x).1 hx
    exact ⟨x, this.1, hxt, this.2⟩
theorem xSG (o : List SpanL) (s t : SpanL) (h : t ∈ xCd o s) : (∃ x ∈ o, x.hi = t.hi) ∨ t.hi = s.hi := by
  rcases List.eq_nil_or_concat o with rfl | ⟨o, x, rfl⟩
  · right
    have : t = s := by simpa [xCd] using h
    rw [this]
  · rw [List.concat_eq_append, xEd] at h
    split at h
    · rcases List.mem_append.1 h with h | h
      · exact .inl ⟨t, by simpa using h, rfl⟩
      · exact .inr (by rw [List.mem_singleton.1 h])
    · split at h
      · rcases List.mem_append.1 h with h | h
        · exact .inl ⟨t, by simp [h], rfl⟩
        · exact .inr (by rw [List.mem_singleton.1 h])
      · exact .inl ⟨t, by simpa using h, rfl⟩
theorem xNe : ∀ (l o : List SpanL) (t : SpanL), t ∈ l.foldl xCd o → (∃ x ∈ o, x.hi = t.hi) ∨ ∃ x ∈ l, x.hi = t.hi
  | [], o, t, h => .inl ⟨t, h, rfl⟩
  | s :: l, o, t, h => by
    rw [List.foldl_cons] at h
    rcases xNe l _ t h with ⟨x, hx, hxt⟩ | ⟨x, hx, hxt⟩
    · rcases xSG o s x hx with ⟨y, hy, hyx⟩ | h2
      · exact .inl ⟨y, hy, hyx.trans hxt⟩
      · exact .inr ⟨s, by simp, h2.symm.trans hxt⟩
    · exact .inr ⟨x, by simp [hx], hxt⟩
theorem xKE {l : List SpanL} {t : SpanL} (h : t ∈ xAS l) : ∃ x ∈ l, x.hi = t.hi := by
  rcases xNe _ _ t h with ⟨x, hx, _⟩ | ⟨x, hx, hxt⟩
  · exact absurd hx (by simp)
  · exact ⟨x, (((xGZ l).2.2 x).1 hx).1, hxt⟩
def xDM : Str → List SpanL → List SpanL → List SpanL
  | lo, [], out => out ++ [⟨lo, []⟩]
  | lo, s :: l, out => if s.hi = [] then (if s.lo = [] then out else out ++ [⟨lo, s.lo⟩]) else xDM s.hi l (if s.lo = [] then out else out ++ [⟨lo, s.lo⟩])
theorem xIh : ∀ (l : List SpanL) (lo : Str) (out : List SpanL), (xDM lo l out).length ≤ out.length + l.length + 1
  | [], lo, out => by simp [xDM]
  | s :: l, lo, out => by
    have h2 : (if s.lo = [] then out else out ++ [⟨lo, s.lo⟩]).length ≤ out.length + 1 := by split <;> simp
    rw [xDM, List.length_cons]
    generalize (if s.lo = [] then out else out ++ [(⟨lo, s.lo⟩ : SpanL)]) = o2 at *
    split
    · omega
    · have := xIh l s.hi o2
      omega
theorem xHa : ∀ (l : List SpanL) (lo : Str) (out : List SpanL) (t : SpanL), t ∈ xDM lo l out → t ∈ out ∨ t.lo = lo ∨ ∃ x ∈ l, x.hi = t.lo
  | [], lo, out, t, h => by
    rw [xDM] at h
    rcases List.mem_append.1 h with h | h
    · exact .inl h
    · exact .inr (.inl (by rw [List.mem_singleton.1 h]))
  | s :: l, lo, out, t, h => by
    have h2 : t ∈ (if s.lo = [] then out else out ++ [⟨lo, s.lo⟩]) → t ∈ out ∨ t.lo = lo := by
      split
      · exact .inl
      · intro h
        rcases List.mem_append.1 h with h | h
        · exact .inl h
        · exact .inr (by rw [List.mem_singleton.1 h])
    rw [xDM] at h
    generalize (if s.lo = [] then out else out ++ [(⟨lo, s.lo⟩ : SpanL)]) = o2 at *
    split at h
    · rcases h2 h with h | h
      · exact .inl h
      · exact .inr (.inl h)
    · rcases xHa l s.hi o2 t h with h | h | ⟨x, hx, hxt⟩
      · rcases h2 h with h | h
        · exact .inl h
        · exact .inr (.inl h)
      · exact .inr (.inr ⟨s, by simp, h.symm⟩)
      · exact .inr (.inr ⟨x, by simp [hx], hxt⟩)
def xCU (l m : List SpanL) : List SpanL := (xDM [] (xAS m) []).flatMap (fun g => l.map (xAd g))
def xBG (l m : List SpanL) : List SpanL := xAS (xCU l m)
theorem xDK (l m : List SpanL) : Nrm (xBG l m) := (xAr _).1
theorem xHc {α : Type} (f : α → List SpanL) (n : Nat) : ∀ (l : List α), (∀ a ∈ l, (f a).length ≤ n) → (l.flatMap f).length ≤ n * l.length
  | [], _ => by simp
  | a :: l, h => by
    rw [List.flatMap_cons, List.length_append, List.length_cons, Nat.mul_succ]
    have h1 := xHc f n l (fun b hb => h b (by simp [hb]))
    have h2 := h a (by simp)
    omega
theorem xLY (l m : List SpanL) : (xCU l m).length ≤ l.length * (m.length + 1) := by
  unfold xCU
  refine Nat.le_trans (xHc _ l.length _ (fun g _ => by simp)) (Nat.mul_le_mul_left _ ?_)
  have h1 := xIh (xAS m) [] []
  have h2 := xDE m
  simp only [List.length_nil] at h1
  omega
theorem xH9 : ∀ (a b : List Str), a.Nodup → (∀ x ∈ a, x ∈ b) → a.length ≤ b.length
  | [], b, _, _ => by simp
  | x :: a, b, hn, hs => by
    obtain ⟨h1, h2⟩ := List.nodup_cons.1 hn
    have h3 := xH9 a (b.erase x) h2 (fun y hy => by
      refine (List.mem_erase_of_ne ?_).2 (hs y (by simp [hy]))
      intro h; subst h; exact h1 hy)
    rw [List.length_erase_of_mem (hs x (by simp))] at h3
    have : 0 < b.length := List.length_pos_of_mem (hs x (by simp))
    rw [List.length_cons]
    omega
theorem xMk : ∀ {l : List SpanL}, Nrm l → (l.map SpanL.lo).Nodup
  | [], _ => by simp
  | s :: l, h => by
    rw [List.map_cons, List.nodup_cons]
    refine ⟨?_, xMk h.tail⟩
    intro hm
    obtain ⟨t, ht, hts⟩ := List.mem_map.1 hm
    obtain ⟨h1, h2⟩ := (List.pairwise_cons.1 h.pw).1 t ht
    have h3 := xAl (xBP (h.ne s (by simp)) h1) (ble_iff.2 (.inl h2))
    rw [hts, xAg] at h3
    cases h3
theorem xJd (a b : Str) : maxL a b = a ∨ maxL a b = b := by unfold maxL; split <;> simp
theorem xF3 (l m : List SpanL) : (xBG l m).length ≤ l.length + m.length := by
  have h := xH9 _ (l.map SpanL.lo ++ m.map SpanL.hi) (xMk (xDK l m)) ?_
  · simpa using h
  · intro x hx
    obtain ⟨t, ht, rfl⟩ := List.mem_map.1 hx
    obtain ⟨y, hy, hyt, hye⟩ := xFv ht
    rw [← hyt]
    obtain ⟨g, hg, hy⟩ := List.mem_flatMap.1 hy
    obtain ⟨s, hs, rfl⟩ := List.mem_map.1 hy
    have hm : (xAd g s).lo = maxL g.lo s.lo := by
      unfold xAd at hye ⊢
      split
      · next h => rw [if_pos h] at hye; exact absurd hye (by decide)
      · rfl
    rw [hm]
    have hsl : s.lo ∈ l.map SpanL.lo ++ m.map SpanL.hi := List.mem_append.2 (.inl (List.mem_map.2 ⟨s, hs, rfl⟩))
    rcases xHa _ _ _ g hg with h | h | ⟨z, hz, hzg⟩
    · cases h
    · rw [h]
      have : maxL [] s.lo = s.lo := by
        unfold maxL
        split
        · rfl
        · next h3 =>
          have h4 : ble s.lo [] = true := by simpa [ble] using h3
          rcases ble_iff.1 h4 with h5 | h5
          · rw [xCJ] at h5; cases h5
          · exact h5.symm
      rw [this]
      exact hsl
    · rcases xJd g.lo s.lo with h | h
      · rw [h, ← hzg]
        obtain ⟨w, hw, hwz⟩ := xKE hz
        exact List.mem_append.2 (.inr (List.mem_map.2 ⟨w, hw, hwz⟩))
      · rw [h]
        exact hsl
end Go.Pu
set_option linter.unusedVariables false
set_option linter.unusedSimpArgs false
namespace Go.Pu
structure MsgL where
  kind : Int
  key : Str
  val : Str
  sp : SpanL
  fr : Str
  to : Str
  n : Int
  deriving DecidableEq
def xAM (m : MsgL) : List SpanL :=
  if m.kind = 1 ∨ m.kind = 2 then [oneL m.key] else if m.kind = 4 then [xAH m.fr, xAH m.to] else if m.kind = 5 then [xAH m.to] else [m.sp]
def xBj (m : MsgL) : List SpanL := if m.kind = 4 ∨ m.kind = 5 then [xAH m.fr] else if m.kind = 6 then [m.sp] else []
def xBH (m : MsgL) : List SpanL := if m.kind = 6 then [] else xAM m
structure MsgOk (m : MsgL) : Prop where
  k : 1 ≤ m.kind ∧ m.kind ≤ 6
  ap : m.kind = 4 ∨ m.kind = 5 → xAG m.fr m.to = false ∧ xAG m.to m.fr = false
  ne : m.kind = 4 ∨ m.kind = 5 → m.fr ≠ [] ∧ m.to ≠ []
end Go.Pu
set_option linter.unusedVariables false
set_option linter.unusedSimpArgs false
namespace Go.Pu
end Go.Pu
set_option linter.unusedVariables false
set_option linter.unusedSimpArgs false
namespace Go.Pu
end Go.Pu
set_option linter.unusedVariables false
set_option linter.unusedSimpArgs false
namespace Go.Pu
def SpLen (n : Nat) (l : List SpanL) : Prop := ∀ s ∈ l, s.lo.length ≤ n ∧ s.hi.length ≤ n
theorem SpLen.mono {n m : Nat} (h : n ≤ m) {l : List SpanL} (hl : SpLen n l) : SpLen m l := fun s hs => ⟨Nat.le_trans (hl s hs).1 h, Nat.le_trans (hl s hs).2 h⟩
theorem SpLen.app {n : Nat} {a b : List SpanL} (ha : SpLen n a) (hb : SpLen n b) : SpLen n (a ++ b) := fun s hs => (List.mem_append.1 hs).elim (ha s) (hb s)
structure MsgLen (b : Nat) (m : MsgL) : Prop where
  key : m.key.length ≤ b
  lo : m.sp.lo.length ≤ b
  hi : m.sp.hi.length ≤ b
  fr : m.fr.length ≤ b
  to : m.to.length ≤ b
end Go.Pu
set_option linter.unusedVariables false
set_option linter.unusedSimpArgs false
namespace Go.Pu
structure RawM where
  a : Nat
  b : Nat
  c : Nat
  d : Nat
  e : Nat
  f : Nat
  deriving DecidableEq
def RawM.ok (r : RawM) : Prop := r.a < 256 ∧ r.b < 256 ∧ r.c < 256 ∧ r.d < 256 ∧ r.e < 256 ∧ r.f < 256
def paths5 : List Str := [[97, 47], [98, 47], [97, 47, 98, 47], [99, 47], [100, 47]]
def xDS (n : Nat) : Str := (paths5[n % 5]?).getD []
def ends5 : List Str := [[1], [2, 0, 0], [2, 0, 1], [2, 0, 2], [3, 120]]
def endM (n : Nat) : Str := (ends5[n % 5]?).getD []
def keyM (n : Nat) : Str := xDS (n % 4) ++ endM (n / 4)
def vals5 : List Str := [[], [120], [121, 121], [49, 50, 51, 52, 53, 54, 55, 56, 57, 48], [0, 255]]
def valM (n : Nat) : Str := (vals5[n % 5]?).getD []
theorem xC4 (n : Nat) : xDS n ∈ paths5 := by
  unfold xDS paths5
  have : n % 5 < 5 := Nat.mod_lt _ (by omega)
  generalize n % 5 = m at this
  match m, this with
  | 0, _ => simp
  | 1, _ => simp
  | 2, _ => simp
  | 3, _ => simp
  | 4, _ => simp
theorem xRL (n : Nat) : endM n ∈ ends5 := by
  unfold endM ends5
  have : n % 5 < 5 := Nat.mod_lt _ (by omega)
  generalize n % 5 = m at this
  match m, this with
  | 0, _ => simp
  | 1, _ => simp
  | 2, _ => simp
  | 3, _ => simp
  | 4, _ => simp
theorem xC5 {p : Str} (h : p ∈ paths5) : p.length ≤ 4 ∧ p ≠ [] := by
  have : ∀ p ∈ paths5, p.length ≤ 4 ∧ p ≠ [] := by decide
  exact this p h
theorem xKc (n : Nat) : (keyM n).length ≤ 7 := by
  have h1 := (xC5 (xC4 (n % 4))).1
  have h2 : ∀ p ∈ ends5, p.length ≤ 3 := by decide
  have h3 := h2 _ (xRL (n / 4))
  unfold keyM
  simp only [List.length_append]
  omega
end Go.Pu
set_option linter.unusedVariables false
set_option linter.unusedSimpArgs false
namespace Go.Pu
def covL (m : MsgL) (d : List SpanL) : Bool := (xBG (xAM m) d).length == 0
def nxtL (m : MsgL) (d : List SpanL) : List SpanL := xBG (d ++ xBH m) (xBj m)
def xBy : List MsgL → List SpanL → List MsgL
  | [], _ => []
  | m :: r, d => if covL m d = true then xBy r d else m :: xBy r (nxtL m d)
def xIr : List MsgL → List SpanL → List SpanL
  | [], d => d
  | m :: r, d => if covL m d = true then xIr r d else xIr r (nxtL m d)
def xDl (l : List MsgL) (dead : List SpanL) : List MsgL × List SpanL := ((xBy l.reverse (xAS dead)).reverse, xIr l.reverse (xAS dead))
def xCF (l : List MsgL) : List MsgL := (xDl l []).1
theorem xC6 (m : MsgL) : (xAM m).length ≤ 2 := by
  unfold xAM
  repeat' split
  all_goals simp
theorem xIV (m : MsgL) : (xBH m).length ≤ 2 := by unfold xBH; split; simp; exact xC6 m
theorem xFw (m : MsgL) : (xBj m).length ≤ 1 := by
  unfold xBj
  repeat' split
  all_goals simp
theorem xQb (m : MsgL) (d : List SpanL) : (nxtL m d).length ≤ d.length + 3 := by
  have h1 := xF3 (d ++ xBH m) (xBj m)
  have h2 := xIV m
  have h3 := xFw m
  unfold nxtL
  rw [List.length_append] at h1
  omega
structure MsgW (m : MsgL) : Prop extends MsgOk m where
  w : ∃ k, inL (xAM m) k = true
theorem xHZ : ∀ (r : List MsgL) (d : List SpanL), (xBy r d).Sublist r
  | [], d => by simp [xBy]
  | m :: r, d => by
    rw [xBy]
    split
    · exact (xHZ r d).cons m
    · exact (xHZ r _).cons_cons m
end Go.Pu
set_option linter.unusedVariables false
namespace Go.Pu
def xAI (t : List PairL) (k : Str) : Option PairL := t.find? (fun p => p.key == k)
theorem xAF (p : PairL) (t : List PairL) (k : Str) : xAI (p :: t) k = if p.key = k then some p else xAI t k := by
  unfold xAI
  rw [List.find?_cons]
  by_cases h : p.key = k
  · have : (p.key == k) = true := by simpa using h
    rw [if_pos h, this]
  · have : (p.key == k) = false := by simpa using h
    rw [if_neg h, this]
theorem xBa {t : List PairL} {k : Str} {p : PairL} (h : xAI t k = some p) : p.key = k := by
  have := List.find?_some h
  simpa using this
theorem findP_none {t : List PairL} {k : Str} : xAI t k = none ↔ ∀ p ∈ t, p.key ≠ k := by simp [xAI]
theorem Srt.tail {p : PairL} {t : List PairL} (h : Srt (p :: t)) : Srt t := (List.pairwise_cons.1 h).2
theorem Srt.head {p : PairL} {t : List PairL} (h : Srt (p :: t)) {x : PairL} (hx : x ∈ t) : Op.bytesLess p.key x.key = true := (List.pairwise_cons.1 h).1 x hx
theorem Srt.find {t : List PairL} (h : Srt t) {p : PairL} (hp : p ∈ t) : xAI t p.key = some p := by
  induction t with
  | nil => cases hp
  | cons x t ih =>
    rw [xAF]
    rcases List.mem_cons.1 hp with rfl | hp
    · rw [if_pos rfl]
    · rw [if_neg (xCw (h.head hp)), ih h.tail hp]
theorem Srt.below {p : PairL} {t : List PairL} (h : Srt (p :: t)) {k : Str} (hk : ble k p.key = true) : xAI t k = none := by
  refine findP_none.2 (fun x hx e => ?_)
  have h1 := xD8 hk (h.head hx)
  rw [e, xAg] at h1
  cases h1
theorem Srt.ext : ∀ {a b : List PairL}, Srt a → Srt b → (∀ k, xAI a k = xAI b k) → a = b
  | [], [], _, _, _ => rfl
  | [], y :: b, _, _, h => by
    have := h y.key
    rw [xAF, if_pos rfl] at this
    cases this
  | x :: a, [], _, _, h => by
    have := h x.key
    rw [xAF, if_pos rfl] at this
    cases this
  | x :: a, y :: b, ha, hb, h => by
    have hxy : x = y := by
      rcases xBi x.key y.key with h1 | h1 | h1
      · have h2 := h x.key
        rw [xAF, if_pos rfl, xAF, if_neg (fun e => xCw h1 e.symm), hb.below (ble_iff.2 (.inl h1))] at h2
        cases h2
      · have h2 := h x.key
        rw [xAF, if_pos rfl, xAF, if_pos h1.symm] at h2
        exact Option.some.inj h2
      · have h2 := h y.key
        rw [xAF, if_neg (fun e => xCw h1 e.symm), ha.below (ble_iff.2 (.inl h1)), xAF, if_pos rfl] at h2
        cases h2
    subst hxy
    rw [Srt.ext ha.tail hb.tail (fun k => ?_)]
    have h2 := h k
    by_cases hk : x.key = k
    · rw [ha.below (by rw [hk]; exact xCY k), hb.below (by rw [hk]; exact xCY k)]
    · rw [xAF, if_neg hk, xAF, if_neg hk] at h2
      exact h2
theorem xPZ : Srt [] := List.Pairwise.nil
def xAq : List PairL → List PairL → List PairL
  | [], b => b
  | x :: a, [] => x :: a
  | x :: a, y :: b => if Op.bytesLess x.key y.key = true then x :: xAq a (y :: b) else if x.key = y.key then y :: xAq a b else y :: xAq (x :: a) b
termination_by a b => a.length + b.length
theorem xCn (a : List PairL) : xAq a [] = a := by cases a <;> simp [xAq]
theorem xCT (b : List PairL) : xAq [] b = b := by simp [xAq]
theorem xCc (x y : PairL) (a b : List PairL) : xAq (x :: a) (y :: b) = if Op.bytesLess x.key y.key = true then x :: xAq a (y :: b) else if x.key = y.key then y :: xAq a b else y :: xAq (x :: a) b := by
  rw [xAq]
theorem xBt {z : PairL} : ∀ (a b : List PairL), z ∈ xAq a b → z ∈ a ∨ z ∈ b
  | [], b, h => by rw [xCT] at h; exact .inr h
  | x :: a, [], h => by rw [xCn] at h; exact .inl h
  | x :: a, y :: b, h => by
    rw [xCc] at h
    split at h
    · rcases List.mem_cons.1 h with rfl | h
      · exact .inl (by simp)
      · rcases xBt a (y :: b) h with h | h
        · exact .inl (by simp [h])
        · exact .inr h
    · split at h
      · rcases List.mem_cons.1 h with rfl | h
        · exact .inr (by simp)
        · rcases xBt a b h with h | h
          · exact .inl (by simp [h])
          · exact .inr (by simp [h])
      · rcases List.mem_cons.1 h with rfl | h
        · exact .inr (by simp)
        · rcases xBt (x :: a) b h with h | h
          · exact .inl h
          · exact .inr (by simp [h])
termination_by a b => a.length + b.length
theorem xAh : ∀ {a b : List PairL}, Srt a → Srt b → Srt (xAq a b)
  | [], b, _, h => by rw [xCT]; exact h
  | x :: a, [], h, _ => by rw [xCn]; exact h
  | x :: a, y :: b, ha, hb => by
    rw [xCc]
    split
    · next h =>
      refine List.pairwise_cons.2 ⟨fun z hz => ?_, xAh ha.tail hb⟩
      rcases xBt _ _ hz with hz | hz
      · exact ha.head hz
      · rcases List.mem_cons.1 hz with rfl | hz
        · exact h
        · exact xAa h (hb.head hz)
    · next h =>
      split
      · next h2 =>
        refine List.pairwise_cons.2 ⟨fun z hz => ?_, xAh ha.tail hb.tail⟩
        rcases xBt _ _ hz with hz | hz
        · rw [← h2]; exact ha.head hz
        · exact hb.head hz
      · next h2 =>
        have hyx : Op.bytesLess y.key x.key = true := by
          rcases xBi x.key y.key with h3 | h3 | h3
          · exact absurd h3 h
          · exact absurd h3 h2
          · exact h3
        refine List.pairwise_cons.2 ⟨fun z hz => ?_, xAh ha hb.tail⟩
        rcases xBt _ _ hz with hz | hz
        · rcases List.mem_cons.1 hz with rfl | hz
          · exact hyx
          · exact xAa hyx (ha.head hz)
        · exact hb.head hz
termination_by a b => a.length + b.length
theorem xAk (k : Str) : ∀ {a b : List PairL}, Srt a → Srt b → xAI (xAq a b) k = (xAI b k).or (xAI a k)
  | [], b, _, _ => by rw [xCT]; simp [xAI]
  | x :: a, [], _, _ => by rw [xCn]; simp [xAI]
  | x :: a, y :: b, ha, hb => by
    rw [xCc]
    split
    · next h =>
      rw [xAF, xAk k ha.tail hb, xAF x a]
      split
      · next h2 =>
        have : xAI (y :: b) k = none := by
          rw [xAF, if_neg (fun e => xCw h (h2.trans e.symm)), hb.below (by rw [← h2]; exact ble_iff.2 (.inl h))]
        rw [this]; rfl
      · rfl
    · next h =>
      split
      · next h2 =>
        rw [xAF, xAk k ha.tail hb.tail, xAF y b, xAF x a, h2]
        split
        · rfl
        · rfl
      · next h2 =>
        rw [xAF, xAk k ha hb.tail, xAF y b]
        split
        · rfl
        · rfl
termination_by a b => a.length + b.length
theorem xDp : ∀ (a b : List PairL), (xAq a b).length ≤ a.length + b.length
  | [], b => by rw [xCT]; simp
  | x :: a, [] => by rw [xCn]; simp
  | x :: a, y :: b => by
    rw [xCc]
    simp only [List.length_cons]
    split
    · have := xDp a (y :: b)
      simp only [List.length_cons] at this ⊢
      omega
    · split
      · have := xDp a b
        simp only [List.length_cons] at this ⊢
        omega
      · have := xDp (x :: a) b
        simp only [List.length_cons] at this ⊢
        omega
termination_by a b => a.length + b.length
theorem xBg {t : List PairL} (h : Srt t) (f : PairL → Bool) (k : Str) : xAI (t.filter f) k = (xAI t k).filter f := by
  induction t with
  | nil => rfl
  | cons x t ih =>
    rw [List.filter_cons, xAF]
    by_cases hk : x.key = k
    · rw [if_pos hk]
      split
      · next h2 => rw [xAF, if_pos hk, Option.filter, if_pos h2]
      · next h2 =>
        rw [ih h.tail, h.below (by rw [hk]; exact xCY k), Option.filter, Option.filter, if_neg h2]
    · rw [if_neg hk]
      split
      · rw [xAF, if_neg hk, ih h.tail]
      · rw [ih h.tail]
end Go.Pu
set_option linter.unusedVariables false
namespace Go.Pu
def lbN (t : List PairL) (k : Str) : Nat := (t.takeWhile (fun p => Op.bytesLess p.key k)).length
theorem xIT (p : PairL) (t : List PairL) (k : Str) : lbN (p :: t) k = if Op.bytesLess p.key k = true then lbN t k + 1 else 0 := by
  unfold lbN
  rw [List.takeWhile_cons]
  split <;> simp [*]
theorem xOu (k : Str) : ∀ t : List PairL, lbN t k ≤ t.length
  | [] => Nat.le_refl _
  | p :: t => by
    have := xOu k t
    rw [xIT, List.length_cons]
    split <;> omega
theorem xIS {t : List PairL} (h : Srt t) (k : Str) : ∀ {m : Nat} {p : PairL}, t[m]? = some p → (Op.bytesLess p.key k = true ↔ m < lbN t k) := by
  induction t with
  | nil => intro m p hp; simp at hp
  | cons x t ih =>
    intro m p hp
    rw [xIT]
    cases m with
    | zero =>
      obtain rfl : x = p := by simpa using hp
      split <;> simp [*]
    | succ m =>
      have hp' : t[m]? = some p := by simpa using hp
      split
      · rw [ih h.tail hp']; omega
      · next hx =>
        have hmem : p ∈ t := List.mem_of_getElem? hp'
        constructor
        · intro h2
          exact absurd (xAa (h.head hmem) h2) hx
        · intro h2; omega
theorem xNv {t : List PairL} (h : Srt t) (k : Str) : (match t[lbN t k]? with | some p => decide (p.key = k) | none => false) = (xAI t k).isSome := by
  induction t with
  | nil => simp [xAI]
  | cons x t ih =>
    rw [xIT, xAF]
    by_cases hx : Op.bytesLess x.key k = true
    · rw [if_pos hx, if_neg (xCw hx), List.getElem?_cons_succ]
      exact ih h.tail
    · rw [if_neg hx]
      simp only [List.getElem?_cons_zero]
      by_cases hk : x.key = k
      · rw [if_pos hk]; simp [hk]
      · rw [if_neg hk, h.below (by simpa [ble] using hx)]
        simp [hk]
theorem xVo {t : List PairL} (h : Srt t) {a b : Str} (hab : ble a b = true) : lbN t a ≤ lbN t b := by
  rcases Nat.lt_or_ge (lbN t b) (lbN t a) with h1 | h1
  · have h2 : lbN t b < t.length := Nat.lt_of_lt_of_le h1 (xOu a t)
    obtain ⟨p, hp⟩ : ∃ p, t[lbN t b]? = some p := ⟨_, List.getElem?_eq_getElem h2⟩
    have h3 := (xIS h a hp).2 h1
    have h4 := (xIS h b hp).1 (xAl h3 hab)
    omega
  · exact h1
def xAc (t : List PairL) (s : SpanL) : Nat × Nat := if xAK s = true then (0, 0) else (lbN t s.lo, if s.hi = [] then t.length else lbN t s.hi)
def xBc (t : List PairL) (s : SpanL) : List PairL := t.filter (fun p => hasL s p.key)
def xAy (t : List PairL) (s : SpanL) : List PairL := t.filter (fun p => !hasL s p.key)
theorem xI5 {t : List PairL} (h : Srt t) (s : SpanL) : (xAc t s).1 ≤ (xAc t s).2 ∧ (xAc t s).2 ≤ t.length := by
  unfold xAc
  split
  · simp
  · next he =>
    have he : xAK s = false := by simpa using he
    dsimp only
    split
    · exact ⟨xOu _ _, Nat.le_refl _⟩
    · next hh => exact ⟨xVo h (ble_iff.2 (.inl (xBP he hh))), xOu _ _⟩
theorem xHH {t : List PairL} (h : Srt t) (s : SpanL) : (∀ p ∈ t.take (xAc t s).1, hasL s p.key = false) ∧ (∀ p ∈ (t.drop (xAc t s).1).take ((xAc t s).2 - (xAc t s).1), hasL s p.key = true) ∧ ∀ p ∈ t.drop (xAc t s).2, hasL s p.key = false := by
  unfold xAc
  split
  · next he => refine ⟨by simp, by simp, fun p _ => xAW he p.key⟩
  · next he =>
    have he : xAK s = false := by simpa using he
    dsimp only
    refine ⟨?_, ?_, ?_⟩
    · intro p hp
      obtain ⟨m, hm⟩ := List.mem_iff_getElem?.1 hp
      rw [List.getElem?_take] at hm
      split at hm
      · next hml =>
        have h1 := (xIS h s.lo hm).2 hml
        simp [hasL, h1]
      · cases hm
    · intro p hp
      obtain ⟨m, hm⟩ := List.mem_iff_getElem?.1 hp
      have key : ∀ n : Nat, ((t.drop (lbN t s.lo)).take n)[m]? = some p → m < n ∧ t[lbN t s.lo + m]? = some p := by
        intro n hm
        rw [List.getElem?_take] at hm
        split at hm
        · next hml => rw [List.getElem?_drop] at hm; exact ⟨hml, hm⟩
        · cases hm
      obtain ⟨hml, hm⟩ := key _ hm
      have h1 : ¬ Op.bytesLess p.key s.lo = true := fun h2 => by have := (xIS h s.lo hm).1 h2; omega
      have h1' : Op.bytesLess p.key s.lo = false := by simpa using h1
      refine has_iff.2 ⟨by simp [ble, h1'], ?_⟩
      by_cases hh : s.hi = []
      · exact .inl hh
      · rw [if_neg hh] at hml
        exact .inr ((xIS h s.hi hm).2 (by omega))
    · intro p hp
      obtain ⟨m, hm⟩ := List.mem_iff_getElem?.1 hp
      rw [List.getElem?_drop] at hm
      by_cases hh : s.hi = []
      · rw [if_pos hh] at hm
        have := (List.getElem?_eq_some_iff.1 hm).1
        omega
      · rw [if_neg hh] at hm
        have h1 : ¬ Op.bytesLess p.key s.hi = true := fun h2 => by have := (xIS h s.hi hm).1 h2; omega
        have h1' : Op.bytesLess p.key s.hi = false := by simpa using h1
        have h2 : (s.hi == []) = false := by simpa using hh
        simp only [hasL, h1', h2, Bool.or_self, Bool.and_false]
theorem xHG {t : List PairL} (s : SpanL) (h : Srt t) : t = t.take (xAc t s).1 ++ ((t.drop (xAc t s).1).take ((xAc t s).2 - (xAc t s).1) ++ t.drop (xAc t s).2) := by
  obtain ⟨h1, h2⟩ := xI5 h s
  have e : t.drop (xAc t s).2 = (t.drop (xAc t s).1).drop ((xAc t s).2 - (xAc t s).1) := by
    rw [List.drop_drop]; congr 1; omega
  rw [e, List.take_append_drop, List.take_append_drop]
theorem xSg {t : List PairL} (h : Srt t) (s : SpanL) : (t.drop (xAc t s).1).take ((xAc t s).2 - (xAc t s).1) = xBc t s := by
  obtain ⟨h1, h2, h3⟩ := xHH h s
  have e := xHG s h
  generalize (xAc t s).1 = a at *
  generalize (xAc t s).2 = b at *
  unfold xBc
  conv => rhs; rw [e]
  rw [List.filter_append, List.filter_append, List.filter_eq_nil_iff.2 (fun p hp => by simp [h1 p hp]), List.filter_eq_self.2 h2, List.filter_eq_nil_iff.2 (fun p hp => by simp [h3 p hp])]
  simp
theorem xV4 {t : List PairL} (h : Srt t) (s : SpanL) : t.take (xAc t s).1 ++ t.drop (xAc t s).2 = xAy t s := by
  obtain ⟨h1, h2, h3⟩ := xHH h s
  have e := xHG s h
  generalize (xAc t s).1 = a at *
  generalize (xAc t s).2 = b at *
  unfold xAy
  conv => rhs; rw [e]
  rw [List.filter_append, List.filter_append, List.filter_eq_self.2 (fun p hp => by simp [h1 p hp]), List.filter_eq_nil_iff.2 (fun p hp => by simp [h2 p hp]), List.filter_eq_self.2 (fun p hp => by simp [h3 p hp])]
  simp
theorem xCk {t : List PairL} (h : Srt t) (s : SpanL) : Srt (xAy t s) := h.filter _
theorem drop_drop (t : List PairL) (s u : SpanL) : xAy (xAy t s) u = xAy (xAy t u) s := by
  unfold xAy
  rw [List.filter_filter, List.filter_filter]
  congr 1
  funext p
  rw [Bool.and_comm]
def mvP (f t : Str) (p : PairL) : PairL := ⟨t ++ p.key.drop f.length, p.val, p.stamp⟩
def srcL (t : List PairL) (f : Str) : List PairL := t.filter (fun p => xAG p.key f)
def xBd (t : List PairL) (f to : Str) : List PairL := (srcL t f).map (mvP f to)
theorem xG3 (t : List PairL) (f : Str) : xBc t (xAH f) = srcL t f := by
  unfold xBc srcL
  congr 1
  funext p
  rw [xAX]
theorem xDr {t : List PairL} {f : Str} {p : PairL} (h : p ∈ srcL t f) : xAG p.key f = true := (List.mem_filter.1 h).2
theorem xUr {t : List PairL} (h : Srt t) (f : Str) : Srt (srcL t f) := h.filter _
theorem xIC {t : List PairL} (h : Srt t) (f to : Str) : Srt (xBd t f to) := by
  unfold xBd Srt
  rw [List.pairwise_map]
  refine List.Pairwise.imp_of_mem ?_ (xUr h f)
  intro a b ha hb hab
  obtain ⟨r1, h1⟩ := begins_iff.1 (xDr ha)
  obtain ⟨r2, h2⟩ := begins_iff.1 (xDr hb)
  simp only [mvP]
  rw [h1, h2] at hab ⊢
  rw [xEv] at hab ⊢
  rw [List.drop_left, List.drop_left]
  exact hab
end Go.Pu
set_option linter.unusedVariables false
namespace Go.Pu
theorem xBz {p : PairL} {t : List PairL} (h : Srt t) (k : Str) : xAI (putL t p) k = if p.key = k then some p else xAI t k := by
  rw [xEg]
  induction t with
  | nil => rw [insL, xAF]
  | cons x t ih =>
    rw [insL]
    split
    · next hx =>
      rw [xAF, ih h.tail, xAF]
      by_cases hk : x.key = k
      · rw [if_pos hk, if_pos hk, if_neg (fun e => xCw hx (hk.trans e.symm))]
      · rw [if_neg hk, if_neg hk]
    · next hx =>
      rw [xAF]
      by_cases hk : p.key = k
      · rw [if_pos hk, if_pos hk]
      · rw [if_neg hk, if_neg hk, xBg h]
        cases hf : xAI (x :: t) k with
        | none => rfl
        | some y =>
          have := xBa hf
          rw [Option.filter_some, if_pos]
          simpa [this] using fun e => hk e.symm
theorem xQ0 {t : List PairL} (h : Srt t) {k : Str} (hf : (xAI t k).isSome = true) : ∃ p, t[lbN t k]? = some p ∧ xAI t k = some p ∧ p.key = k := by
  have h1 := xNv h k
  rw [hf] at h1
  cases hg : t[lbN t k]? with
  | none => rw [hg] at h1; cases h1
  | some p =>
    rw [hg] at h1
    have hk : p.key = k := by simpa using h1
    exact ⟨p, rfl, by rw [← hk]; exact h.find (List.mem_of_getElem? hg), hk⟩
theorem xLP {p : PairL} {t : List PairL} (h : Srt t) (hf : (xAI t p.key).isSome = true) : t.set (lbN t p.key) p = putL t p := by
  rw [xEg]
  induction t with
  | nil => cases hf
  | cons x t ih =>
    rw [xIT, insL]
    by_cases hx : Op.bytesLess x.key p.key = true
    · rw [if_pos hx, if_pos hx, List.set_cons_succ, ih h.tail]
      rw [xAF, if_neg (xCw hx)] at hf
      exact hf
    · rw [if_neg hx, if_neg hx, List.set_cons_zero]
      have hk : x.key = p.key := by
        rw [xAF] at hf
        by_cases hk : x.key = p.key
        · exact hk
        · rw [if_neg hk, h.below (by simpa [ble] using hx)] at hf
          cases hf
      have hne : ∀ y ∈ t, (!(y.key == p.key)) = true := fun y hy => by
        have := xCw (h.head hy)
        rw [hk] at this
        simpa using fun e => this e.symm
      rw [List.filter_cons, if_neg (by simp [hk]), List.filter_eq_self.2 hne]
theorem xQI {p : PairL} {t : List PairL} (h : Srt t) (hf : (xAI t p.key).isSome = false) : t.take (lbN t p.key) ++ p :: t.drop (lbN t p.key) = putL t p := by
  rw [xEg]
  induction t with
  | nil => simp [insL]
  | cons x t ih =>
    rw [xIT, insL]
    by_cases hx : Op.bytesLess x.key p.key = true
    · rw [if_pos hx, if_pos hx, List.take_succ_cons, List.drop_succ_cons, List.cons_append, ih h.tail]
      rw [xAF, if_neg (xCw hx)] at hf
      exact hf
    · rw [if_neg hx, if_neg hx, List.take_zero, List.drop_zero, List.nil_append]
      have h1 : xAI (x :: t) p.key = none := by simpa using hf
      have h2 := findP_none.1 h1
      rw [List.filter_eq_self.2 (fun y hy => by simpa using h2 y hy)]
def delT (t : List PairL) (k : Str) : List PairL := t.filter (fun p => !(p.key == k))
theorem xOA (t : List PairL) (k : Str) : xAy t (oneL k) = delT t k := by
  unfold xAy delT
  refine List.filter_congr (fun p _ => ?_)
  rw [xFb]
theorem xMu {t : List PairL} (h : Srt t) (k : Str) : Srt (delT t k) := h.filter _
theorem xRQ (t : List PairL) (k : Str) : (delT t k).length ≤ t.length := List.length_filter_le ..
theorem xGI {t : List PairL} (h : Srt t) (k x : Str) : xAI (delT t k) x = if k = x then none else xAI t x := by
  rw [delT, xBg h]
  cases hf : xAI t x with
  | none => simp
  | some p =>
    have := xBa hf
    subst this
    by_cases hk : k = p.key
    · simp [hk]
    · rw [if_neg hk, Option.filter_some, if_pos]
      simpa using fun e => hk e.symm
theorem xSh (b : List PairL) : ∀ {a : List PairL}, Srt a → Srt (b.foldl putL a) := by
  induction b with
  | nil => intro a h; exact h
  | cons x b ih => intro a h; exact ih (xBL h)
theorem xRI {b : List PairL} (hb : Srt b) : ∀ {a : List PairL}, Srt a → ∀ k, xAI (b.foldl putL a) k = (xAI b k).or (xAI a k) := by
  induction b with
  | nil => intro a _ k; simp [xAI]
  | cons x b ih =>
    intro a ha k
    rw [List.foldl_cons, ih hb.tail (xBL ha), xBz ha, xAF]
    by_cases hk : x.key = k
    · rw [if_pos hk, if_pos hk, hb.below (by rw [hk]; exact xCY k)]; rfl
    · rw [if_neg hk, if_neg hk]
theorem xGa {a b : List PairL} (ha : Srt a) (hb : Srt b) : b.foldl putL a = xAq a b :=
  Srt.ext (xSh b ha) (xAh ha hb) (fun k => by rw [xRI hb ha, xAk k ha hb])
end Go.Pu
set_option linter.unusedVariables false
set_option linter.unusedSimpArgs false
namespace Go.Pu
structure FolL where
  key : Str
  known : Bool
  has : Bool
  val : Str
  std : Bool
  st : Int
  deriving DecidableEq
structure FoundL where
  known : Bool
  has : Bool
  pair : PairL
  key : Str
  std : Bool
  st : Int
  deriving DecidableEq
end Go.Pu
set_option linter.unusedVariables false
set_option linter.unusedSimpArgs false
namespace Go.Pu
def xB2 (m : MsgL) (p : PairL) : PairL := if hasL m.sp p.key = true then { p with stamp := m.n } else p
def xC2 (t : List PairL) (m : MsgL) : List PairL := xAq (xAy t (xAH m.to)) (xBd t m.fr m.to)
def xAu (t : List PairL) (m : MsgL) : List PairL :=
  if m.kind = 1 then putL t ⟨m.key, m.val, m.n⟩ else
  if m.kind = 2 then delT t m.key else
  if m.kind = 3 then xAy t m.sp else
  if m.kind = 6 then t.map (xB2 m) else
  if m.kind = 4 then xAy (xC2 t m) (xAH m.fr) else xC2 t m
def allT (t : List PairL) (l : List MsgL) : List PairL := l.foldl xAu t
theorem xGY (m : MsgL) (p : PairL) : (xB2 m p).key = p.key := by unfold xB2; split <;> rfl
theorem xVf {g : PairL → PairL} (hg : ∀ p, (g p).key = p.key) {t : List PairL} (h : Srt t) : Srt (t.map g) := by
  unfold Srt at *
  rw [List.pairwise_map]
  exact h.imp fun {a b} hab => by rw [hg, hg]; exact hab
theorem xGP {t : List PairL} (h : Srt t) (m : MsgL) : Srt (xC2 t m) := xAh (xCk h _) (xIC h _ _)
theorem xAs {t : List PairL} (h : Srt t) (m : MsgL) : Srt (xAu t m) := by
  unfold xAu
  repeat' split
  · exact xBL h
  · exact xMu h _
  · exact xCk h _
  · exact xVf (xGY m) h
  · exact xCk (xGP h m) _
  · exact xGP h m
theorem xBK : ∀ (l : List MsgL) {t : List PairL}, Srt t → Srt (allT t l)
  | [], t, h => h
  | m :: l, t, h => xBK l (xAs h m)
end Go.Pu
set_option linter.unusedVariables false
set_option linter.unusedSimpArgs false
namespace Go.Pu
end Go.Pu
set_option linter.unusedVariables false
set_option linter.unusedSimpArgs false
namespace Go.Pu
end Go.Pu
set_option linter.unusedVariables false
set_option linter.unusedSimpArgs false
namespace Go.Pu
theorem xES (t : List PairL) (a b : List MsgL) : allT t (a ++ b) = allT (allT t a) b := List.foldl_append
def inT (t : List PairL) (d : List SpanL) : List PairL := t.filter fun p => inL d p.key
end Go.Pu
set_option linter.unusedVariables false
set_option linter.unusedSimpArgs false
namespace Go.Pu
end Go.Pu
set_option linter.unusedVariables false
set_option linter.unusedSimpArgs false
namespace Go.Pu
def xA2 (m : MsgL) : Bool := m.kind == 3 || m.kind == 6
def tch (a b : SpanL) : Bool := !xAK (xAd a b)
def xBU (m : MsgL) : List SpanL := xBj m ++ xAM m
def xBk (m : MsgL) (s : SpanL) : List MsgL :=
  if xA2 m = true then (if xAK (xAd m.sp s) = true then [] else [{ m with sp := xAd m.sp s }]) else if (xAM m).any (fun x => tch x s) = true then [m] else []
structure WayL where
  go : List MsgL
  stay : List MsgL
  blk : List SpanL
end Go.Pu
set_option linter.unusedVariables false
set_option linter.unusedSimpArgs false
namespace Go.Pu
def Apart (p q : MsgL) : Prop := ∀ k, inL (xBU p) k = true → inL (xBU q) k = false
theorem Apart.symm {p q : MsgL} (h : Apart p q) : Apart q p := fun k hk => by
  cases hw : inL (xBU p) k with
  | false => rfl
  | true => have := h k hw; rw [hk] at this; cases this
structure InvR (s : SpanL) (t : List PairL) (pre : List MsgL) (w : WayL) : Prop where
  eff : allT (allT t w.go) w.stay = allT t pre
  go : ∀ p ∈ w.go, MsgOk p ∧ ∀ k, inL (xBU p) k = true → hasL s k = true
  st : ∀ q ∈ w.stay, MsgOk q ∧ ∀ k, inL (xBU q) k = true → hasL s k = true → inL w.blk k = true
structure InvF (s : SpanL) (t : List PairL) (pre : List MsgL) (w : WayL) : Prop where
  eff : allT (inT t [s]) w.go = inT (allT t pre) [s]
  st : ∀ q ∈ w.stay, xBk q s = []
  blk : ∀ k, inL w.blk k = true → hasL s k = false
end Go.Pu
set_option linter.unusedVariables false
set_option linter.unusedSimpArgs false
namespace Go.Pu
def noSp : SpanL := ⟨[], []⟩
def spOk (s : SpanL) : Prop := xAK s = false ∧ s.lo.length ≤ 65535 ∧ s.hi.length ≤ 65535
structure MsgV (m : MsgL) : Prop where
  put : m.kind = 1 → 1 ≤ m.key.length ∧ m.key.length ≤ 65535 ∧ m.val.length ≤ 64 ∧ 0 ≤ m.n ∧ m.n ≤ 1000000000 ∧ m = ⟨1, m.key, m.val, noSp, [], [], m.n⟩
  del : m.kind = 2 → 1 ≤ m.key.length ∧ m.key.length ≤ 65535 ∧ m = ⟨2, m.key, [], noSp, [], [], 0⟩
  drop : m.kind = 3 → spOk m.sp ∧ m = ⟨3, [], [], m.sp, [], [], 0⟩
  mv : m.kind = 4 ∨ m.kind = 5 → 1 ≤ m.fr.length ∧ m.fr.length ≤ 200 ∧ 1 ≤ m.to.length ∧ m.to.length ≤ 200 ∧ xAG m.fr m.to = false ∧ xAG m.to m.fr = false ∧ m = ⟨m.kind, [], [], noSp, m.fr, m.to, 0⟩
  stamp : m.kind = 6 → spOk m.sp ∧ 0 ≤ m.n ∧ m.n ≤ 1000000000 ∧ m = ⟨6, [], [], m.sp, [], [], m.n⟩
theorem xPL (n : Nat) : (valM n).length ≤ 10 := by
  have h : n % 5 < 5 := Nat.mod_lt _ (by decide)
  unfold valM
  generalize n % 5 = m at h
  have : ∀ m, m < 5 → ((vals5[m]?).getD []).length ≤ 10 := by decide
  exact this m h
end Go.Pu
set_option linter.unusedVariables false
set_option linter.unusedSimpArgs false
namespace Go.Pu
def putD (q : PairL) : MsgL := ⟨1, q.key, q.val, ⟨[], []⟩, [], [], q.stamp⟩
def delD (k : Str) : MsgL := ⟨2, k, [], ⟨[], []⟩, [], [], 0⟩
def xAt : List PairL → List PairL → List MsgL
  | [], b => b.map putD
  | x :: a, [] => delD x.key :: xAt a []
  | x :: a, y :: b => if Op.bytesLess x.key y.key = true then delD x.key :: xAt a (y :: b) else if x.key = y.key then (if x = y then xAt a b else putD y :: xAt a b) else putD y :: xAt (x :: a) b
termination_by a b => a.length + b.length
theorem xCt (b : List PairL) : xAt [] b = b.map putD := by rw [xAt]
theorem xFO (y : PairL) (b : List PairL) : xAt [] (y :: b) = putD y :: xAt [] b := by rw [xCt, xCt]; rfl
theorem xDk (x : PairL) (a : List PairL) : xAt (x :: a) [] = delD x.key :: xAt a [] := by rw [xAt]
theorem xE8 (x y : PairL) (a b : List PairL) : xAt (x :: a) (y :: b) = if Op.bytesLess x.key y.key = true then delD x.key :: xAt a (y :: b) else if x.key = y.key then (if x = y then xAt a b else putD y :: xAt a b) else putD y :: xAt (x :: a) b := by rw [xAt]
theorem xF5 : ∀ a : List PairL, xAt a [] = a.map fun p => delD p.key
  | [] => by rw [xCt]; rfl
  | x :: a => by rw [xDk, xF5 a]; rfl
def oneD (a b : List PairL) (k : Str) : Option MsgL :=
  match xAI b k with
  | none => some (delD k)
  | some q => if xAI a k = some q then none else some ⟨1, k, q.val, ⟨[], []⟩, [], [], q.stamp⟩
def refD (a b : List PairL) : List MsgL := (xAq a b).filterMap fun z => oneD a b z.key
theorem xH7 {x : PairL} {a b : List PairL} {k : Str} (h : Op.bytesLess x.key k = true) : oneD (x :: a) b k = oneD a b k := by
  unfold oneD
  rw [xAF, if_neg (xCw h)]
theorem xGc {y : PairL} {a b : List PairL} {k : Str} (h : Op.bytesLess y.key k = true) : oneD a (y :: b) k = oneD a b k := by
  unfold oneD
  rw [xAF, if_neg (xCw h)]
theorem xMg {a b : List PairL} {y : PairL} (h : xAI b y.key = some y) (h2 : xAI a y.key ≠ some y) : oneD a b y.key = some (putD y) := by
  unfold oneD
  rw [h]
  simp only [if_neg h2]
  rfl
theorem xMi {a b : List PairL} {k : Str} (h : xAI b k = none) : oneD a b k = some (delD k) := by
  unfold oneD
  rw [h]
theorem xRC {x : PairL} {a b : List PairL} (ha : Srt (x :: a)) (hb : ∀ y ∈ b, Op.bytesLess x.key y.key = true) {z : PairL} (hz : z ∈ xAq a b) : Op.bytesLess x.key z.key = true :=
  (xBt a b hz).elim (fun h => ha.head h) (hb z)
theorem xEP {α β : Type} {f g : α → Option β} : ∀ {l : List α}, (∀ x ∈ l, f x = g x) → l.filterMap f = l.filterMap g
  | [], _ => rfl
  | x :: l, h => by rw [List.filterMap_cons, List.filterMap_cons, h x (by simp), xEP fun y hy => h y (by simp [hy])]
theorem xBw : ∀ (a b : List PairL), Srt a → Srt b → xAt a b = refD a b
  | [], [], _, _ => by rw [xCt]; unfold refD; rw [xCT]; rfl
  | [], y :: b, ha, hb => by
    have ih := xBw [] b xPZ hb.tail
    rw [xFO, ih]
    unfold refD
    rw [xCT, xCT, List.filterMap_cons, xMg (by rw [xAF, if_pos rfl]) (by simp [xAI])]
    simp only [List.cons.injEq, true_and]
    exact xEP fun z hz => (xGc (hb.head hz)).symm
  | x :: a, [], ha, hb => by
    have ih := xBw a [] ha.tail xPZ
    rw [xDk, ih]
    unfold refD
    rw [xCn, xCn, List.filterMap_cons, xMi (by rfl)]
    simp only [List.cons.injEq, true_and]
    exact xEP fun z hz => (xH7 (ha.head hz)).symm
  | x :: a, y :: b, ha, hb => by
    rw [xE8]
    unfold refD
    rw [xCc]
    by_cases h1 : Op.bytesLess x.key y.key = true
    · rw [if_pos h1, if_pos h1, xBw a (y :: b) ha.tail hb, List.filterMap_cons, xMi (hb.below (ble_iff.2 (.inl h1)) |> fun h => by rw [xAF, if_neg (fun e => xCw h1 e.symm)]; exact h)]
      simp only [List.cons.injEq, true_and]
      exact xEP fun z hz => (xH7 (xRC ha (fun w hw => by
        rcases List.mem_cons.1 hw with rfl | hw
        · exact h1
        · exact xAa h1 (hb.head hw)) hz)).symm
    · rw [if_neg h1, if_neg h1]
      by_cases h2 : x.key = y.key
      · have hfa : xAI (x :: a) y.key = some x := by rw [xAF, if_pos h2]
        have hfb : xAI (y :: b) y.key = some y := by rw [xAF, if_pos rfl]
        have hr : ∀ z ∈ xAq a b, oneD (x :: a) (y :: b) z.key = oneD a b z.key := fun z hz => by
          have h3 := xRC (x := x) ha (fun w hw => by rw [h2]; exact hb.head hw) hz
          rw [xH7 h3, xGc (by rw [← h2]; exact h3)]
        rw [if_pos h2, if_pos h2, List.filterMap_cons]
        by_cases h3 : x = y
        · subst h3
          have e : oneD (x :: a) (x :: b) x.key = none := by unfold oneD; rw [hfb]; simp only [hfa, if_true]
          rw [if_pos rfl, e, xBw a b ha.tail hb.tail]
          exact xEP fun z hz => (hr z hz).symm
        · rw [if_neg h3, xMg hfb (by rw [hfa]; intro e; exact h3 (Option.some.inj e)), xBw a b ha.tail hb.tail]
          simp only [List.cons.injEq, true_and]
          exact xEP fun z hz => (hr z hz).symm
      · have h4 : Op.bytesLess y.key x.key = true := by
          rcases xBi x.key y.key with h | h | h
          · exact absurd h h1
          · exact absurd h h2
          · exact h
        have hfa : xAI (x :: a) y.key = none := by
          rw [xAF, if_neg h2]
          exact ha.below (ble_iff.2 (.inl h4))
        rw [if_neg h2, if_neg h2, List.filterMap_cons, xMg (by rw [xAF, if_pos rfl]) (by rw [hfa]; intro e; cases e), xBw (x :: a) b ha hb.tail]
        simp only [List.cons.injEq, true_and]
        exact xEP fun z hz => (xGc ((xBt (x :: a) b hz).elim (fun h => by
          rcases List.mem_cons.1 h with rfl | h
          · exact h4
          · exact xAa h4 (ha.head h)) fun h => hb.head h)).symm
termination_by a b => a.length + b.length
theorem xD4 (a b : List PairL) (k : Str) : ∀ (u : List PairL) {t : List PairL}, Srt u → Srt t →
    xAI (allT t (u.filterMap fun z => oneD a b z.key)) k = if (xAI u k).isSome = true then (match xAI b k with | none => none | some q => if xAI a k = some q then xAI t k else some ⟨k, q.val, q.stamp⟩) else xAI t k
  | [], t, _, _ => rfl
  | z :: u, t, hu, ht => by
    rw [List.filterMap_cons, xAF]
    by_cases hk : z.key = k
    · subst hk
      have hn : xAI u z.key = none := hu.below (ble_iff.2 (.inr rfl))
      rw [if_pos rfl]
      simp only [Option.isSome_some, if_true]
      cases hb : xAI b z.key with
      | none =>
        rw [xMi hb]
        show xAI (allT (xAu t (delD z.key)) _) z.key = none
        rw [xD4 a b z.key u hu.tail (xAs ht _), hn]
        simp only [Option.isSome_none, Bool.false_eq_true, if_false]
        show xAI (delT t z.key) z.key = none
        rw [xGI ht, if_pos rfl]
      | some q =>
        by_cases ha : xAI a z.key = some q
        · have e : oneD a b z.key = none := by unfold oneD; rw [hb]; simp only [if_pos ha]
          rw [e]
          simp only [if_pos ha]
          rw [xD4 a b z.key u hu.tail ht, hn]
          simp
        · have e : oneD a b z.key = some ⟨1, z.key, q.val, ⟨[], []⟩, [], [], q.stamp⟩ := by unfold oneD; rw [hb]; simp only [if_neg ha]
          rw [e]
          simp only [if_neg ha]
          show xAI (allT (xAu t ⟨1, z.key, q.val, ⟨[], []⟩, [], [], q.stamp⟩) _) z.key = _
          rw [xD4 a b z.key u hu.tail (xAs ht _), hn]
          simp only [Option.isSome_none, Bool.false_eq_true, if_false]
          show xAI (putL t ⟨z.key, q.val, q.stamp⟩) z.key = _
          rw [xBz ht, if_pos rfl]
    · rw [if_neg hk]
      have key : ∀ m, oneD a b z.key = some m → xAI (xAu t m) k = xAI t k := fun m hm => by
        unfold oneD at hm
        split at hm
        · cases hm
          show xAI (delT t z.key) k = _
          rw [xGI ht, if_neg hk]
        · split at hm
          · cases hm
          · cases hm
            show xAI (putL t ⟨z.key, _, _⟩) k = _
            rw [xBz ht, if_neg hk]
      cases ho : oneD a b z.key with
      | none => exact xD4 a b k u hu.tail ht
      | some m =>
        show xAI (allT (xAu t m) _) k = _
        rw [xD4 a b k u hu.tail (xAs ht m), key m ho]
theorem xJt {a b : List PairL} (ha : Srt a) (hb : Srt b) : allT a (xAt a b) = b := by
  rw [xBw a b ha hb]
  refine Srt.ext (xBK _ ha) hb fun k => ?_
  unfold refD
  rw [xD4 a b k _ (xAh ha hb) ha, xAk k ha hb]
  cases hk : xAI b k with
  | none =>
    cases hq : xAI a k <;> simp
  | some q =>
    have hqk := xBa hk
    simp only [Option.some_or, Option.isSome_some, if_true]
    split
    · assumption
    · subst hqk; rfl
theorem xRP {a b : List PairL} (ha : Srt a) (hb : Srt b) : xAt a b = [] ↔ a = b := by
  constructor
  · intro h
    have := xJt ha hb
    rw [h] at this
    exact this
  · rintro rfl
    rw [xBw a a ha ha]
    unfold refD
    rw [List.filterMap_eq_nil_iff]
    intro z hz
    have hf : ∃ q, xAI a z.key = some q := by
      rcases xBt a a hz with h | h <;> exact ⟨z, ha.find h⟩
    obtain ⟨q, hq⟩ := hf
    unfold oneD
    rw [hq]
    simp only [if_true]
theorem xMh {a b : List PairL} {k : Str} {m : MsgL} (h : oneD a b k = some m) : m.key = k ∧ (m.kind = 1 ∨ m.kind = 2) ∧ (m.kind = 1 → xAI a k ≠ some ⟨m.key, m.val, m.n⟩) ∧ MsgOk m := by
  unfold oneD at h
  split at h
  · cases h
    exact ⟨rfl, .inr rfl, fun h => absurd h (by simp [delD]), ⟨by simp [delD], fun h => absurd h (by simp [delD]), fun h => absurd h (by simp [delD])⟩⟩
  · rename_i q hq
    split at h
    · cases h
    · rename_i hn
      cases h
      refine ⟨rfl, .inl rfl, fun _ => ?_, ⟨by simp, fun h => absurd h (by simp), fun h => absurd h (by simp)⟩⟩
      have hk := xBa hq
      intro e
      subst hk
      exact hn e
theorem xTb {a b : List PairL} (ha : Srt a) (hb : Srt b) {m : MsgL} (h : m ∈ xAt a b) : (m.kind = 1 ∨ m.kind = 2) ∧ (m.kind = 1 → ∀ p ∈ a, p ≠ ⟨m.key, m.val, m.n⟩) ∧ MsgOk m := by
  rw [xBw a b ha hb] at h
  obtain ⟨z, hz, ho⟩ := List.mem_filterMap.1 h
  obtain ⟨h1, h2, h3, h4⟩ := xMh ho
  refine ⟨h2, fun hk p hp e => ?_, h4⟩
  have hpk : p.key = z.key := by rw [e]; exact h1
  have := ha.find hp
  rw [hpk, e] at this
  exact h3 hk this
theorem xMt {a b : List PairL} (ha : Srt a) (hb : Srt b) : (xAt a b).Pairwise fun x y => Op.bytesLess x.key y.key = true := by
  rw [xBw a b ha hb]
  unfold refD
  rw [List.pairwise_filterMap]
  refine (xAh ha hb).imp ?_
  intro x y hxy m hm n hn
  rw [(xMh hm).1, (xMh hn).1]
  exact hxy
theorem xF4 : ∀ (a b : List PairL), (xAt a b).length ≤ a.length + b.length
  | [], b => by rw [xCt]; simp
  | x :: a, [] => by rw [xF5]; simp
  | x :: a, y :: b => by
    rw [xE8]
    have h1 := xF4 a (y :: b)
    have h2 := xF4 a b
    have h3 := xF4 (x :: a) b
    simp only [List.length_cons] at *
    split
    · simp only [List.length_cons]; omega
    · split
      · split
        · omega
        · simp only [List.length_cons]; omega
      · simp only [List.length_cons]; omega
termination_by a b => a.length + b.length
end Go.Pu
set_option linter.unusedVariables false
set_option linter.unusedSimpArgs false
namespace Go.Pu
def xK9 (h : BitVec 64) (x : UInt8) : BitVec 64 := (h ^^^ BitVec.ofNat 64 x.toNat) * 1099511628211#64
def xJx (l : List UInt8) : BitVec 64 := l.foldl xK9 14695981039346656037#64
theorem xQi {a b : BitVec 64} (h : a * 1099511628211#64 = b * 1099511628211#64) : a = b := by
  have e : (1099511628211#64 * 14886173955864302971#64 : BitVec 64) = 1#64 := by decide
  have h2 := congrArg (· * 14886173955864302971#64) h
  simp only [BitVec.mul_assoc, e, BitVec.mul_one] at h2
  exact h2
theorem xUW {a b c : BitVec 64} (h : a ^^^ c = b ^^^ c) : a = b := by
  have := congrArg (· ^^^ c) h
  simpa [BitVec.xor_assoc] using this
theorem xSE {a b : BitVec 64} {x : UInt8} (h : xK9 a x = xK9 b x) : a = b := xUW (xQi h)
theorem xPX {a : BitVec 64} {x y : UInt8} (h : xK9 a x = xK9 a y) : x = y := by
  have h1 := xQi h
  have h2 : BitVec.ofNat 64 x.toNat = BitVec.ofNat 64 y.toNat := by
    have := congrArg (a ^^^ ·) h1
    simpa [← BitVec.xor_assoc] using this
  have h3 := congrArg BitVec.toNat h2
  simp only [BitVec.toNat_ofNat] at h3
  have := x.toNat_lt
  have := y.toNat_lt
  exact UInt8.toNat_inj.1 (by omega)
theorem xN3 : ∀ (l : List UInt8) {a b : BitVec 64}, l.foldl xK9 a = l.foldl xK9 b → a = b
  | [], _, _, h => h
  | x :: l, _, _, h => xSE (xN3 l h)
theorem xRm {p s : List UInt8} {x y : UInt8} (h : x ≠ y) : xJx (p ++ x :: s) ≠ xJx (p ++ y :: s) := by
  intro e
  unfold xJx at e
  rw [List.foldl_append, List.foldl_append, List.foldl_cons, List.foldl_cons] at e
  exact h (xPX (xN3 s e))
def numB (n : Nat) : Nat → List UInt8
  | 0 => []
  | w + 1 => UInt8.ofNat (n / 2 ^ (8 * w)) :: numB n w
def serP (p : PairL) : List UInt8 := numB p.key.length 4 ++ p.key ++ numB p.val.length 4 ++ p.val ++ numB p.stamp.toNat 8
def serT (t : List PairL) : List UInt8 := numB t.length 4 ++ t.flatMap serP
def xBb (t : List PairL) : Int := ((xJx (serT t)).toNat : Int)
theorem xPv {t : List PairL} {i : Nat} {p q : PairL} (h : t[i]? = some p) : serT (t.set i q) = numB t.length 4 ++ (t.take i).flatMap serP ++ serP q ++ (t.drop (i + 1)).flatMap serP := by
  have hi : i < t.length := (List.getElem?_eq_some_iff.1 h).1
  have e : t.set i q = t.take i ++ q :: t.drop (i + 1) := List.set_eq_take_append_cons_drop.trans (by rw [if_pos hi])
  unfold serT
  rw [e, List.flatMap_append, List.flatMap_cons]
  simp only [List.length_append, List.length_take, List.length_cons, List.length_drop, List.append_assoc]
  congr 2
  omega
theorem xSS {t : List PairL} {i : Nat} {p : PairL} (h : t[i]? = some p) : serT t = numB t.length 4 ++ (t.take i).flatMap serP ++ serP p ++ (t.drop (i + 1)).flatMap serP := by
  have := xPv (q := p) h
  have e : t.set i p = t := by
    apply List.ext_getElem? 
    intro j
    rw [List.getElem?_set]
    split
    · rename_i hij; subst hij
      have hi : i < t.length := (List.getElem?_eq_some_iff.1 h).1
      rw [if_pos hi, h]
    · rfl
  rw [e] at this
  exact this
theorem xJs {t : List PairL} {i : Nat} {p q : PairL} (h : t[i]? = some p) {a b : List UInt8} {x y : UInt8} (hx : serP p = a ++ x :: b) (hy : serP q = a ++ y :: b) (hne : x ≠ y) : xBb (t.set i q) ≠ xBb t := by
  unfold xBb
  rw [xPv h, xSS h, hx, hy]
  intro e
  have e2 := BitVec.toNat_inj.1 (Int.ofNat.inj e)
  simp only [List.append_assoc, List.cons_append] at e2
  rw [← List.append_assoc (numB t.length 4), ← List.append_assoc (numB t.length 4 ++ _), ← List.append_assoc (numB t.length 4), ← List.append_assoc (numB t.length 4 ++ _)] at e2
  exact xRm (Ne.symm hne) e2
end Go.Pu
set_option linter.unusedVariables false
set_option linter.unusedSimpArgs false
namespace Go.Pu
structure EpL where
  id : Int
  par : Int
  root : Int
  name : Str
  ms : List MsgL
def xGq (E : List EpL) (id : Int) : Option EpL := E.find? fun e => e.id == id
def idxI (E : List EpL) (id : Int) : Int := if E.any (fun e => e.id == id) = true then (E.findIdx (fun e => e.id == id) : Nat) else -1
theorem xTT {E : List EpL} {id : Int} (h : xGq E id = none) : idxI E id = -1 := by
  unfold idxI
  rw [if_neg]
  unfold xGq at h
  rw [List.find?_eq_none] at h
  simpa using h
theorem idx_some {E : List EpL} {id : Int} {e : EpL} (h : xGq E id = some e) : ∃ i : Nat, idxI E id = (i : Int) ∧ E[i]? = some e := by
  have ha : E.any (fun e => e.id == id) = true := List.any_eq_true.2 ⟨e, List.mem_of_find?_eq_some h, by have := List.find?_some h; exact this⟩
  refine ⟨E.findIdx (fun e => e.id == id), by unfold idxI; rw [if_pos ha], ?_⟩
  unfold xGq at h
  rw [← h, List.find?_eq_getElem?_findIdx]
def xFL (E : List EpL) (id : Int) : Bool := (xGq E id).isSome || id == 0
def xGV (E : List EpL) : Int → List EpL → Prop
  | id, [] => xGq E id = none
  | id, e :: L => xGq E id = some e ∧ xGV E e.par L
theorem xDz {E : List EpL} : ∀ {L : List EpL} {id : Int}, xGV E id L → xGq E id = L.head?
  | [], _, h => h
  | _ :: _, _, h => h.1
def colL (a : Int) : List EpL → List (List MsgL)
  | [] => []
  | e :: L => if e.id = a then [] else e.ms :: colL a L
def hitL (a : Int) (L : List EpL) : Bool := L.any fun e => e.id == a
def xGS (E : List EpL) (ms : List MsgL) (a b : Int) (L : List EpL) : List MsgL × Int :=
  if (xFL E a && xFL E b) = false then ([], 160) else if (a == 0 || hitL a L) = false then ([], 170) else
    (xCF (((if b = 0 then [ms] else []) ++ colL a L).reverse.flatten), 0)
def xFm (ks : List Int) : List EpL → Int
  | [] => 0
  | e :: L => if ks.contains e.id = true then e.id else xFm ks L
def xIy (E : List EpL) (a b : Int) (La Lb : List EpL) : Int × Int := if (xFL E a && xFL E b) = false then (0, 160) else (xFm (La.map EpL.id) Lb, 0)
theorem xRd (a : Int) : ∀ L : List EpL, (colL a L).length ≤ L.length
  | [] => Nat.le_refl _
  | e :: L => by
    unfold colL
    split
    · simp
    · have := xRd a L; simp; omega
end Go.Pu
