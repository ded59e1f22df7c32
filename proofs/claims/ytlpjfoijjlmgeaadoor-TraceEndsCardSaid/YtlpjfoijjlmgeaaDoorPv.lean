/- Pv -/
import Derived.Test.YtlpjfoijjlmgeaaDoorPu
set_option linter.unusedVariables false
set_option linter.unusedSimpArgs false
namespace Go.Pu
theorem xIP {l : List SpanL} (h : Nrm l) : xAO l = l := Nrm.ext (xAa l).1 h (xAa l).2
theorem xQG {s : Str} : xAO [⟨s, []⟩] = [⟨s, []⟩] := by
  refine xIP ⟨fun t ht => ?_, by simp⟩
  rw [List.mem_singleton.1 ht]
  rfl
theorem xPg {s : Str} : xAp ⟨s, []⟩ [].reverse = [⟨s, []⟩] := xQG
def xFr : MsgL := ⟨3, [], [], ⟨[], []⟩, [], [], 0⟩
def putM (s : Str) (n : Int) : MsgL := ⟨1, s, [118], ⟨[], []⟩, [], [], n⟩
theorem xMh : MsgOk xFr := ⟨by decide, by intro h; exact absurd h (by decide), by intro h; exact absurd h (by decide)⟩
theorem xO1 : MsgLen 8 xFr := ⟨by decide, by decide, by decide, by decide, by decide⟩
theorem xSC (s : Str) (n : Int) : MsgOk (putM s n) := ⟨by simp [putM], by intro h; exact absurd h (by simp [putM]), by intro h; exact absurd h (by simp [putM])⟩
theorem xP1 {s : Str} (h : s.length ≤ 60) (n : Int) : MsgLen 60 (putM s n) := ⟨h, by simp [putM], by simp [putM], by simp [putM], by simp [putM]⟩
theorem xQf (s : Str) : keyL s [] = ⟨false, false, ⟨s, [], 0⟩, s, false, 0⟩ := rfl
theorem xQg (s : Str) (l : List MsgL) : keyL s (l ++ [xFr]) = ⟨true, false, xHA, [], false, 0⟩ := by
  unfold keyL
  rw [List.reverse_append, List.reverse_singleton, List.singleton_append, xAv rfl]
  have h : xAe (fol0 s) xFr = { fol0 s with known := true } := by
    unfold xAe
    simp [xFr, fol0, hasL]
    exact xBs _
  rw [h, xAP rfl]
  rfl
theorem xSi (s : Str) (n : Int) (l : List MsgL) : keyL s (l ++ [putM s n]) = ⟨true, true, ⟨s, [118], n⟩, [], false, 0⟩ := by
  unfold keyL
  rw [List.reverse_append, List.reverse_singleton, List.singleton_append, xAv rfl]
  have h : xAe (fol0 s) (putM s n) = ⟨s, true, true, [118], true, n⟩ := by
    unfold xAe
    simp [putM, fol0, xBZ]
  rw [h, xAP rfl]
  rfl
theorem xSU {l : List SpanL} (h : Nrm l) (hk : ∀ k, inL l k = false) : l = [] := Nrm.ext h ⟨(fun s hs => by cases hs), List.Pairwise.nil⟩ fun k => by rw [hk]; rfl
theorem xM0 {l : List MsgL} (h : ∀ m ∈ l, MsgOk m) (s : SpanL) : xAp s (l ++ [xFr]).reverse = [] := by
  refine xSU (xGw _ _) fun k => ?_
  rw [Bool.eq_false_iff]
  intro hk
  rw [xBc s (fun m hm => by
    rcases List.mem_append.1 (List.mem_reverse.1 hm) with hm | hm
    · exact h m hm
    · rw [List.mem_singleton.1 hm]; exact xMh)] at hk
  obtain ⟨x, _, hx⟩ := hk
  rw [List.reverse_append, List.reverse_singleton, List.singleton_append] at hx
  have : bkL xFr x = none := by
    unfold bkL
    simp [xFr, hasL]
    exact xBs _
  unfold bksL at hx
  rw [this] at hx
  cases hx
theorem xSh {l : List MsgL} (h : ∀ m ∈ l, MsgOk m) (s : SpanL) {k : Str} (hf : (keyL k l).known = false) (hk : hasL s k = true) : inL (xAp s l.reverse) (keyL k l).key = true := by
  rw [xHX] at hf
  cases hx : bksL l.reverse k with
  | none => rw [hx] at hf; cases hf
  | some x =>
    rw [(xLV hx).1, xBc s fun m hm => h m (List.mem_reverse.1 hm)]
    exact ⟨k, hk, hx⟩
theorem xQe {l : List MsgL} (h : ∀ m ∈ l, MsgOk m) (s : SpanL) {k : Str} (hf : (keyL k l).known = false) (hk : hasL s k = false) (hc : (l.any fun m => m.kind == 5) = false) : inL (xAp s l.reverse) (keyL k l).key = false := by
  rw [xHX] at hf
  cases hx : bksL l.reverse k with
  | none => rw [hx] at hf; cases hf
  | some x =>
    rw [(xLV hx).1, Bool.eq_false_iff]
    intro hin
    rw [xBc s fun m hm => h m (List.mem_reverse.1 hm)] at hin
    obtain ⟨y, hy, hyx⟩ := hin
    have := xPO (r := l.reverse) (fun m hm => h m (List.mem_reverse.1 hm)) (fun m hm h5 => by
      have := List.any_eq_false.1 hc m (List.mem_reverse.1 hm)
      simp [h5] at this) hyx hx
    rw [this, hk] at hy
    cases hy
theorem xK9 {a b : List MsgL} (ha : ∀ m ∈ a, MsgOk m) (hb : ∀ m ∈ b, MsgOk m) (s : SpanL) : xAp s (a ++ b).reverse = xAO ((xAp s b.reverse).flatMap fun x => xAp x a.reverse) := by
  refine Nrm.ext (xGw _ _) (xAa _).1 fun k => ?_
  rw [(xAa _).2, Bool.eq_iff_iff, xBc s (fun m hm => by
    rcases List.mem_append.1 (List.mem_reverse.1 hm) with hm | hm
    · exact ha m hm
    · exact hb m hm)]
  have hra : ∀ m ∈ a.reverse, MsgOk m := fun m hm => ha m (List.mem_reverse.1 hm)
  have hrb : ∀ m ∈ b.reverse, MsgOk m := fun m hm => hb m (List.mem_reverse.1 hm)
  unfold inL
  rw [List.any_eq_true, List.reverse_append]
  constructor
  · rintro ⟨x, hx, hk⟩
    rw [xIu] at hk
    cases hy : bksL b.reverse x with
    | none => rw [hy] at hk; cases hk
    | some y =>
      rw [hy] at hk
      have h1 := (xBc s hrb y).2 ⟨x, hx, hy⟩
      obtain ⟨u, hu, huy⟩ := List.any_eq_true.1 h1
      have h2 := (xBc u hra k).2 ⟨y, huy, hk⟩
      obtain ⟨v, hv, hvk⟩ := List.any_eq_true.1 h2
      exact ⟨v, List.mem_flatMap.2 ⟨u, hu, hv⟩, hvk⟩
  · rintro ⟨v, hv, hvk⟩
    obtain ⟨u, hu, hv⟩ := List.mem_flatMap.1 hv
    obtain ⟨y, hy, hyk⟩ := (xBc u hra k).1 (List.any_eq_true.2 ⟨v, hv, hvk⟩)
    obtain ⟨x, hx, hxy⟩ := (xBc s hrb y).1 (List.any_eq_true.2 ⟨u, hu, hy⟩)
    refine ⟨x, hx, ?_⟩
    rw [xIu, hxy]
    exact hyk
end Go.Pu
