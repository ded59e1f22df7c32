/- Hb -/
import Derived.Test.YtlpjfoijjlmgeaaDoorHa
import Derived.Test.YtlpjfoijjlmgeaaDoorSc
import Derived.Test.YtlpjfoijjlmgeaaDoorVD
import Derived.Test.YtlpjfoijjlmgeaaDoorPu
open Go.V Go.Pu
set_option linter.unusedVariables false
set_option linter.unusedSimpArgs false
set_option maxRecDepth 20000
namespace Go.Proofs
def vc33 := vcm Tryd.prog 33
theorem vf33 : VF Tryd.prog 33 = some (7, vc33, [.tmp 3]) := by kernel_rfl
def vc39 := vcm Tryd.prog 39
theorem vf39 : VF Tryd.prog 39 = some (33, vc39, [.cell true 2 6]) := by kernel_rfl
def vc65 := vcm Tryd.prog 65
theorem vf65 : VF Tryd.prog 65 = some (36, vc65, [.cell true 2 6]) := by kernel_rfl
def vc40 := vcm Tryd.prog 40
theorem vf40 : VF Tryd.prog 40 = some (74, vc40, [.tmp 4]) := by kernel_rfl
def vc19 := vcm Tryd.prog 19
theorem vf19 : VF Tryd.prog 19 = some (24, vc19, [.tmp 4]) := by kernel_rfl
def vc23 := vcm Tryd.prog 23
theorem vf23 : VF Tryd.prog 23 = some (16, vc23, [.tmp 2]) := by kernel_rfl
theorem xPR {k p : Str} (h : xAD k p = true) (hp : p ≠ []) : k ≠ [] := by
  rintro rfl
  obtain ⟨r, hr⟩ := begins_iff.1 h
  cases p with
  | nil => exact hp rfl
  | cons c p => simp at hr
theorem xKw {s : SpanL} {to fr : Str} (hto : to ≠ []) (hs : xAD s.lo to = true) (h1 : s.lo.length ≤ 1000000) (h2 : s.hi.length ≤ 1000000) (h3 : to.length ≤ 1000000) (h4 : fr.length ≤ 1000000) : VC Tryd.prog 39 [.agg (encS s), .str to, .str fr] [] (.agg (encS (xAu to fr s))) [] := by
  have hp := xG5 fr (by omega)
  have m1 := xJO s.lo to fr (by omega) (by omega) (by omega)
  have m2 := xJO s.hi to fr (by omega) (by omega) (by omega)
  unfold xCu at m1 m2
  rw [if_pos hs] at m1
  have e : xAu to fr s = ⟨fr ++ s.lo.drop to.length, if xAD s.hi to = true then fr ++ s.hi.drop to.length else upL fr⟩ := by
    unfold xAu
    congr 1
    cases hb : xAD s.hi to with
    | true => rw [if_pos ⟨rfl, xPR hb hto⟩, if_pos rfl]
    | false => rw [if_neg (by simp), if_neg (by simp)]
  rw [e]
  cases hb : xAD s.hi to with
  | true =>
    rw [hb, if_pos rfl] at m2
    rw [if_pos rfl]
    refine vcs vf39 ?_
    repeat first|refine sgo ?_|refine cv0 hp ?_|refine cv0 m1 ?_|refine cv0 m2 ?_|refine sop ?_
    refine cndt ?_
    repeat first|refine sgo ?_|refine sop ?_
    exact xAC ⟨.inr rfl, oAny rfl⟩
  | false =>
    rw [hb, if_neg (by simp)] at m2
    rw [if_neg (by simp)]
    refine vcs vf39 ?_
    repeat first|refine sgo ?_|refine cv0 hp ?_|refine cv0 m1 ?_|refine cv0 m2 ?_|refine sop ?_
    refine cndf (xAA ?_)
    repeat first|refine sgo ?_|refine sop ?_
    exact xAC ⟨.inr rfl, oAny rfl⟩
theorem xIQ {s : SpanL} {f t : Str} (hs : f.length ≤ s.lo.length) (h1 : s.lo.length ≤ 1000000) (h2 : s.hi.length ≤ 1000000) (h3 : f.length ≤ 1000000) (h4 : t.length ≤ 1000000) : VC Tryd.prog 65 [.agg (encS s), .str f, .str t] [] (.agg (encS (xAu f t s))) [] := by
  have hp := xCh t (by omega)
  have hb := xDU s.hi f (by omega) (by omega)
  unfold xAu
  generalize hbe : xAD s.hi f = b at *
  cases b with
  | true =>
    have hlen : f.length ≤ s.hi.length := by obtain ⟨r, hr⟩ := begins_iff.1 hbe; rw [hr]; simp
    cases hn : (!(s.hi == [])) with
    | true =>
      rw [if_pos ⟨rfl, by simpa using hn⟩]
      refine vcs vf65 ?_
      repeat first|refine sgo ?_|refine cv0 hp ?_|refine o_v0 (vslD f.length hs) ?_|refine cv0 hb ?_|refine sop ?_
      refine cndt ?_
      repeat first|refine sgo ?_|refine o_v0 (vslD f.length hlen) ?_|refine sop ?_
      exact xAC ⟨.inr rfl, oAny rfl⟩
    | false =>
      rw [if_neg (by intro h; exact h.2 (by simpa using hn))]
      refine vcs vf65 ?_
      repeat first|refine sgo ?_|refine cv0 hp ?_|refine o_v0 (vslD f.length hs) ?_|refine cv0 hb ?_|refine sop ?_
      refine cndf (xAA ?_)
      repeat first|refine sgo ?_|refine sop ?_
      exact xAC ⟨.inr rfl, oAny rfl⟩
  | false =>
    rw [if_neg (by simp)]
    refine vcs vf65 ?_
    repeat first|refine sgo ?_|refine cv0 hp ?_|refine o_v0 (vslD f.length hs) ?_|refine cv0 hb ?_|refine sop ?_
    refine cndf (xAA ?_)
    repeat first|refine sgo ?_|refine sop ?_
    exact xAC ⟨.inr rfl, oAny rfl⟩
theorem xPG {l : List MsgL} (hl : l.length ≤ 1000) : VC Tryd.prog 23 [.sh false (l.map encM)] [] (.bool (l.any fun m => m.kind == 5)) [] := by
  have hml : (l.map encM).length = l.length := List.length_map _
  refine vcs vf23 ?_
  repeat first|refine sgo ?_|refine sop ?_
  refine xAH (fun (g : Nat) => [(0, .sh false (l.map encM)), (3, .int .i64 g)]) (fun g => []) (fun g => l.length - g)
    (fun g => g ≤ l.length ∧ (l.take g).any (fun m => m.kind == 5) = false) 0 xAT ⟨Nat.zero_le _, rfl⟩ ?_
  rintro i ⟨hi, hv⟩
  (try dsimp only at hi hv ⊢)
  repeat first|refine sgo ?_|refine sop ?_
  refine cnd (fun h => xAA ?_) (fun h => xAF ?_)
  · have hlt : i < l.length := by have h' := of_decide_eq_true h; omega
    obtain ⟨x, hx⟩ : ∃ m, l[i]? = some m := ⟨_, List.getElem?_eq_getElem hlt⟩
    have hxe := gm (enc := encM) (n := (i : Int)) hx (by omega)
    repeat first|refine sgo ?_|refine sop ?_
    refine cnd (fun h2 => ?_) (fun h2 => xAA ?_)
    · repeat first|refine sgo ?_|refine sop ?_
      have h2 : (x.kind == 5) = true := h2
      have e : (l.any fun m => m.kind == 5) = true := List.any_eq_true.2 ⟨x, List.mem_of_getElem? hx, h2⟩
      rw [e]
      exact xAC ⟨.inr rfl, oAny rfl⟩
    · repeat first|refine sgo ?_|refine sop ?_
      have h2 : (x.kind == 5) = false := h2
      refine agn (Q := fun _ _ => True) (i + 1) ⟨by omega, ?_⟩ xAT
      rw [List.take_add_one, hx, List.any_append, hv]
      simp [h2]
  · have hge : i = l.length := by have h' := of_decide_eq_false h; omega
    subst hge
    rw [List.take_length] at hv
    rw [hv]
    repeat first|refine sgo ?_|refine sop ?_
    exact xAC ⟨.inr rfl, oAny rfl⟩
theorem xKe {m : MsgL} {l : List SpanL} {i : Nat} {x : SpanL} (hx : l[i]? = some x) : inTo m (l.take (i + 1)) = inTo m (l.take i) ++ if xAJ (xAg x (xAE m.to)) = true then [] else [xAg x (xAE m.to)] := by
  unfold inTo
  rw [List.take_add_one, hx, Option.toList_some, List.map_append, List.filter_append]
  congr 1
  cases h : xAJ (xAg x (xAE m.to)) <;> simp [h]
theorem xHI {x : SpanL} {to : Str} (h : xAJ (xAg x (xAE to)) = false) : xAD (xAg x (xAE to)).lo to = true := by
  have := xDN h
  rw [xCK, Bool.and_eq_true, xAZ] at this
  exact this.2
theorem xGY (m : MsgL) (l : List SpanL) : (inTo m l).length ≤ l.length := by
  unfold inTo
  exact Nat.le_trans (List.length_filter_le ..) (by simp)
set_option maxHeartbeats 4000000 in
theorem xPu {l : List SpanL} {m : MsgL} (ho : MsgOk m) (h8 : MsgLen 8 m) (hl : l.length ≤ 190) (hs : SpLen 100000 l) : VC Tryd.prog 40 [.sh false (l.map encS), .agg (encM m)] [] (.sh false ((xBV l m).map encS)) [] := by
  have hml : (l.map encS).length = l.length := List.length_map _
  have hk := ho.k
  have hne := ho.ne
  have hkl := h8.key
  have hfl := h8.fr
  have htl := h8.to
  have o1 := xLE m.key (by omega)
  have p1 := xCh m.to (by omega)
  have p2 := xCh m.fr (by omega)
  have ps1 := xBw (n := 100000) (p := m.to) (by omega)
  have r1 := xG1 (q := .sh false (l.map encS)) (p := .sh false ([oneL m.key].map encS)) (l := l) (m := [oneL m.key]) Sl.sh Sl.sh (by omega) (by simp)
  rw [← xHH] at r1
  have r3 := xG1 (q := .sh false (l.map encS)) (p := .sh false ([m.sp].map encS)) (l := l) (m := [m.sp]) Sl.sh Sl.sh (by omega) (by simp)
  rw [← xHH] at r3
  have r4 := xG1 (q := .sh false (l.map encS)) (p := .sh false ((xBL m).map encS)) (l := l) (m := xBL m) Sl.sh Sl.sh (by omega) (by unfold xBL; split <;> simp)
  rw [← xHH] at r4
  have hgl : (xAl l (xBL m)).length ≤ 400 := by
    have := xD8 l (xBL m)
    have h2 : (xBL m).length ≤ 2 := by unfold xBL; split <;> simp
    omega
  have htot : (xAl l (xBL m) ++ (inTo m l).map (xAu m.to m.fr)).length ≤ 1000 := by
    have := xGY m l
    rw [List.length_append, List.length_map]; omega
  have hn := xEP (q := .sh false ((xAl l (xBL m) ++ (inTo m l).map (xAu m.to m.fr)).map encS)) (l := xAl l (xBL m) ++ (inTo m l).map (xAu m.to m.fr)) Sl.sh (by omega)
  have hstep := fun i x hx => xKe (m := m) (l := l) (i := i) (x := x) hx
  have hit := fun i => xGY m (l.take i)
  have hfin : (m.kind = 4 ∨ m.kind = 5) → xBV l m = xAO (xAl l (xBL m) ++ (inTo m l).map (xAu m.to m.fr)) := fun h => by
    unfold xBV
    rw [if_neg (by omega), if_neg (by omega), if_neg (by omega)]
  have hg4 : m.kind = 4 → xBL m = [xAE m.to, xAE m.fr] := fun h => by unfold xBL; rw [if_pos h]
  have hg5 : m.kind = 5 → xBL m = [xAE m.to] := fun h => by unfold xBL; rw [if_neg (by omega)]
  by_cases h12 : m.kind = 1 ∨ m.kind = 2
  · have e : xBV l m = xAl l [oneL m.key] := by unfold xBV; rw [if_pos h12]
    rw [e]
    clear hfin hg4 hg5 hstep hit hn htot r4 hgl
    refine xF1 ?_
    obtain ⟨k, m2, m3, m4, m5, m6, m7⟩ := m
    simp only at *
    rcases h12 with rfl | rfl
    · refine vcs vf40 ?_
      repeat first|refine sgo ?_|refine sop ?_
      refine cndt (xAA ?_)
      refine cndt ?_
      repeat first|refine sgo ?_|refine cv0 o1 ?_|refine cv r1 ?_|refine sop ?_
      exact xAC ⟨.inr rfl, oOwn rfl⟩
    · refine vcs vf40 ?_
      repeat first|refine sgo ?_|refine sop ?_
      refine cndf ?_
      repeat first|refine sgo ?_|refine sop ?_
      refine cndt ?_
      repeat first|refine sgo ?_|refine cv0 o1 ?_|refine cv r1 ?_|refine sop ?_
      exact xAC ⟨.inr rfl, oOwn rfl⟩
  by_cases h3 : m.kind = 3
  · have e : xBV l m = xAl l [m.sp] := by unfold xBV; rw [if_neg h12, if_pos h3]
    rw [e]
    clear hfin hg4 hg5 hstep hit hn htot r4 hgl
    refine xF1 ?_
    obtain ⟨k, m2, m3, m4, m5, m6, m7⟩ := m
    simp only at *
    subst h3
    refine vcs vf40 ?_
    repeat first|refine sgo ?_|refine sop ?_
    refine cndf ?_
    repeat first|refine sgo ?_|refine sop ?_
    refine cndf ?_
    repeat first|refine sgo ?_|refine sop ?_
    refine cndt ?_
    repeat first|refine sgo ?_|refine cv r3 ?_|refine sop ?_
    exact xAC ⟨.inr rfl, oOwn rfl⟩
  by_cases h6 : m.kind = 6
  · have e : xBV l m = l := by unfold xBV; rw [if_neg h12, if_neg h3, if_pos h6]
    rw [e]
    clear hfin hg4 hg5 hstep hit hn htot r4 hgl
    obtain ⟨k, m2, m3, m4, m5, m6, m7⟩ := m
    simp only at *
    subst h6
    refine vcs vf40 ?_
    repeat first|refine sgo ?_|refine sop ?_
    refine cndf ?_
    repeat first|refine sgo ?_|refine sop ?_
    refine cndf ?_
    repeat first|refine sgo ?_|refine sop ?_
    refine cndf ?_
    repeat first|refine sgo ?_|refine sop ?_
    refine cndt ?_
    repeat first|refine sgo ?_|refine sop ?_
    exact xAC ⟨.inr rfl, oAny rfl⟩
  have h45 : m.kind = 4 ∨ m.kind = 5 := by omega
  have hto : m.to ≠ [] := (hne h45).2
  rw [hfin h45]
  refine xF1 ?_
  have hbeg := fun x h => xHI (x := x) (to := m.to) h
  have hmsp := fun (x : SpanL) (hx : x ∈ l) => xES (n := 100000) (by decide) (hs x hx) ps1
  generalize hG : xAl l (xBL m) = G0 at *
  obtain ⟨k, m2, m3, m4, m5, m6, m7⟩ := m
  simp only at *
  rcases h45 with rfl | rfl
  · rw [hg4 rfl] at r4
    refine vcs vf40 ?_
    repeat first|refine sgo ?_|refine sop ?_
    refine cndf ?_
    repeat first|refine sgo ?_|refine sop ?_
    refine cndf ?_
    repeat first|refine sgo ?_|refine sop ?_
    refine cndf ?_
    repeat first|refine sgo ?_|refine sop ?_
    refine cndf (xAA ?_)
    repeat first|refine sgo ?_|refine cv0 p1 ?_|refine sop ?_
    (first | refine cndf (xAA ?_) | refine cndt ?_)
    repeat first|refine sgo ?_|refine cv0 p2 ?_|refine o_v (vap encS (xAE m5) (ys := [xAE m6])) ?_|refine cv r4 ?_|refine sop ?_
    refine xAH (fun (g : Nat × List SpanL) => [(0, .sh false (l.map encS)), (3, .ptr ⟨1, 0⟩ 1 0 0), (5, .ptr ⟨1, 73752⟩ 1 0 0), (7, ownV ⟨1, 106512⟩ (g.2.map encS)), (8, .int .i64 g.1)])
      (fun g => [(⟨1, 0⟩, ⟨true, false, 8, [encM ⟨4, m2, m3, m4, m5, m6, m7⟩]⟩), (⟨1, 73752⟩, ⟨true, false, 2, [encS (xAE m6)]⟩), (⟨1, 106512⟩, blkV 2 (g.2.map encS))]) (fun g => l.length - g.1)
      (fun g => g.1 ≤ l.length ∧ g.2 = G0 ++ (inTo ⟨4, m2, m3, m4, m5, m6, m7⟩ (l.take g.1)).map (xAu m6 m5)) (0, G0) xAT ⟨Nat.zero_le _, by simp [inTo]⟩ ?_
    rintro ⟨i, o⟩ ⟨hi, ho2⟩
    dsimp only at hi ho2 ⊢
    have hi2 := hit i
    have hol : o.length ≤ 1000 := by
      rw [List.length_take] at hi2
      rw [ho2, List.length_append, List.length_map]; omega
    repeat first|refine sgo ?_|refine sop ?_
    refine cnd (fun h => xAA ?_) (fun h => xAF ?_)
    · have hlt : i < l.length := by have h' := of_decide_eq_true h; omega
      obtain ⟨x, hx⟩ : ∃ m, l[i]? = some m := ⟨_, List.getElem?_eq_getElem hlt⟩
      have hxe := gm (enc := encS) (n := (i : Int)) hx (by omega)
      have hlt2 : (i : Int) < ((l.map encS).length : Nat) := by omega
      have hmt := xI8 x (xAE m6)
      rw [← xJP] at hmt
      have hem := xCP (xAg x (xAE m6))
      have hsx := hmsp x (List.mem_of_getElem? hx)
      have hst := hstep i x hx
      have hbx := hbeg x
      generalize xAg x (xAE m6) = y at *
      cases hey : xAJ y with
      | true =>
        rw [hey] at hem hst
        rw [if_pos rfl, List.append_nil] at hst
        repeat first|refine sgo ?_|refine cv0 hmt ?_|refine cv0 hem ?_|refine sop ?_
        refine cndf (xAA ?_)
        repeat first|refine sgo ?_|refine sop ?_
        exact agn (Q := fun _ _ => True) (i + 1, o) ⟨by simp only; omega, by simp only [hst]; exact ho2⟩ xAT
      | false =>
        rw [hey] at hem hst
        rw [if_neg (by simp)] at hst
        have hb := hbx hey
        have hmv := xIQ (s := y) (f := m6) (t := m5) (by obtain ⟨r, hr⟩ := begins_iff.1 hb; rw [hr]; simp) (by omega) (by omega) (by omega) (by omega)
        repeat first|refine sgo ?_|refine cv0 hmt ?_|refine cv0 hem ?_|refine sop ?_
        refine cndt ?_
        repeat first|refine sgo ?_|refine cv0 hmv ?_|refine o_v (vap encS (xAu m6 m5 y)) ?_|refine sop ?_
        exact agn (Q := fun _ _ => True) (i + 1, o ++ [xAu m6 m5 y]) ⟨by simp only; omega, by simp only [hst, List.map_append, List.map_cons, List.map_nil]; rw [ho2, List.append_assoc]⟩ xAT
    · have hge : i = l.length := by have h' := of_decide_eq_false h; omega
      subst hge
      rw [List.take_length] at ho2
      rw [← ho2] at hn ⊢
      repeat first|refine sgo ?_|refine cv hn ?_|refine sop ?_
      exact xAC ⟨.inr rfl, oOwn rfl⟩
  · rw [hg5 rfl] at r4
    refine vcs vf40 ?_
    repeat first|refine sgo ?_|refine sop ?_
    refine cndf ?_
    repeat first|refine sgo ?_|refine sop ?_
    refine cndf ?_
    repeat first|refine sgo ?_|refine sop ?_
    refine cndf ?_
    repeat first|refine sgo ?_|refine sop ?_
    refine cndf (xAA ?_)
    repeat first|refine sgo ?_|refine cv0 p1 ?_|refine sop ?_
    (first | refine cndf (xAA ?_) | refine cndt ?_)
    repeat first|refine sgo ?_|refine cv0 p2 ?_|refine o_v (vap encS (xAE m5) (ys := [xAE m6])) ?_|refine cv r4 ?_|refine sop ?_
    refine xAH (fun (g : Nat × List SpanL) => [(0, .sh false (l.map encS)), (3, .ptr ⟨1, 0⟩ 1 0 0), (5, .ptr ⟨1, 73752⟩ 1 0 0), (7, ownV ⟨1, 106512⟩ (g.2.map encS)), (8, .int .i64 g.1)])
      (fun g => [(⟨1, 0⟩, ⟨true, false, 8, [encM ⟨5, m2, m3, m4, m5, m6, m7⟩]⟩), (⟨1, 73752⟩, ⟨true, false, 2, [encS (xAE m6)]⟩), (⟨1, 106512⟩, blkV 2 (g.2.map encS))]) (fun g => l.length - g.1)
      (fun g => g.1 ≤ l.length ∧ g.2 = G0 ++ (inTo ⟨5, m2, m3, m4, m5, m6, m7⟩ (l.take g.1)).map (xAu m6 m5)) (0, G0) xAT ⟨Nat.zero_le _, by simp [inTo]⟩ ?_
    rintro ⟨i, o⟩ ⟨hi, ho2⟩
    dsimp only at hi ho2 ⊢
    have hi2 := hit i
    have hol : o.length ≤ 1000 := by
      rw [List.length_take] at hi2
      rw [ho2, List.length_append, List.length_map]; omega
    repeat first|refine sgo ?_|refine sop ?_
    refine cnd (fun h => xAA ?_) (fun h => xAF ?_)
    · have hlt : i < l.length := by have h' := of_decide_eq_true h; omega
      obtain ⟨x, hx⟩ : ∃ m, l[i]? = some m := ⟨_, List.getElem?_eq_getElem hlt⟩
      have hxe := gm (enc := encS) (n := (i : Int)) hx (by omega)
      have hlt2 : (i : Int) < ((l.map encS).length : Nat) := by omega
      have hmt := xI8 x (xAE m6)
      rw [← xJP] at hmt
      have hem := xCP (xAg x (xAE m6))
      have hsx := hmsp x (List.mem_of_getElem? hx)
      have hst := hstep i x hx
      have hbx := hbeg x
      generalize xAg x (xAE m6) = y at *
      cases hey : xAJ y with
      | true =>
        rw [hey] at hem hst
        rw [if_pos rfl, List.append_nil] at hst
        repeat first|refine sgo ?_|refine cv0 hmt ?_|refine cv0 hem ?_|refine sop ?_
        refine cndf (xAA ?_)
        repeat first|refine sgo ?_|refine sop ?_
        exact agn (Q := fun _ _ => True) (i + 1, o) ⟨by simp only; omega, by simp only [hst]; exact ho2⟩ xAT
      | false =>
        rw [hey] at hem hst
        rw [if_neg (by simp)] at hst
        have hb := hbx hey
        have hmv := xIQ (s := y) (f := m6) (t := m5) (by obtain ⟨r, hr⟩ := begins_iff.1 hb; rw [hr]; simp) (by omega) (by omega) (by omega) (by omega)
        repeat first|refine sgo ?_|refine cv0 hmt ?_|refine cv0 hem ?_|refine sop ?_
        refine cndt ?_
        repeat first|refine sgo ?_|refine cv0 hmv ?_|refine o_v (vap encS (xAu m6 m5 y)) ?_|refine sop ?_
        exact agn (Q := fun _ _ => True) (i + 1, o ++ [xAu m6 m5 y]) ⟨by simp only; omega, by simp only [hst, List.map_append, List.map_cons, List.map_nil]; rw [ho2, List.append_assoc]⟩ xAT
    · have hge : i = l.length := by have h' := of_decide_eq_false h; omega
      subst hge
      rw [List.take_length] at ho2
      rw [← ho2] at hn ⊢
      repeat first|refine sgo ?_|refine cv hn ?_|refine sop ?_
      exact xAC ⟨.inr rfl, oOwn rfl⟩
theorem xR4 {s : SpanL} : VC Tryd.prog 20 [.sh false ([s].map encS)] [] (.sh false ((xAO [s]).map encS)) [] := xF1 (xEP (l := [s]) Sl.sh (by simp))
theorem xKi {l : List MsgL} {i : Nat} {m : MsgL} (h : l[i]? = some m) (x : List SpanL) : (l.take (i + 1)).reverse.foldl xBV x = (l.take i).reverse.foldl xBV (xBV x m) := by
  rw [xJA h, List.foldl_cons]
set_option maxHeartbeats 1000000 in
theorem xJ7 {s : SpanL} {l : List MsgL} (hl : l.length ≤ 40) (ho : ∀ m ∈ l, MsgOk m) (h8 : ∀ m ∈ l, MsgLen 8 m) (hs : s.lo.length ≤ 100 ∧ s.hi.length ≤ 100) : VC Tryd.prog 19 [.agg (encS s), .sh false (l.map encM)] [] (.sh false ((xAp s l.reverse).map encS)) [] := by
  have hml : (l.map encM).length = l.length := List.length_map _
  have hno := xR4 (s := s)
  have hnl := xCO [s]
  have hsp0 : SpLen 100 (xAO [s]) := xBp fun x hx => by rw [List.mem_singleton] at hx; subst hx; exact hs
  refine vcs vf19 ?_
  repeat first|refine sgo ?_|refine cf hno ?_|refine sop ?_
  refine xAH (fun (g : Nat × List SpanL) => [(1, .sh false (l.map encM)), (5, .sh false (g.2.map encS)), (6, .int .i64 ((g.1 : Int) - 1))]) (fun g => []) (fun g => g.1)
    (fun g => g.1 ≤ l.length ∧ (l.take g.1).reverse.foldl xBV g.2 = xAp s l.reverse ∧ Nrm g.2 ∧ g.2.length + 3 * g.1 ≤ 122 ∧ SpLen (100 + 8 * (40 - g.1)) g.2)
    (l.length, xAO [s]) (xAT (h1 := by refine ⟨rfl, rfl, ?_, trivial⟩; exact congrArg (fun z => some (PV.int .i64 z)) (by simp))) ⟨Nat.le_refl _, by simp only [List.take_length]; rfl, (xAa [s]).1, by simp only [List.length_cons, List.length_nil] at hnl ⊢; omega, hsp0.mono (by omega)⟩ ?_
  rintro ⟨i, d⟩ ⟨hi, hv, hd, hdl, hds⟩
  dsimp only at hi hv hd hdl hds ⊢
  repeat first|refine sgo ?_|refine sop ?_
  refine cnd (fun h => xAA ?_) (fun h => xAF ?_)
  · obtain ⟨j, rfl⟩ : ∃ j, i = j + 1 := ⟨i - 1, by have h' := of_decide_eq_true h; omega⟩
    obtain ⟨m, hx⟩ : ∃ m, l[j]? = some m := ⟨_, List.getElem?_eq_getElem (by omega)⟩
    have hxe := gm (enc := encM) (n := ((j + 1 : Nat) : Int) - 1) hx (by omega)
    have hlt2 : ((j + 1 : Nat) : Int) - 1 < ((l.map encM).length : Nat) := by omega
    have hge2 : 0 ≤ ((j + 1 : Nat) : Int) - 1 := by omega
    have hmem := List.mem_of_getElem? hx
    have hth := xPu (l := d) (ho m hmem) (h8 m hmem) (by omega) (hds.mono (by omega))
    have htl := xI4 (ho m hmem) hd
    have hts := xFW (n := 100 + 8 * (40 - (j + 1))) (b := 8) (by omega) hds (h8 m hmem)
    rw [xKi hx] at hv
    repeat first|refine sgo ?_|refine cf hth ?_|refine sop ?_
    exact agn (Q := fun _ _ => True) (j, xBV d m) ⟨by simp only; omega, hv, xE7 hd m, by (try simp only); omega, hts.mono (by (try simp only); omega)⟩ (xAT (h1 := by refine ⟨rfl, rfl, ?_, trivial⟩; exact congrArg (fun z => some (PV.int .i64 z)) (by simp only; omega)))
  · have hi0 : i = 0 := by have h' := of_decide_eq_false h; omega
    subst hi0
    have hv : d = xAp s l.reverse := hv
    rw [← hv]
    repeat first|refine sgo ?_|refine sop ?_
    exact xAC ⟨.inr rfl, oAny rfl⟩
end Go.Proofs
open Go.V Go.Pu
set_option linter.unusedVariables false
set_option linter.unusedSimpArgs false
set_option maxRecDepth 20000
namespace Go.Proofs
def vc18 := vcm Tryd.prog 18
theorem vf18 : VF Tryd.prog 18 = some (85, vc18, [.tmp 4]) := by kernel_rfl
theorem xJV {l g : List SpanL} (hl : l.length ≤ 200) (hg : g.length ≤ 200) : VC Tryd.prog 33 [.sh false (g.map encS), .ptr ⟨0, 0⟩ 1 0 0] [⟨true, false, 1, [[.sh false (l.map encS)]]⟩] (ownV ⟨0, 1⟩ ((xAl l g).map encS)) [⟨true, false, 1, [[.sh false (l.map encS)]]⟩, blkV 2 ((xAl l g).map encS)] := by
  have h := xQI (q := .sh false (l.map encS)) (p := .sh false (g.map encS)) (l := l) (m := g) Sl.sh Sl.sh hl hg
  refine vcs vf33 ?_
  repeat first|refine sgo ?_|refine cv h ?_|refine sop ?_
  refine xAC ⟨.inr rfl, ?_⟩
  exact oG [⟨1, 8208⟩]
abbrev ST : Tmps := [(5, .ptr ⟨0, 1001⟩ 1 0 0), (18, .fn 52 [.ptr ⟨0, 1002⟩ 1 0 0])]
abbrev SH (l : List MsgL) (d : List SpanL) : Heap := [(⟨0, 1001⟩, ⟨true, false, 1, [[.sh false (d.map encS)]]⟩), (⟨0, 1002⟩, ⟨true, false, 1, [[.sh false (l.map encM)]]⟩)]
theorem gone4 {m : MsgL} (h : m.kind = 4) : xBL m = [xAE m.to, xAE m.fr] := by unfold xBL; rw [if_pos h]
theorem gone5 {m : MsgL} (h : m.kind = 5) : xBL m = [xAE m.to] := by unfold xBL; rw [if_neg (by omega)]
theorem thru45 {m : MsgL} (h : m.kind = 4 ∨ m.kind = 5) (l : List SpanL) : xBV l m = xAO (xAl l (xBL m) ++ (inTo m l).map (xAu m.to m.fr)) := by
  unfold xBV
  rw [if_neg (by omega), if_neg (by omega), if_neg (by omega)]
theorem xDB {n : Nat} {p : Prop} (h : n = 0) (e : Nat.beq n 0 = false) : p := by subst h; cases e
set_option maxHeartbeats 8000000 in
theorem xCJ {s : SpanL} {l : List MsgL} (hl : l.length ≤ 40) (ho : ∀ m ∈ l, MsgOk m) (h8 : ∀ m ∈ l, MsgLen 8 m) (hs : s.lo.length ≤ 100 ∧ s.hi.length ≤ 100) : VC Tryd.prog 18 [.agg (encS s), .sh false (l.map encM)] [] (.sh false ((xAp s l.reverse).map encS)) [] := by
  have hml : (l.map encM).length = l.length := List.length_map _
  have hno : VC Tryd.prog 32 [.sh false ([s].map encS)] [] (.sh false ((xAO [s]).map encS)) [] := xF1 (xJL (xs := [s]) Sl.sh (by simp))
  have hnl := xCO [s]
  have hsp0 : SpLen 100 (xAO [s]) := xBp fun x hx => by rw [List.mem_singleton] at hx; subst hx; exact hs
  refine vcs vf18 ?_
  refine xA9 (rg ?_)
  repeat first|refine xAX ?_|refine sop ?_
  refine nl ?_
  refine xA9 (rg ?_)
  repeat first|refine xAX ?_|refine cf hno ?_|refine sop ?_
  refine nl ?_
  refine xCA (lvl := 1) (fun _ => [(5, .ptr ⟨0, 1001⟩ 1 0 0)]) (fun (_ : Unit) => SH l (xAp s l.reverse)) (fun _ => True) ?_ ?_
  · repeat first|refine sgo ?_|refine cf (xMp (l := l)) ?_|refine sop ?_
    refine rng (f := 52) (lvlI := 2) (T := ST) (H := SH l (xAO [s]))
      ((show Imp _ ⟨1, [(5, .ptr ⟨1, 8216⟩ 1 0 0), (18, .fn 52 [.ptr ⟨1, 16392⟩ 1 0 0])], [(⟨1, 8216⟩, ⟨true, false, 1, [[.sh false ((xAO [s]).map encS)]]⟩), (⟨1, 16392⟩, ⟨true, false, 1, [[.sh false (l.map encM)]]⟩)]⟩ from xAT).trans ((Imp.ren' (b := ⟨1, 8216⟩) (c := ⟨0, 1001⟩) (by decide) (.inr rfl)).trans (Imp.ren' (b := ⟨1, 16392⟩) (c := ⟨0, 1002⟩) (by decide) (.inr rfl))) |>.trans xAT) vf52 ?_
    intro y
    refine xGG (xBM ?_)
    repeat first|refine sgo ?_|refine sop ?_
    refine xGe ?_
    refine xMl (fun (g : Nat × List SpanL) => [(0, .yld y), (1, .ptr ⟨0, 1002⟩ 1 0 0), (3, .int .i64 ((g.1 : Int) - 1))]) (fun g => SH l g.2) (fun g => g.1)
      (fun g => g.1 ≤ l.length ∧ (l.take g.1).reverse.foldl xBV g.2 = xAp s l.reverse ∧ Nrm g.2 ∧ g.2.length + 3 * g.1 ≤ 122 ∧ SpLen (100 + 8 * (40 - g.1)) g.2)
      (l.length, xAO [s]) (xAT (h1 := by refine ⟨rfl, rfl, ?_, trivial⟩; exact congrArg (fun z => some (PV.int .i64 z)) (by simp))) ⟨Nat.le_refl _, by simp only [List.take_length]; rfl, (xAa [s]).1, by simp only [List.length_cons, List.length_nil] at hnl ⊢; omega, hsp0.mono (by omega)⟩ ?_
    rintro ⟨i, d⟩ ⟨hi, hv, hd, hdl, hds⟩
    dsimp only at hi hv hd hdl hds ⊢
    refine xGG (xBM ?_)
    repeat first|refine sgo ?_|refine sop ?_
    refine cnd (fun h => xAA ?_) (fun h => xAF ?_)
    · obtain ⟨j, rfl⟩ : ∃ j, i = j + 1 := ⟨i - 1, by have h' := of_decide_eq_true h; omega⟩
      obtain ⟨m, hx⟩ : ∃ m, l[j]? = some m := ⟨_, List.getElem?_eq_getElem (by omega)⟩
      have hxe := gm (enc := encM) (n := ((j + 1 : Nat) : Int) - 1) hx (by omega)
      have hlt2 : ((j + 1 : Nat) : Int) - 1 < ((l.map encM).length : Nat) := by omega
      have hge2 : 0 ≤ ((j + 1 : Nat) : Int) - 1 := by omega
      have hmem := List.mem_of_getElem? hx
      have hmo := ho m hmem
      have hm8 := h8 m hmem
      have htl := xI4 hmo hd
      have hts := xFW (n := 100 + 8 * (40 - (j + 1))) (b := 8) (by omega) hds hm8
      have htn := xE7 hd m
      have hdz : SpLen 100000 d := hds.mono (by omega)
      have hmz := MsgSz.of hmo hm8
      have hkey := hm8.key
      have hfl := hm8.fr
      have htol := hm8.to
      have hne := hmo.ne
      have hk6 := hmz.k
      rw [xKi hx] at hv
      have hts' : SpLen (100 + 8 * (40 - j)) (xBV d m) := hts.mono (by omega)
      have t12 : (m.kind = 1 ∨ m.kind = 2) → xBV d m = xAl d [oneL m.key] := fun h => by unfold xBV; rw [if_pos h]
      have t3 : m.kind = 3 → xBV d m = xAl d [m.sp] := fun h => by unfold xBV; rw [if_neg (by omega), if_pos h]
      have t6 : m.kind = 6 → xBV d m = d := fun h => by unfold xBV; rw [if_neg (by omega), if_neg (by omega), if_pos h]
      have t45 := fun h => thru45 (m := m) h d
      have c1 := xJV (l := d) (g := [oneL m.key]) (by omega) (by simp)
      have c3 := xJV (l := d) (g := [m.sp]) (by omega) (by simp)
      have c4 := xJV (l := d) (g := xBL m) (by omega) (by unfold xBL; split <;> simp)
      have g4 := fun h => gone4 (m := m) h
      have g5 := fun h => gone5 (m := m) h
      have o1 := one_vc m.key (by omega)
      have p1 := xG5 m.to (by omega)
      have p2 := xG5 m.fr (by omega)
      have hgl : (xAl d (xBL m)).length ≤ 400 := by
        have := xD8 d (xBL m)
        have h2 : (xBL m).length ≤ 2 := by unfold xBL; split <;> simp
        omega
      have hit := fun i => xGY m (d.take i)
      have hstep := fun i x hx => xKe (m := m) (l := d) (i := i) (x := x) hx
      have hbeg := fun x h => xHI (x := x) (to := m.to) h
      have ps1 := xBw (n := 100000) (p := m.to) (by omega)
      have hmsp := fun (x : SpanL) (hx : x ∈ d) => xES (n := 100000) (by decide) (hdz x hx) ps1
      have htot : (xAl d (xBL m) ++ (inTo m d).map (xAu m.to m.fr)).length ≤ 1000 := by
        have := xGY m d
        rw [List.length_append, List.length_map]; omega
      have hnn : VC Tryd.prog 32 [.sh false ((xAl d (xBL m) ++ (inTo m d).map (xAu m.to m.fr)).map encS)] [] (.sh false ((xAO (xAl d (xBL m) ++ (inTo m d).map (xAu m.to m.fr))).map encS)) [] := xF1 (xJL (xs := xAl d (xBL m) ++ (inTo m d).map (xAu m.to m.fr)) Sl.sh (by omega))
      clear hmz hmem h8 ho hm8 hmo hds hts hsp0
      obtain ⟨mk, m2, m3, m4, m5, m6, m7⟩ := m
      simp only at t12 t3 t6 t45 c1 c3 g4 g5 hk6 hne o1 p1 p2 hfl htol hkey hbeg hmsp hstep htot hnn ps1
      refine xGG (xGe (xGG (xKv (xLy 6 ?_))))
      repeat first|refine sgo ?_|refine sop ?_
      refine yl (T := [(0, .yld y), (1, .ptr ⟨0, 1002⟩ 1 0 0), (3, .int .i64 (((j + 1 : Nat) : Int) - 1)), (11, .yld y), (12, .int .i64 (((j + 1 : Nat) : Int) - 1)), (16, .agg (encM ⟨mk, m2, m3, m4, m5, m6, m7⟩))]) (H := SH l d) 3 xAT ?_
      repeat first|refine sgo ?_|refine sop ?_
      refine ⟨rfl, ?_⟩
      rcases six hk6 with rfl | rfl | rfl | rfl | rfl | rfl
      · rw [t12 (.inl rfl)] at hv htl hts' htn
        clear t12 t3 t6 t45 c3 c4 g4 g5 hit hstep hbeg hmsp ps1 htot hnn hgl
        repeat first|refine sgo ?_|refine sop ?_
        refine cndt (xAA ?_)
        refine cndt ?_
        repeat first|refine sgo ?_|refine cv0 o1 ?_|refine sop ?_
        refine sqi (Imp.wr (t := 31) rfl (xAV rfl rfl)) ?_
        repeat first|refine sgo ?_|refine cl (lent := [⟨0, 1001⟩]) c1 ?_|refine sop ?_
        refine xA0 ?_
        repeat first|refine sgo ?_|refine sop ?_
        refine xCZ (xBM (xAA ?_))
        refine xBM ?_
        repeat first|refine sgo ?_|refine sop ?_
        exact agL (j, xAl d [oneL m2]) ⟨by simp only; omega, hv, htn, by simp only; omega, hts'⟩ ((Imp.wrC (b1 := ⟨0, 1001⟩) (c := ⟨3, 65576⟩) 0 rfl rfl rfl rfl).trans (xAT (h1 := by refine ⟨rfl, rfl, ?_, trivial⟩; exact congrArg (fun z => some (PV.int .i64 z)) (by simp only; omega)) (h5 := by repeat' first|exact trivial|apply And.intro|(intro h; first|exact xDB h rfl|rfl))))
      · rw [t12 (.inr rfl)] at hv htl hts' htn
        clear t12 t3 t6 t45 c3 c4 g4 g5 hit hstep hbeg hmsp ps1 htot hnn hgl
        repeat first|refine sgo ?_|refine sop ?_
        refine cndf ?_
        repeat first|refine sgo ?_|refine sop ?_
        refine cndt ?_
        repeat first|refine sgo ?_|refine cv0 o1 ?_|refine sop ?_
        refine sqi (Imp.wr (t := 31) rfl (xAV rfl rfl)) ?_
        repeat first|refine sgo ?_|refine cl (lent := [⟨0, 1001⟩]) c1 ?_|refine sop ?_
        refine xA0 ?_
        repeat first|refine sgo ?_|refine sop ?_
        refine xCZ (xBM (xAA ?_))
        refine xBM ?_
        repeat first|refine sgo ?_|refine sop ?_
        exact agL (j, xAl d [oneL m2]) ⟨by simp only; omega, hv, htn, by simp only; omega, hts'⟩ ((Imp.wrC (b1 := ⟨0, 1001⟩) (c := ⟨3, 65576⟩) 0 rfl rfl rfl rfl).trans (xAT (h1 := by refine ⟨rfl, rfl, ?_, trivial⟩; exact congrArg (fun z => some (PV.int .i64 z)) (by simp only; omega)) (h5 := by repeat' first|exact trivial|apply And.intro|(intro h; first|exact xDB h rfl|rfl))))
      · rw [t3 rfl] at hv htl hts' htn
        clear t12 t3 t6 t45 c1 c4 g4 g5 hit hstep hbeg hmsp ps1 htot hnn hgl
        repeat first|refine sgo ?_|refine sop ?_
        refine cndf ?_
        repeat first|refine sgo ?_|refine sop ?_
        refine cndf ?_
        repeat first|refine sgo ?_|refine sop ?_
        refine cndt ?_
        repeat first|refine sgo ?_|refine sop ?_
        refine sqi (Imp.wr (t := 38) rfl (xAV rfl rfl)) ?_
        repeat first|refine sgo ?_|refine cl (lent := [⟨0, 1001⟩]) c3 ?_|refine sop ?_
        refine xA0 ?_
        repeat first|refine sgo ?_|refine sop ?_
        refine xCZ (xBM (xAA ?_))
        refine xBM ?_
        repeat first|refine sgo ?_|refine sop ?_
        exact agL (j, xAl d [m4]) ⟨by simp only; omega, hv, htn, by simp only; omega, hts'⟩ ((Imp.wrC (b1 := ⟨0, 1001⟩) (c := ⟨3, 81952⟩) 0 rfl rfl rfl rfl).trans (xAT (h1 := by refine ⟨rfl, rfl, ?_, trivial⟩; exact congrArg (fun z => some (PV.int .i64 z)) (by simp only; omega)) (h5 := by repeat' first|exact trivial|apply And.intro|(intro h; first|exact xDB h rfl|rfl))))
      · rw [t45 (.inl rfl)] at hv htl hts' htn
        rw [g4 rfl] at c4
        have hto : m6 ≠ [] := (hne (.inl rfl)).2
        clear t12 t3 t6 t45 c1 c3
        generalize hG : xAl d (xBL ⟨4, m2, m3, m4, m5, m6, m7⟩) = G0 at *
        rw [g4 rfl] at hG
        rw [hG] at c4
        repeat first|refine sgo ?_|refine sop ?_
        refine cndf ?_
        repeat first|refine sgo ?_|refine sop ?_
        refine cndf ?_
        repeat first|refine sgo ?_|refine sop ?_
        refine cndf ?_
        repeat first|refine sgo ?_|refine sop ?_
        refine cndt (xAA ?_)
        refine cndt ?_
        repeat first|refine sgo ?_|refine cv0 p1 ?_|refine sop ?_
        refine cndt ?_
        repeat first|refine sgo ?_|refine cv0 p2 ?_|refine o_v (vap encS (xAE m5) (ys := [xAE m6])) ?_|refine sop ?_
        refine sqi (Imp.wr (t := 58) rfl (xAV rfl rfl)) ?_
        repeat first|refine sgo ?_|refine cl (lent := [⟨0, 1001⟩]) c4 ?_|refine sop ?_
        refine xAH (fun (g : Nat × List SpanL) => [(5, .ptr ⟨0, 1001⟩ 1 0 0), (18, .fn 52 [.ptr ⟨0, 1002⟩ 1 0 0]), (7, .ptr ⟨3, 24576⟩ 1 0 0), (9, .ptr ⟨3, 106520⟩ 1 0 0), (11, ownV ⟨3, 139280⟩ (g.2.map encS)), (60, .sh false (d.map encS)), (61, .int .i64 (d.map encS).length), (62, .int .i64 g.1)])
          (fun g => SH l d ++ [(⟨3, 24576⟩, ⟨true, false, 8, [encM ⟨4, m2, m3, m4, m5, m6, m7⟩]⟩), (⟨3, 106520⟩, ⟨true, false, 2, [encS (xAE m6)]⟩), (⟨3, 139280⟩, blkV 2 (g.2.map encS))]) (fun g => d.length - g.1)
          (fun g => g.1 ≤ d.length ∧ g.2 = G0 ++ (inTo ⟨4, m2, m3, m4, m5, m6, m7⟩ (d.take g.1)).map (xAu m6 m5)) (0, G0) (xAT (h5 := by repeat' first|exact trivial|apply And.intro|(intro h; first|exact xDB h rfl|rfl))) ⟨Nat.zero_le _, by simp [inTo]⟩ ?_
        rintro ⟨i, o⟩ ⟨hi3, ho2⟩
        dsimp only at hi3 ho2 ⊢
        have hi2 := hit i
        have hol : o.length ≤ 1000 := by
          rw [List.length_take] at hi2
          rw [ho2, List.length_append, List.length_map]; omega
        have hdm : (d.map encS).length = d.length := List.length_map _
        repeat first|refine sgo ?_|refine sop ?_
        refine cnd (fun h3 => xAA ?_) (fun h3 => xAF ?_)
        · have hlt : i < d.length := by have h' := of_decide_eq_true h3; omega
          obtain ⟨x, hx2⟩ : ∃ m, d[i]? = some m := ⟨_, List.getElem?_eq_getElem hlt⟩
          have hxe2 := gm (enc := encS) (n := (i : Int)) hx2 (by omega)
          have hlt3 : (i : Int) < ((d.map encS).length : Nat) := by omega
          have hmt := xLR x (xAE m6)
          have hem := xEY (xAg x (xAE m6))
          have hsx := hmsp x (List.mem_of_getElem? hx2)
          have hst := hstep i x hx2
          have hbx := hbeg x
          generalize xAg x (xAE m6) = z at *
          cases hey : xAJ z with
          | true =>
            rw [hey] at hem hst
            rw [if_pos rfl, List.append_nil] at hst
            repeat first|refine sgo ?_|refine cv0 hmt ?_|refine cv0 hem ?_|refine sop ?_
            refine cndf (xAA ?_)
            repeat first|refine sgo ?_|refine sop ?_
            exact agn (Q := fun _ _ => True) (i + 1, o) ⟨by simp only; omega, by simp only [hst]; exact ho2⟩ (xAT (h5 := by repeat' first|exact trivial|apply And.intro|(intro h; first|exact xDB h rfl|rfl)))
          | false =>
            rw [hey] at hem hst
            rw [if_neg (by simp)] at hst
            have hb := hbx hey
            have hmv := xKw (s := z) (to := m6) (fr := m5) hto hb (by omega) (by omega) (by omega) (by omega)
            repeat first|refine sgo ?_|refine cv0 hmt ?_|refine cv0 hem ?_|refine sop ?_
            refine cndt ?_
            repeat first|refine sgo ?_|refine cv0 hmv ?_|refine o_v (vap encS (xAu m6 m5 z)) ?_|refine sop ?_
            exact agn (Q := fun _ _ => True) (i + 1, o ++ [xAu m6 m5 z]) ⟨by simp only; omega, by simp only [hst, List.map_append, List.map_cons, List.map_nil]; rw [ho2, List.append_assoc]⟩ (xAT (h5 := by repeat' first|exact trivial|apply And.intro|(intro h; first|exact xDB h rfl|rfl)))
        · have hge : i = d.length := by have h' := of_decide_eq_false h3; omega
          subst hge
          rw [List.take_length] at ho2
          rw [← ho2] at hnn hv htl hts' htn
          repeat first|refine sgo ?_|refine cf hnn ?_|refine sop ?_
          refine xA0 ?_
          repeat first|refine sgo ?_|refine sop ?_
          refine xCZ (xBM (xAA ?_))
          refine xBM ?_
          repeat first|refine sgo ?_|refine sop ?_
          exact agL (j, xAO o) ⟨by simp only; omega, hv, htn, by simp only; omega, hts'⟩ (xAT (h1 := by refine ⟨rfl, rfl, ?_, trivial⟩; exact congrArg (fun z => some (PV.int .i64 z)) (by simp only; omega)) (h5 := by repeat' first|exact trivial|apply And.intro|(intro h; first|exact xDB h rfl|rfl)))
      · rw [t45 (.inr rfl)] at hv htl hts' htn
        rw [g5 rfl] at c4
        have hto : m6 ≠ [] := (hne (.inr rfl)).2
        clear t12 t3 t6 t45 c1 c3
        generalize hG : xAl d (xBL ⟨5, m2, m3, m4, m5, m6, m7⟩) = G0 at *
        rw [g5 rfl] at hG
        rw [hG] at c4
        repeat first|refine sgo ?_|refine sop ?_
        refine cndf ?_
        repeat first|refine sgo ?_|refine sop ?_
        refine cndf ?_
        repeat first|refine sgo ?_|refine sop ?_
        refine cndf ?_
        repeat first|refine sgo ?_|refine sop ?_
        refine cndf ?_
        repeat first|refine sgo ?_|refine sop ?_
        refine cndt ?_
        repeat first|refine sgo ?_|refine cv0 p1 ?_|refine sop ?_
        refine cndf (xAA ?_)
        repeat first|refine sgo ?_|refine sop ?_
        refine sqi (Imp.wr (t := 58) rfl (xAV rfl rfl)) ?_
        repeat first|refine sgo ?_|refine cl (lent := [⟨0, 1001⟩]) c4 ?_|refine sop ?_
        refine xAH (fun (g : Nat × List SpanL) => [(5, .ptr ⟨0, 1001⟩ 1 0 0), (18, .fn 52 [.ptr ⟨0, 1002⟩ 1 0 0]), (7, .ptr ⟨3, 24576⟩ 1 0 0), (9, .ptr ⟨3, 106520⟩ 1 0 0), (11, ownV ⟨3, 139280⟩ (g.2.map encS)), (60, .sh false (d.map encS)), (61, .int .i64 (d.map encS).length), (62, .int .i64 g.1)])
          (fun g => SH l d ++ [(⟨3, 24576⟩, ⟨true, false, 8, [encM ⟨5, m2, m3, m4, m5, m6, m7⟩]⟩), (⟨3, 106520⟩, ⟨true, false, 2, [encS (xAE m6)]⟩), (⟨3, 139280⟩, blkV 2 (g.2.map encS))]) (fun g => d.length - g.1)
          (fun g => g.1 ≤ d.length ∧ g.2 = G0 ++ (inTo ⟨5, m2, m3, m4, m5, m6, m7⟩ (d.take g.1)).map (xAu m6 m5)) (0, G0) (xAT (h5 := by repeat' first|exact trivial|apply And.intro|(intro h; first|exact xDB h rfl|rfl))) ⟨Nat.zero_le _, by simp [inTo]⟩ ?_
        rintro ⟨i, o⟩ ⟨hi3, ho2⟩
        dsimp only at hi3 ho2 ⊢
        have hi2 := hit i
        have hol : o.length ≤ 1000 := by
          rw [List.length_take] at hi2
          rw [ho2, List.length_append, List.length_map]; omega
        have hdm : (d.map encS).length = d.length := List.length_map _
        repeat first|refine sgo ?_|refine sop ?_
        refine cnd (fun h3 => xAA ?_) (fun h3 => xAF ?_)
        · have hlt : i < d.length := by have h' := of_decide_eq_true h3; omega
          obtain ⟨x, hx2⟩ : ∃ m, d[i]? = some m := ⟨_, List.getElem?_eq_getElem hlt⟩
          have hxe2 := gm (enc := encS) (n := (i : Int)) hx2 (by omega)
          have hlt3 : (i : Int) < ((d.map encS).length : Nat) := by omega
          have hmt := xLR x (xAE m6)
          have hem := xEY (xAg x (xAE m6))
          have hsx := hmsp x (List.mem_of_getElem? hx2)
          have hst := hstep i x hx2
          have hbx := hbeg x
          generalize xAg x (xAE m6) = z at *
          cases hey : xAJ z with
          | true =>
            rw [hey] at hem hst
            rw [if_pos rfl, List.append_nil] at hst
            repeat first|refine sgo ?_|refine cv0 hmt ?_|refine cv0 hem ?_|refine sop ?_
            refine cndf (xAA ?_)
            repeat first|refine sgo ?_|refine sop ?_
            exact agn (Q := fun _ _ => True) (i + 1, o) ⟨by simp only; omega, by simp only [hst]; exact ho2⟩ (xAT (h5 := by repeat' first|exact trivial|apply And.intro|(intro h; first|exact xDB h rfl|rfl)))
          | false =>
            rw [hey] at hem hst
            rw [if_neg (by simp)] at hst
            have hb := hbx hey
            have hmv := xKw (s := z) (to := m6) (fr := m5) hto hb (by omega) (by omega) (by omega) (by omega)
            repeat first|refine sgo ?_|refine cv0 hmt ?_|refine cv0 hem ?_|refine sop ?_
            refine cndt ?_
            repeat first|refine sgo ?_|refine cv0 hmv ?_|refine o_v (vap encS (xAu m6 m5 z)) ?_|refine sop ?_
            exact agn (Q := fun _ _ => True) (i + 1, o ++ [xAu m6 m5 z]) ⟨by simp only; omega, by simp only [hst, List.map_append, List.map_cons, List.map_nil]; rw [ho2, List.append_assoc]⟩ (xAT (h5 := by repeat' first|exact trivial|apply And.intro|(intro h; first|exact xDB h rfl|rfl)))
        · have hge : i = d.length := by have h' := of_decide_eq_false h3; omega
          subst hge
          rw [List.take_length] at ho2
          rw [← ho2] at hnn hv htl hts' htn
          repeat first|refine sgo ?_|refine cf hnn ?_|refine sop ?_
          refine xA0 ?_
          repeat first|refine sgo ?_|refine sop ?_
          refine xCZ (xBM (xAA ?_))
          refine xBM ?_
          repeat first|refine sgo ?_|refine sop ?_
          exact agL (j, xAO o) ⟨by simp only; omega, hv, htn, by simp only; omega, hts'⟩ (xAT (h1 := by refine ⟨rfl, rfl, ?_, trivial⟩; exact congrArg (fun z => some (PV.int .i64 z)) (by simp only; omega)) (h5 := by repeat' first|exact trivial|apply And.intro|(intro h; first|exact xDB h rfl|rfl)))
      · rw [t6 rfl] at hv htl hts' htn
        clear t12 t3 t6 t45 c1 c3 c4 g4 g5 hit hstep hbeg hmsp ps1 htot hnn hgl
        repeat first|refine sgo ?_|refine sop ?_
        refine cndf ?_
        repeat first|refine sgo ?_|refine sop ?_
        refine cndf ?_
        repeat first|refine sgo ?_|refine sop ?_
        refine cndf ?_
        repeat first|refine sgo ?_|refine sop ?_
        refine cndf ?_
        repeat first|refine sgo ?_|refine sop ?_
        refine cndf (xAA ?_)
        refine xA0 ?_
        repeat first|refine sgo ?_|refine sop ?_
        refine xCZ (xBM (xAA ?_))
        refine xBM ?_
        repeat first|refine sgo ?_|refine sop ?_
        exact agL (j, d) ⟨by simp only; omega, hv, htn, by simp only; omega, hts'⟩ ((xAT (h1 := by refine ⟨rfl, rfl, ?_, trivial⟩; exact congrArg (fun z => some (PV.int .i64 z)) (by simp only; omega)) (h5 := by repeat' first|exact trivial|apply And.intro|(intro h; first|exact xDB h rfl|rfl))))
    · have hi0 : i = 0 := by have h' := of_decide_eq_false h; omega
      subst hi0
      have hv : d = xAp s l.reverse := hv
      rw [← hv]
      exact mid0 () trivial xAT
  · intro _ _
    repeat first|refine sgo ?_|refine sop ?_
    exact xAC ⟨.inr rfl, oAny rfl⟩
end Go.Proofs
