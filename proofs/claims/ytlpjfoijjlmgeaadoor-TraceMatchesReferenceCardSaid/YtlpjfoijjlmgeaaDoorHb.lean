/- Hb -/
import Derived.Test.YtlpjfoijjlmgeaaDoorHa
import Derived.Test.YtlpjfoijjlmgeaaDoorSc
import Derived.Test.YtlpjfoijjlmgeaaDoorVD
import Derived.Test.YtlpjfoijjlmgeaaDoorPu
open Go.V Go.Pu
set_option linter.unusedVariables false
set_option linter.unusedSimpArgs false
set_option maxRecDepth 20000
namespace Go.Proofs
def vc33 := vcm Tryd.prog 33
theorem vf33 : VF Tryd.prog 33 = some (7, vc33, [.tmp 3]) := by kernel_rfl
def vc39 := vcm Tryd.prog 39
theorem vf39 : VF Tryd.prog 39 = some (33, vc39, [.cell true 2 6]) := by kernel_rfl
def vc65 := vcm Tryd.prog 65
theorem vf65 : VF Tryd.prog 65 = some (36, vc65, [.cell true 2 6]) := by kernel_rfl
def vc40 := vcm Tryd.prog 40
theorem vf40 : VF Tryd.prog 40 = some (74, vc40, [.tmp 4]) := by kernel_rfl
def vc19 := vcm Tryd.prog 19
theorem vf19 : VF Tryd.prog 19 = some (24, vc19, [.tmp 4]) := by kernel_rfl
def vc23 := vcm Tryd.prog 23
theorem vf23 : VF Tryd.prog 23 = some (16, vc23, [.tmp 2]) := by kernel_rfl
theorem xOe {k p : Str} (h : xAD k p = true) (hp : p ≠ []) : k ≠ [] := by
  rintro rfl
  obtain ⟨r, hr⟩ := begins_iff.1 h
  cases p with
  | nil => exact hp rfl
  | cons c p => simp at hr
theorem xKJ {s : SpanL} {to fr : Str} (hto : to ≠ []) (hs : xAD s.lo to = true) (h1 : s.lo.length ≤ 1000000) (h2 : s.hi.length ≤ 1000000) (h3 : to.length ≤ 1000000) (h4 : fr.length ≤ 1000000) : VC Tryd.prog 39 [.agg (encS s), .str to, .str fr] [] (.agg (encS (xAt to fr s))) [] := by
  have hp := xGd fr (by omega)
  have m1 := xIp s.lo to fr (by omega) (by omega) (by omega)
  have m2 := xIp s.hi to fr (by omega) (by omega) (by omega)
  unfold xCo at m1 m2
  rw [if_pos hs] at m1
  have e : xAt to fr s = ⟨fr ++ s.lo.drop to.length, if xAD s.hi to = true then fr ++ s.hi.drop to.length else upL fr⟩ := by
    unfold xAt
    congr 1
    cases hb : xAD s.hi to with
    | true => rw [if_pos ⟨rfl, xOe hb hto⟩, if_pos rfl]
    | false => rw [if_neg (by simp), if_neg (by simp)]
  rw [e]
  cases hb : xAD s.hi to with
  | true =>
    rw [hb, if_pos rfl] at m2
    rw [if_pos rfl]
    refine vcs vf39 ?_
    repeat first|refine sgo ?_|refine cv0 hp ?_|refine cv0 m1 ?_|refine cv0 m2 ?_|refine sop ?_
    refine cndt ?_
    repeat first|refine sgo ?_|refine sop ?_
    exact xAC ⟨.inr rfl, oAny rfl⟩
  | false =>
    rw [hb, if_neg (by simp)] at m2
    rw [if_neg (by simp)]
    refine vcs vf39 ?_
    repeat first|refine sgo ?_|refine cv0 hp ?_|refine cv0 m1 ?_|refine cv0 m2 ?_|refine sop ?_
    refine cndf (xAB ?_)
    repeat first|refine sgo ?_|refine sop ?_
    exact xAC ⟨.inr rfl, oAny rfl⟩
theorem xHv {s : SpanL} {f t : Str} (hs : f.length ≤ s.lo.length) (h1 : s.lo.length ≤ 1000000) (h2 : s.hi.length ≤ 1000000) (h3 : f.length ≤ 1000000) (h4 : t.length ≤ 1000000) : VC Tryd.prog 65 [.agg (encS s), .str f, .str t] [] (.agg (encS (xAt f t s))) [] := by
  have hp := xCa t (by omega)
  have hb := xDL s.hi f (by omega) (by omega)
  unfold xAt
  generalize hbe : xAD s.hi f = b at *
  cases b with
  | true =>
    have hlen : f.length ≤ s.hi.length := by obtain ⟨r, hr⟩ := begins_iff.1 hbe; rw [hr]; simp
    cases hn : (!(s.hi == [])) with
    | true =>
      rw [if_pos ⟨rfl, by simpa using hn⟩]
      refine vcs vf65 ?_
      repeat first|refine sgo ?_|refine cv0 hp ?_|refine o_v0 (vslD f.length hs) ?_|refine cv0 hb ?_|refine sop ?_
      refine cndt ?_
      repeat first|refine sgo ?_|refine o_v0 (vslD f.length hlen) ?_|refine sop ?_
      exact xAC ⟨.inr rfl, oAny rfl⟩
    | false =>
      rw [if_neg (by intro h; exact h.2 (by simpa using hn))]
      refine vcs vf65 ?_
      repeat first|refine sgo ?_|refine cv0 hp ?_|refine o_v0 (vslD f.length hs) ?_|refine cv0 hb ?_|refine sop ?_
      refine cndf (xAB ?_)
      repeat first|refine sgo ?_|refine sop ?_
      exact xAC ⟨.inr rfl, oAny rfl⟩
  | false =>
    rw [if_neg (by simp)]
    refine vcs vf65 ?_
    repeat first|refine sgo ?_|refine cv0 hp ?_|refine o_v0 (vslD f.length hs) ?_|refine cv0 hb ?_|refine sop ?_
    refine cndf (xAB ?_)
    repeat first|refine sgo ?_|refine sop ?_
    exact xAC ⟨.inr rfl, oAny rfl⟩
theorem clones_vc {l : List MsgL} (hl : l.length ≤ 1000) : VC Tryd.prog 23 [.sh false (l.map encM)] [] (.bool (l.any fun m => m.kind == 5)) [] := by
  have hml : (l.map encM).length = l.length := List.length_map _
  refine vcs vf23 ?_
  repeat first|refine sgo ?_|refine sop ?_
  refine xAJ (fun (g : Nat) => [(0, .sh false (l.map encM)), (3, .int .i64 g)]) (fun g => []) (fun g => l.length - g)
    (fun g => g ≤ l.length ∧ (l.take g).any (fun m => m.kind == 5) = false) 0 xAg ⟨Nat.zero_le _, rfl⟩ ?_
  rintro i ⟨hi, hv⟩
  (try dsimp only at hi hv ⊢)
  repeat first|refine sgo ?_|refine sop ?_
  refine cnd (fun h => xAB ?_) (fun h => xAF ?_)
  · have hlt : i < l.length := by have h' := of_decide_eq_true h; omega
    obtain ⟨x, hx⟩ : ∃ m, l[i]? = some m := ⟨_, List.getElem?_eq_getElem hlt⟩
    have hxe := gm (enc := encM) (n := (i : Int)) hx (by omega)
    repeat first|refine sgo ?_|refine sop ?_
    refine cnd (fun h2 => ?_) (fun h2 => xAB ?_)
    · repeat first|refine sgo ?_|refine sop ?_
      have h2 : (x.kind == 5) = true := h2
      have e : (l.any fun m => m.kind == 5) = true := List.any_eq_true.2 ⟨x, List.mem_of_getElem? hx, h2⟩
      rw [e]
      exact xAC ⟨.inr rfl, oAny rfl⟩
    · repeat first|refine sgo ?_|refine sop ?_
      have h2 : (x.kind == 5) = false := h2
      refine agn (Q := fun _ _ => True) (i + 1) ⟨by omega, ?_⟩ xAg
      rw [List.take_add_one, hx, List.any_append, hv]
      simp [h2]
  · have hge : i = l.length := by have h' := of_decide_eq_false h; omega
    subst hge
    rw [List.take_length] at hv
    rw [hv]
    repeat first|refine sgo ?_|refine sop ?_
    exact xAC ⟨.inr rfl, oAny rfl⟩
theorem xJ1 {m : MsgL} {l : List SpanL} {i : Nat} {x : SpanL} (hx : l[i]? = some x) : inTo m (l.take (i + 1)) = inTo m (l.take i) ++ if xAI (xAd x (xAE m.to)) = true then [] else [xAd x (xAE m.to)] := by
  unfold inTo
  rw [List.take_add_one, hx, Option.toList_some, List.map_append, List.filter_append]
  congr 1
  cases h : xAI (xAd x (xAE m.to)) <;> simp [h]
theorem xGo {x : SpanL} {to : Str} (h : xAI (xAd x (xAE to)) = false) : xAD (xAd x (xAE to)).lo to = true := by
  have := xDE h
  rw [xCE, Bool.and_eq_true, xAX] at this
  exact this.2
theorem xGC (m : MsgL) (l : List SpanL) : (inTo m l).length ≤ l.length := by
  unfold inTo
  exact Nat.le_trans (List.length_filter_le ..) (by simp)
set_option maxHeartbeats 4000000 in
theorem xO9 {l : List SpanL} {m : MsgL} (ho : MsgOk m) (h8 : MsgLen 8 m) (hl : l.length ≤ 190) (hs : SpLen 100000 l) : VC Tryd.prog 40 [.sh false (l.map encS), .agg (encM m)] [] (.sh false ((xBU l m).map encS)) [] := by
  have hml : (l.map encS).length = l.length := List.length_map _
  have hk := ho.k
  have hne := ho.ne
  have hkl := h8.key
  have hfl := h8.fr
  have htl := h8.to
  have o1 := xKb m.key (by omega)
  have p1 := xCa m.to (by omega)
  have p2 := xCa m.fr (by omega)
  have ps1 := xBr (n := 100000) (p := m.to) (by omega)
  have r1 := xGZ (q := .sh false (l.map encS)) (p := .sh false ([oneL m.key].map encS)) (l := l) (m := [oneL m.key]) Sl.sh Sl.sh (by omega) (by simp)
  rw [← xGn] at r1
  have r3 := xGZ (q := .sh false (l.map encS)) (p := .sh false ([m.sp].map encS)) (l := l) (m := [m.sp]) Sl.sh Sl.sh (by omega) (by simp)
  rw [← xGn] at r3
  have r4 := xGZ (q := .sh false (l.map encS)) (p := .sh false ((xBI m).map encS)) (l := l) (m := xBI m) Sl.sh Sl.sh (by omega) (by unfold xBI; split <;> simp)
  rw [← xGn] at r4
  have hgl : (xAj l (xBI m)).length ≤ 400 := by
    have := xDy l (xBI m)
    have h2 : (xBI m).length ≤ 2 := by unfold xBI; split <;> simp
    omega
  have htot : (xAj l (xBI m) ++ (inTo m l).map (xAt m.to m.fr)).length ≤ 1000 := by
    have := xGC m l
    rw [List.length_append, List.length_map]; omega
  have hn := xF5 (q := .sh false ((xAj l (xBI m) ++ (inTo m l).map (xAt m.to m.fr)).map encS)) (l := xAj l (xBI m) ++ (inTo m l).map (xAt m.to m.fr)) Sl.sh (by omega)
  have hstep := fun i x hx => xJ1 (m := m) (l := l) (i := i) (x := x) hx
  have hit := fun i => xGC m (l.take i)
  have hfin : (m.kind = 4 ∨ m.kind = 5) → xBU l m = xAP (xAj l (xBI m) ++ (inTo m l).map (xAt m.to m.fr)) := fun h => by
    unfold xBU
    rw [if_neg (by omega), if_neg (by omega), if_neg (by omega)]
  have hg4 : m.kind = 4 → xBI m = [xAE m.to, xAE m.fr] := fun h => by unfold xBI; rw [if_pos h]
  have hg5 : m.kind = 5 → xBI m = [xAE m.to] := fun h => by unfold xBI; rw [if_neg (by omega)]
  by_cases h12 : m.kind = 1 ∨ m.kind = 2
  · have e : xBU l m = xAj l [oneL m.key] := by unfold xBU; rw [if_pos h12]
    rw [e]
    clear hfin hg4 hg5 hstep hit hn htot r4 hgl
    refine xHp ?_
    obtain ⟨k, m2, m3, m4, m5, m6, m7⟩ := m
    simp only at *
    rcases h12 with rfl | rfl
    · refine vcs vf40 ?_
      repeat first|refine sgo ?_|refine sop ?_
      refine cndt (xAB ?_)
      refine cndt ?_
      repeat first|refine sgo ?_|refine cv0 o1 ?_|refine cv r1 ?_|refine sop ?_
      exact xAC ⟨.inr rfl, oOwn rfl⟩
    · refine vcs vf40 ?_
      repeat first|refine sgo ?_|refine sop ?_
      refine cndf ?_
      repeat first|refine sgo ?_|refine sop ?_
      refine cndt ?_
      repeat first|refine sgo ?_|refine cv0 o1 ?_|refine cv r1 ?_|refine sop ?_
      exact xAC ⟨.inr rfl, oOwn rfl⟩
  by_cases h3 : m.kind = 3
  · have e : xBU l m = xAj l [m.sp] := by unfold xBU; rw [if_neg h12, if_pos h3]
    rw [e]
    clear hfin hg4 hg5 hstep hit hn htot r4 hgl
    refine xHp ?_
    obtain ⟨k, m2, m3, m4, m5, m6, m7⟩ := m
    simp only at *
    subst h3
    refine vcs vf40 ?_
    repeat first|refine sgo ?_|refine sop ?_
    refine cndf ?_
    repeat first|refine sgo ?_|refine sop ?_
    refine cndf ?_
    repeat first|refine sgo ?_|refine sop ?_
    refine cndt ?_
    repeat first|refine sgo ?_|refine cv r3 ?_|refine sop ?_
    exact xAC ⟨.inr rfl, oOwn rfl⟩
  by_cases h6 : m.kind = 6
  · have e : xBU l m = l := by unfold xBU; rw [if_neg h12, if_neg h3, if_pos h6]
    rw [e]
    clear hfin hg4 hg5 hstep hit hn htot r4 hgl
    obtain ⟨k, m2, m3, m4, m5, m6, m7⟩ := m
    simp only at *
    subst h6
    refine vcs vf40 ?_
    repeat first|refine sgo ?_|refine sop ?_
    refine cndf ?_
    repeat first|refine sgo ?_|refine sop ?_
    refine cndf ?_
    repeat first|refine sgo ?_|refine sop ?_
    refine cndf ?_
    repeat first|refine sgo ?_|refine sop ?_
    refine cndt ?_
    repeat first|refine sgo ?_|refine sop ?_
    exact xAC ⟨.inr rfl, oAny rfl⟩
  have h45 : m.kind = 4 ∨ m.kind = 5 := by omega
  have hto : m.to ≠ [] := (hne h45).2
  rw [hfin h45]
  refine xHp ?_
  have hbeg := fun x h => xGo (x := x) (to := m.to) h
  have hmsp := fun (x : SpanL) (hx : x ∈ l) => xEH (n := 100000) (by decide) (hs x hx) ps1
  generalize hG : xAj l (xBI m) = G0 at *
  obtain ⟨k, m2, m3, m4, m5, m6, m7⟩ := m
  simp only at *
  rcases h45 with rfl | rfl
  · rw [hg4 rfl] at r4
    refine vcs vf40 ?_
    repeat first|refine sgo ?_|refine sop ?_
    refine cndf ?_
    repeat first|refine sgo ?_|refine sop ?_
    refine cndf ?_
    repeat first|refine sgo ?_|refine sop ?_
    refine cndf ?_
    repeat first|refine sgo ?_|refine sop ?_
    refine cndf (xAB ?_)
    repeat first|refine sgo ?_|refine cv0 p1 ?_|refine sop ?_
    (first | refine cndf (xAB ?_) | refine cndt ?_)
    repeat first|refine sgo ?_|refine cv0 p2 ?_|refine o_v (vap encS (xAE m5) (ys := [xAE m6])) ?_|refine cv r4 ?_|refine sop ?_
    refine xAJ (fun (g : Nat × List SpanL) => [(0, .sh false (l.map encS)), (3, .ptr ⟨1, 0⟩ 1 0 0), (5, .ptr ⟨1, 73752⟩ 1 0 0), (7, ownV ⟨1, 106512⟩ (g.2.map encS)), (8, .int .i64 g.1)])
      (fun g => [(⟨1, 0⟩, ⟨true, false, 8, [encM ⟨4, m2, m3, m4, m5, m6, m7⟩]⟩), (⟨1, 73752⟩, ⟨true, false, 2, [encS (xAE m6)]⟩), (⟨1, 106512⟩, blkV 2 (g.2.map encS))]) (fun g => l.length - g.1)
      (fun g => g.1 ≤ l.length ∧ g.2 = G0 ++ (inTo ⟨4, m2, m3, m4, m5, m6, m7⟩ (l.take g.1)).map (xAt m6 m5)) (0, G0) xAg ⟨Nat.zero_le _, by simp [inTo]⟩ ?_
    rintro ⟨i, o⟩ ⟨hi, ho2⟩
    dsimp only at hi ho2 ⊢
    have hi2 := hit i
    have hol : o.length ≤ 1000 := by
      rw [List.length_take] at hi2
      rw [ho2, List.length_append, List.length_map]; omega
    repeat first|refine sgo ?_|refine sop ?_
    refine cnd (fun h => xAB ?_) (fun h => xAF ?_)
    · have hlt : i < l.length := by have h' := of_decide_eq_true h; omega
      obtain ⟨x, hx⟩ : ∃ m, l[i]? = some m := ⟨_, List.getElem?_eq_getElem hlt⟩
      have hxe := gm (enc := encS) (n := (i : Int)) hx (by omega)
      have hlt2 : (i : Int) < ((l.map encS).length : Nat) := by omega
      have hmt := xIc x (xAE m6)
      rw [← xIq] at hmt
      have hem := xCI (xAd x (xAE m6))
      have hsx := hmsp x (List.mem_of_getElem? hx)
      have hst := hstep i x hx
      have hbx := hbeg x
      generalize xAd x (xAE m6) = y at *
      cases hey : xAI y with
      | true =>
        rw [hey] at hem hst
        rw [if_pos rfl, List.append_nil] at hst
        repeat first|refine sgo ?_|refine cv0 hmt ?_|refine cv0 hem ?_|refine sop ?_
        refine cndf (xAB ?_)
        repeat first|refine sgo ?_|refine sop ?_
        exact agn (Q := fun _ _ => True) (i + 1, o) ⟨by simp only; omega, by simp only [hst]; exact ho2⟩ xAg
      | false =>
        rw [hey] at hem hst
        rw [if_neg (by simp)] at hst
        have hb := hbx hey
        have hmv := xHv (s := y) (f := m6) (t := m5) (by obtain ⟨r, hr⟩ := begins_iff.1 hb; rw [hr]; simp) (by omega) (by omega) (by omega) (by omega)
        repeat first|refine sgo ?_|refine cv0 hmt ?_|refine cv0 hem ?_|refine sop ?_
        refine cndt ?_
        repeat first|refine sgo ?_|refine cv0 hmv ?_|refine o_v (vap encS (xAt m6 m5 y)) ?_|refine sop ?_
        exact agn (Q := fun _ _ => True) (i + 1, o ++ [xAt m6 m5 y]) ⟨by simp only; omega, by simp only [hst, List.map_append, List.map_cons, List.map_nil]; rw [ho2, List.append_assoc]⟩ xAg
    · have hge : i = l.length := by have h' := of_decide_eq_false h; omega
      subst hge
      rw [List.take_length] at ho2
      rw [← ho2] at hn ⊢
      repeat first|refine sgo ?_|refine cv hn ?_|refine sop ?_
      exact xAC ⟨.inr rfl, oOwn rfl⟩
  · rw [hg5 rfl] at r4
    refine vcs vf40 ?_
    repeat first|refine sgo ?_|refine sop ?_
    refine cndf ?_
    repeat first|refine sgo ?_|refine sop ?_
    refine cndf ?_
    repeat first|refine sgo ?_|refine sop ?_
    refine cndf ?_
    repeat first|refine sgo ?_|refine sop ?_
    refine cndf (xAB ?_)
    repeat first|refine sgo ?_|refine cv0 p1 ?_|refine sop ?_
    (first | refine cndf (xAB ?_) | refine cndt ?_)
    repeat first|refine sgo ?_|refine cv0 p2 ?_|refine o_v (vap encS (xAE m5) (ys := [xAE m6])) ?_|refine cv r4 ?_|refine sop ?_
    refine xAJ (fun (g : Nat × List SpanL) => [(0, .sh false (l.map encS)), (3, .ptr ⟨1, 0⟩ 1 0 0), (5, .ptr ⟨1, 73752⟩ 1 0 0), (7, ownV ⟨1, 106512⟩ (g.2.map encS)), (8, .int .i64 g.1)])
      (fun g => [(⟨1, 0⟩, ⟨true, false, 8, [encM ⟨5, m2, m3, m4, m5, m6, m7⟩]⟩), (⟨1, 73752⟩, ⟨true, false, 2, [encS (xAE m6)]⟩), (⟨1, 106512⟩, blkV 2 (g.2.map encS))]) (fun g => l.length - g.1)
      (fun g => g.1 ≤ l.length ∧ g.2 = G0 ++ (inTo ⟨5, m2, m3, m4, m5, m6, m7⟩ (l.take g.1)).map (xAt m6 m5)) (0, G0) xAg ⟨Nat.zero_le _, by simp [inTo]⟩ ?_
    rintro ⟨i, o⟩ ⟨hi, ho2⟩
    dsimp only at hi ho2 ⊢
    have hi2 := hit i
    have hol : o.length ≤ 1000 := by
      rw [List.length_take] at hi2
      rw [ho2, List.length_append, List.length_map]; omega
    repeat first|refine sgo ?_|refine sop ?_
    refine cnd (fun h => xAB ?_) (fun h => xAF ?_)
    · have hlt : i < l.length := by have h' := of_decide_eq_true h; omega
      obtain ⟨x, hx⟩ : ∃ m, l[i]? = some m := ⟨_, List.getElem?_eq_getElem hlt⟩
      have hxe := gm (enc := encS) (n := (i : Int)) hx (by omega)
      have hlt2 : (i : Int) < ((l.map encS).length : Nat) := by omega
      have hmt := xIc x (xAE m6)
      rw [← xIq] at hmt
      have hem := xCI (xAd x (xAE m6))
      have hsx := hmsp x (List.mem_of_getElem? hx)
      have hst := hstep i x hx
      have hbx := hbeg x
      generalize xAd x (xAE m6) = y at *
      cases hey : xAI y with
      | true =>
        rw [hey] at hem hst
        rw [if_pos rfl, List.append_nil] at hst
        repeat first|refine sgo ?_|refine cv0 hmt ?_|refine cv0 hem ?_|refine sop ?_
        refine cndf (xAB ?_)
        repeat first|refine sgo ?_|refine sop ?_
        exact agn (Q := fun _ _ => True) (i + 1, o) ⟨by simp only; omega, by simp only [hst]; exact ho2⟩ xAg
      | false =>
        rw [hey] at hem hst
        rw [if_neg (by simp)] at hst
        have hb := hbx hey
        have hmv := xHv (s := y) (f := m6) (t := m5) (by obtain ⟨r, hr⟩ := begins_iff.1 hb; rw [hr]; simp) (by omega) (by omega) (by omega) (by omega)
        repeat first|refine sgo ?_|refine cv0 hmt ?_|refine cv0 hem ?_|refine sop ?_
        refine cndt ?_
        repeat first|refine sgo ?_|refine cv0 hmv ?_|refine o_v (vap encS (xAt m6 m5 y)) ?_|refine sop ?_
        exact agn (Q := fun _ _ => True) (i + 1, o ++ [xAt m6 m5 y]) ⟨by simp only; omega, by simp only [hst, List.map_append, List.map_cons, List.map_nil]; rw [ho2, List.append_assoc]⟩ xAg
    · have hge : i = l.length := by have h' := of_decide_eq_false h; omega
      subst hge
      rw [List.take_length] at ho2
      rw [← ho2] at hn ⊢
      repeat first|refine sgo ?_|refine cv hn ?_|refine sop ?_
      exact xAC ⟨.inr rfl, oOwn rfl⟩
theorem xRH {s : SpanL} : VC Tryd.prog 20 [.sh false ([s].map encS)] [] (.sh false ((xAP [s]).map encS)) [] := xHp (xF5 (l := [s]) Sl.sh (by simp))
theorem xJ5 {l : List MsgL} {i : Nat} {m : MsgL} (h : l[i]? = some m) (x : List SpanL) : (l.take (i + 1)).reverse.foldl xBU x = (l.take i).reverse.foldl xBU (xBU x m) := by
  rw [xId h, List.foldl_cons]
set_option maxHeartbeats 1000000 in
theorem xJV {s : SpanL} {l : List MsgL} (hl : l.length ≤ 40) (ho : ∀ m ∈ l, MsgOk m) (h8 : ∀ m ∈ l, MsgLen 8 m) (hs : s.lo.length ≤ 100 ∧ s.hi.length ≤ 100) : VC Tryd.prog 19 [.agg (encS s), .sh false (l.map encM)] [] (.sh false ((xBx s l.reverse).map encS)) [] := by
  have hml : (l.map encM).length = l.length := List.length_map _
  have hno := xRH (s := s)
  have hnl := xCk [s]
  have hsp0 : SpLen 100 (xAP [s]) := xCj fun x hx => by rw [List.mem_singleton] at hx; subst hx; exact hs
  refine vcs vf19 ?_
  repeat first|refine sgo ?_|refine cf hno ?_|refine sop ?_
  refine xAJ (fun (g : Nat × List SpanL) => [(1, .sh false (l.map encM)), (5, .sh false (g.2.map encS)), (6, .int .i64 ((g.1 : Int) - 1))]) (fun g => []) (fun g => g.1)
    (fun g => g.1 ≤ l.length ∧ (l.take g.1).reverse.foldl xBU g.2 = xBx s l.reverse ∧ Nrm g.2 ∧ g.2.length + 3 * g.1 ≤ 122 ∧ SpLen (100 + 8 * (40 - g.1)) g.2)
    (l.length, xAP [s]) (xAg (h1 := by refine ⟨rfl, rfl, ?_, trivial⟩; exact congrArg (fun z => some (PV.int .i64 z)) (by simp))) ⟨Nat.le_refl _, by simp only [List.take_length]; rfl, (xAp [s]).1, by simp only [List.length_cons, List.length_nil] at hnl ⊢; omega, hsp0.mono (by omega)⟩ ?_
  rintro ⟨i, d⟩ ⟨hi, hv, hd, hdl, hds⟩
  dsimp only at hi hv hd hdl hds ⊢
  repeat first|refine sgo ?_|refine sop ?_
  refine cnd (fun h => xAB ?_) (fun h => xAF ?_)
  · obtain ⟨j, rfl⟩ : ∃ j, i = j + 1 := ⟨i - 1, by have h' := of_decide_eq_true h; omega⟩
    obtain ⟨m, hx⟩ : ∃ m, l[j]? = some m := ⟨_, List.getElem?_eq_getElem (by omega)⟩
    have hxe := gm (enc := encM) (n := ((j + 1 : Nat) : Int) - 1) hx (by omega)
    have hlt2 : ((j + 1 : Nat) : Int) - 1 < ((l.map encM).length : Nat) := by omega
    have hge2 : 0 ≤ ((j + 1 : Nat) : Int) - 1 := by omega
    have hmem := List.mem_of_getElem? hx
    have hth := xO9 (l := d) (ho m hmem) (h8 m hmem) (by omega) (hds.mono (by omega))
    have htl := xIX (ho m hmem) hd
    have hts := xFG (n := 100 + 8 * (40 - (j + 1))) (b := 8) (by omega) hds (h8 m hmem)
    rw [xJ5 hx] at hv
    repeat first|refine sgo ?_|refine cf hth ?_|refine sop ?_
    exact agn (Q := fun _ _ => True) (j, xBU d m) ⟨by simp only; omega, hv, xEu hd m, by (try simp only); omega, hts.mono (by (try simp only); omega)⟩ (xAg (h1 := by refine ⟨rfl, rfl, ?_, trivial⟩; exact congrArg (fun z => some (PV.int .i64 z)) (by simp only; omega)))
  · have hi0 : i = 0 := by have h' := of_decide_eq_false h; omega
    subst hi0
    have hv : d = xBx s l.reverse := hv
    rw [← hv]
    repeat first|refine sgo ?_|refine sop ?_
    exact xAC ⟨.inr rfl, oAny rfl⟩
end Go.Proofs
open Go.V Go.Pu
set_option linter.unusedVariables false
set_option linter.unusedSimpArgs false
set_option maxRecDepth 20000
namespace Go.Proofs
def vc18 := vcm Tryd.prog 18
theorem vf18 : VF Tryd.prog 18 = some (85, vc18, [.tmp 4]) := by kernel_rfl
theorem xIw {l g : List SpanL} (hl : l.length ≤ 200) (hg : g.length ≤ 200) : VC Tryd.prog 33 [.sh false (g.map encS), .ptr ⟨0, 0⟩ 1 0 0] [⟨true, false, 1, [[.sh false (l.map encS)]]⟩] (ownV ⟨0, 1⟩ ((xAj l g).map encS)) [⟨true, false, 1, [[.sh false (l.map encS)]]⟩, blkV 2 ((xAj l g).map encS)] := by
  have h := xPW (q := .sh false (l.map encS)) (p := .sh false (g.map encS)) (l := l) (m := g) Sl.sh Sl.sh hl hg
  refine vcs vf33 ?_
  repeat first|refine sgo ?_|refine cv h ?_|refine sop ?_
  refine xAC ⟨.inr rfl, ?_⟩
  exact oG [⟨1, 8208⟩]
abbrev ST : Tmps := [(5, .ptr ⟨0, 1001⟩ 1 0 0), (18, .fn 52 [.ptr ⟨0, 1002⟩ 1 0 0])]
abbrev SH (l : List MsgL) (d : List SpanL) : Heap := [(⟨0, 1001⟩, ⟨true, false, 1, [[.sh false (d.map encS)]]⟩), (⟨0, 1002⟩, ⟨true, false, 1, [[.sh false (l.map encM)]]⟩)]
theorem gone4 {m : MsgL} (h : m.kind = 4) : xBI m = [xAE m.to, xAE m.fr] := by unfold xBI; rw [if_pos h]
theorem gone5 {m : MsgL} (h : m.kind = 5) : xBI m = [xAE m.to] := by unfold xBI; rw [if_neg (by omega)]
theorem thru45 {m : MsgL} (h : m.kind = 4 ∨ m.kind = 5) (l : List SpanL) : xBU l m = xAP (xAj l (xBI m) ++ (inTo m l).map (xAt m.to m.fr)) := by
  unfold xBU
  rw [if_neg (by omega), if_neg (by omega), if_neg (by omega)]
theorem xF3 {n : Nat} {p : Prop} (h : n = 0) (e : Nat.beq n 0 = false) : p := by subst h; cases e
set_option maxHeartbeats 8000000 in
theorem xIY {s : SpanL} {l : List MsgL} (hl : l.length ≤ 40) (ho : ∀ m ∈ l, MsgOk m) (h8 : ∀ m ∈ l, MsgLen 8 m) (hs : s.lo.length ≤ 100 ∧ s.hi.length ≤ 100) : VC Tryd.prog 18 [.agg (encS s), .sh false (l.map encM)] [] (.sh false ((xBx s l.reverse).map encS)) [] := by
  have hml : (l.map encM).length = l.length := List.length_map _
  have hno : VC Tryd.prog 32 [.sh false ([s].map encS)] [] (.sh false ((xAP [s]).map encS)) [] := xHp (xIm (xs := [s]) Sl.sh (by simp))
  have hnl := xCk [s]
  have hsp0 : SpLen 100 (xAP [s]) := xCj fun x hx => by rw [List.mem_singleton] at hx; subst hx; exact hs
  refine vcs vf18 ?_
  refine xBS (rg ?_)
  repeat first|refine xAb ?_|refine sop ?_
  refine nl ?_
  refine xBS (rg ?_)
  repeat first|refine xAb ?_|refine cf hno ?_|refine sop ?_
  refine nl ?_
  refine xB7 (lvl := 1) (fun _ => [(5, .ptr ⟨0, 1001⟩ 1 0 0)]) (fun (_ : Unit) => SH l (xBx s l.reverse)) (fun _ => True) ?_ ?_
  · repeat first|refine sgo ?_|refine cf (xL6 (l := l)) ?_|refine sop ?_
    refine rng (f := 52) (lvlI := 2) (T := ST) (H := SH l (xAP [s]))
      ((show Imp _ ⟨1, [(5, .ptr ⟨1, 8216⟩ 1 0 0), (18, .fn 52 [.ptr ⟨1, 16392⟩ 1 0 0])], [(⟨1, 8216⟩, ⟨true, false, 1, [[.sh false ((xAP [s]).map encS)]]⟩), (⟨1, 16392⟩, ⟨true, false, 1, [[.sh false (l.map encM)]]⟩)]⟩ from xAg).trans ((Imp.ren' (b := ⟨1, 8216⟩) (c := ⟨0, 1001⟩) (by decide) (.inr rfl)).trans (Imp.ren' (b := ⟨1, 16392⟩) (c := ⟨0, 1002⟩) (by decide) (.inr rfl))) |>.trans xAg) vf52 ?_
    intro y
    refine xFw (xBJ ?_)
    repeat first|refine sgo ?_|refine sop ?_
    refine xGI ?_
    refine xL2 (fun (g : Nat × List SpanL) => [(0, .yld y), (1, .ptr ⟨0, 1002⟩ 1 0 0), (3, .int .i64 ((g.1 : Int) - 1))]) (fun g => SH l g.2) (fun g => g.1)
      (fun g => g.1 ≤ l.length ∧ (l.take g.1).reverse.foldl xBU g.2 = xBx s l.reverse ∧ Nrm g.2 ∧ g.2.length + 3 * g.1 ≤ 122 ∧ SpLen (100 + 8 * (40 - g.1)) g.2)
      (l.length, xAP [s]) (xAg (h1 := by refine ⟨rfl, rfl, ?_, trivial⟩; exact congrArg (fun z => some (PV.int .i64 z)) (by simp))) ⟨Nat.le_refl _, by simp only [List.take_length]; rfl, (xAp [s]).1, by simp only [List.length_cons, List.length_nil] at hnl ⊢; omega, hsp0.mono (by omega)⟩ ?_
    rintro ⟨i, d⟩ ⟨hi, hv, hd, hdl, hds⟩
    dsimp only at hi hv hd hdl hds ⊢
    refine xFw (xBJ ?_)
    repeat first|refine sgo ?_|refine sop ?_
    refine cnd (fun h => xAB ?_) (fun h => xAF ?_)
    · obtain ⟨j, rfl⟩ : ∃ j, i = j + 1 := ⟨i - 1, by have h' := of_decide_eq_true h; omega⟩
      obtain ⟨m, hx⟩ : ∃ m, l[j]? = some m := ⟨_, List.getElem?_eq_getElem (by omega)⟩
      have hxe := gm (enc := encM) (n := ((j + 1 : Nat) : Int) - 1) hx (by omega)
      have hlt2 : ((j + 1 : Nat) : Int) - 1 < ((l.map encM).length : Nat) := by omega
      have hge2 : 0 ≤ ((j + 1 : Nat) : Int) - 1 := by omega
      have hmem := List.mem_of_getElem? hx
      have hmo := ho m hmem
      have hm8 := h8 m hmem
      have htl := xIX hmo hd
      have hts := xFG (n := 100 + 8 * (40 - (j + 1))) (b := 8) (by omega) hds hm8
      have htn := xEu hd m
      have hdz : SpLen 100000 d := hds.mono (by omega)
      have hmz := MsgSz.of hmo hm8
      have hkey := hm8.key
      have hfl := hm8.fr
      have htol := hm8.to
      have hne := hmo.ne
      have hk6 := hmz.k
      rw [xJ5 hx] at hv
      have hts' : SpLen (100 + 8 * (40 - j)) (xBU d m) := hts.mono (by omega)
      have t12 : (m.kind = 1 ∨ m.kind = 2) → xBU d m = xAj d [oneL m.key] := fun h => by unfold xBU; rw [if_pos h]
      have t3 : m.kind = 3 → xBU d m = xAj d [m.sp] := fun h => by unfold xBU; rw [if_neg (by omega), if_pos h]
      have t6 : m.kind = 6 → xBU d m = d := fun h => by unfold xBU; rw [if_neg (by omega), if_neg (by omega), if_pos h]
      have t45 := fun h => thru45 (m := m) h d
      have c1 := xIw (l := d) (g := [oneL m.key]) (by omega) (by simp)
      have c3 := xIw (l := d) (g := [m.sp]) (by omega) (by simp)
      have c4 := xIw (l := d) (g := xBI m) (by omega) (by unfold xBI; split <;> simp)
      have g4 := fun h => gone4 (m := m) h
      have g5 := fun h => gone5 (m := m) h
      have o1 := one_vc m.key (by omega)
      have p1 := xGd m.to (by omega)
      have p2 := xGd m.fr (by omega)
      have hgl : (xAj d (xBI m)).length ≤ 400 := by
        have := xDy d (xBI m)
        have h2 : (xBI m).length ≤ 2 := by unfold xBI; split <;> simp
        omega
      have hit := fun i => xGC m (d.take i)
      have hstep := fun i x hx => xJ1 (m := m) (l := d) (i := i) (x := x) hx
      have hbeg := fun x h => xGo (x := x) (to := m.to) h
      have ps1 := xBr (n := 100000) (p := m.to) (by omega)
      have hmsp := fun (x : SpanL) (hx : x ∈ d) => xEH (n := 100000) (by decide) (hdz x hx) ps1
      have htot : (xAj d (xBI m) ++ (inTo m d).map (xAt m.to m.fr)).length ≤ 1000 := by
        have := xGC m d
        rw [List.length_append, List.length_map]; omega
      have hnn : VC Tryd.prog 32 [.sh false ((xAj d (xBI m) ++ (inTo m d).map (xAt m.to m.fr)).map encS)] [] (.sh false ((xAP (xAj d (xBI m) ++ (inTo m d).map (xAt m.to m.fr))).map encS)) [] := xHp (xIm (xs := xAj d (xBI m) ++ (inTo m d).map (xAt m.to m.fr)) Sl.sh (by omega))
      clear hmz hmem h8 ho hm8 hmo hds hts hsp0
      obtain ⟨mk, m2, m3, m4, m5, m6, m7⟩ := m
      simp only at t12 t3 t6 t45 c1 c3 g4 g5 hk6 hne o1 p1 p2 hfl htol hkey hbeg hmsp hstep htot hnn ps1
      refine xFw (xGI (xFw (xKI (xLH 6 ?_))))
      repeat first|refine sgo ?_|refine sop ?_
      refine yl (T := [(0, .yld y), (1, .ptr ⟨0, 1002⟩ 1 0 0), (3, .int .i64 (((j + 1 : Nat) : Int) - 1)), (11, .yld y), (12, .int .i64 (((j + 1 : Nat) : Int) - 1)), (16, .agg (encM ⟨mk, m2, m3, m4, m5, m6, m7⟩))]) (H := SH l d) 3 xAg ?_
      repeat first|refine sgo ?_|refine sop ?_
      refine ⟨rfl, ?_⟩
      rcases six hk6 with rfl | rfl | rfl | rfl | rfl | rfl
      · rw [t12 (.inl rfl)] at hv htl hts' htn
        clear t12 t3 t6 t45 c3 c4 g4 g5 hit hstep hbeg hmsp ps1 htot hnn hgl
        repeat first|refine sgo ?_|refine sop ?_
        refine cndt (xAB ?_)
        refine cndt ?_
        repeat first|refine sgo ?_|refine cv0 o1 ?_|refine sop ?_
        refine sqi (Imp.wr (t := 31) rfl (xAV rfl rfl)) ?_
        repeat first|refine sgo ?_|refine cl (lent := [⟨0, 1001⟩]) c1 ?_|refine sop ?_
        refine xAy ?_
        repeat first|refine sgo ?_|refine sop ?_
        refine xCT (xBJ (xAB ?_))
        refine xBJ ?_
        repeat first|refine sgo ?_|refine sop ?_
        exact agL (j, xAj d [oneL m2]) ⟨by simp only; omega, hv, htn, by simp only; omega, hts'⟩ ((Imp.wrC (b1 := ⟨0, 1001⟩) (c := ⟨3, 65576⟩) 0 rfl rfl rfl rfl).trans (xAg (h1 := by refine ⟨rfl, rfl, ?_, trivial⟩; exact congrArg (fun z => some (PV.int .i64 z)) (by simp only; omega)) (h5 := by repeat' first|exact trivial|apply And.intro|(intro h; first|exact xF3 h rfl|rfl))))
      · rw [t12 (.inr rfl)] at hv htl hts' htn
        clear t12 t3 t6 t45 c3 c4 g4 g5 hit hstep hbeg hmsp ps1 htot hnn hgl
        repeat first|refine sgo ?_|refine sop ?_
        refine cndf ?_
        repeat first|refine sgo ?_|refine sop ?_
        refine cndt ?_
        repeat first|refine sgo ?_|refine cv0 o1 ?_|refine sop ?_
        refine sqi (Imp.wr (t := 31) rfl (xAV rfl rfl)) ?_
        repeat first|refine sgo ?_|refine cl (lent := [⟨0, 1001⟩]) c1 ?_|refine sop ?_
        refine xAy ?_
        repeat first|refine sgo ?_|refine sop ?_
        refine xCT (xBJ (xAB ?_))
        refine xBJ ?_
        repeat first|refine sgo ?_|refine sop ?_
        exact agL (j, xAj d [oneL m2]) ⟨by simp only; omega, hv, htn, by simp only; omega, hts'⟩ ((Imp.wrC (b1 := ⟨0, 1001⟩) (c := ⟨3, 65576⟩) 0 rfl rfl rfl rfl).trans (xAg (h1 := by refine ⟨rfl, rfl, ?_, trivial⟩; exact congrArg (fun z => some (PV.int .i64 z)) (by simp only; omega)) (h5 := by repeat' first|exact trivial|apply And.intro|(intro h; first|exact xF3 h rfl|rfl))))
      · rw [t3 rfl] at hv htl hts' htn
        clear t12 t3 t6 t45 c1 c4 g4 g5 hit hstep hbeg hmsp ps1 htot hnn hgl
        repeat first|refine sgo ?_|refine sop ?_
        refine cndf ?_
        repeat first|refine sgo ?_|refine sop ?_
        refine cndf ?_
        repeat first|refine sgo ?_|refine sop ?_
        refine cndt ?_
        repeat first|refine sgo ?_|refine sop ?_
        refine sqi (Imp.wr (t := 38) rfl (xAV rfl rfl)) ?_
        repeat first|refine sgo ?_|refine cl (lent := [⟨0, 1001⟩]) c3 ?_|refine sop ?_
        refine xAy ?_
        repeat first|refine sgo ?_|refine sop ?_
        refine xCT (xBJ (xAB ?_))
        refine xBJ ?_
        repeat first|refine sgo ?_|refine sop ?_
        exact agL (j, xAj d [m4]) ⟨by simp only; omega, hv, htn, by simp only; omega, hts'⟩ ((Imp.wrC (b1 := ⟨0, 1001⟩) (c := ⟨3, 81952⟩) 0 rfl rfl rfl rfl).trans (xAg (h1 := by refine ⟨rfl, rfl, ?_, trivial⟩; exact congrArg (fun z => some (PV.int .i64 z)) (by simp only; omega)) (h5 := by repeat' first|exact trivial|apply And.intro|(intro h; first|exact xF3 h rfl|rfl))))
      · rw [t45 (.inl rfl)] at hv htl hts' htn
        rw [g4 rfl] at c4
        have hto : m6 ≠ [] := (hne (.inl rfl)).2
        clear t12 t3 t6 t45 c1 c3
        generalize hG : xAj d (xBI ⟨4, m2, m3, m4, m5, m6, m7⟩) = G0 at *
        rw [g4 rfl] at hG
        rw [hG] at c4
        repeat first|refine sgo ?_|refine sop ?_
        refine cndf ?_
        repeat first|refine sgo ?_|refine sop ?_
        refine cndf ?_
        repeat first|refine sgo ?_|refine sop ?_
        refine cndf ?_
        repeat first|refine sgo ?_|refine sop ?_
        refine cndt (xAB ?_)
        refine cndt ?_
        repeat first|refine sgo ?_|refine cv0 p1 ?_|refine sop ?_
        refine cndt ?_
        repeat first|refine sgo ?_|refine cv0 p2 ?_|refine o_v (vap encS (xAE m5) (ys := [xAE m6])) ?_|refine sop ?_
        refine sqi (Imp.wr (t := 58) rfl (xAV rfl rfl)) ?_
        repeat first|refine sgo ?_|refine cl (lent := [⟨0, 1001⟩]) c4 ?_|refine sop ?_
        refine xAJ (fun (g : Nat × List SpanL) => [(5, .ptr ⟨0, 1001⟩ 1 0 0), (18, .fn 52 [.ptr ⟨0, 1002⟩ 1 0 0]), (7, .ptr ⟨3, 24576⟩ 1 0 0), (9, .ptr ⟨3, 106520⟩ 1 0 0), (11, ownV ⟨3, 139280⟩ (g.2.map encS)), (60, .sh false (d.map encS)), (61, .int .i64 (d.map encS).length), (62, .int .i64 g.1)])
          (fun g => SH l d ++ [(⟨3, 24576⟩, ⟨true, false, 8, [encM ⟨4, m2, m3, m4, m5, m6, m7⟩]⟩), (⟨3, 106520⟩, ⟨true, false, 2, [encS (xAE m6)]⟩), (⟨3, 139280⟩, blkV 2 (g.2.map encS))]) (fun g => d.length - g.1)
          (fun g => g.1 ≤ d.length ∧ g.2 = G0 ++ (inTo ⟨4, m2, m3, m4, m5, m6, m7⟩ (d.take g.1)).map (xAt m6 m5)) (0, G0) (xAg (h5 := by repeat' first|exact trivial|apply And.intro|(intro h; first|exact xF3 h rfl|rfl))) ⟨Nat.zero_le _, by simp [inTo]⟩ ?_
        rintro ⟨i, o⟩ ⟨hi3, ho2⟩
        dsimp only at hi3 ho2 ⊢
        have hi2 := hit i
        have hol : o.length ≤ 1000 := by
          rw [List.length_take] at hi2
          rw [ho2, List.length_append, List.length_map]; omega
        have hdm : (d.map encS).length = d.length := List.length_map _
        repeat first|refine sgo ?_|refine sop ?_
        refine cnd (fun h3 => xAB ?_) (fun h3 => xAF ?_)
        · have hlt : i < d.length := by have h' := of_decide_eq_true h3; omega
          obtain ⟨x, hx2⟩ : ∃ m, d[i]? = some m := ⟨_, List.getElem?_eq_getElem hlt⟩
          have hxe2 := gm (enc := encS) (n := (i : Int)) hx2 (by omega)
          have hlt3 : (i : Int) < ((d.map encS).length : Nat) := by omega
          have hmt := xKp x (xAE m6)
          have hem := xEM (xAd x (xAE m6))
          have hsx := hmsp x (List.mem_of_getElem? hx2)
          have hst := hstep i x hx2
          have hbx := hbeg x
          generalize xAd x (xAE m6) = z at *
          cases hey : xAI z with
          | true =>
            rw [hey] at hem hst
            rw [if_pos rfl, List.append_nil] at hst
            repeat first|refine sgo ?_|refine cv0 hmt ?_|refine cv0 hem ?_|refine sop ?_
            refine cndf (xAB ?_)
            repeat first|refine sgo ?_|refine sop ?_
            exact agn (Q := fun _ _ => True) (i + 1, o) ⟨by simp only; omega, by simp only [hst]; exact ho2⟩ (xAg (h5 := by repeat' first|exact trivial|apply And.intro|(intro h; first|exact xF3 h rfl|rfl)))
          | false =>
            rw [hey] at hem hst
            rw [if_neg (by simp)] at hst
            have hb := hbx hey
            have hmv := xKJ (s := z) (to := m6) (fr := m5) hto hb (by omega) (by omega) (by omega) (by omega)
            repeat first|refine sgo ?_|refine cv0 hmt ?_|refine cv0 hem ?_|refine sop ?_
            refine cndt ?_
            repeat first|refine sgo ?_|refine cv0 hmv ?_|refine o_v (vap encS (xAt m6 m5 z)) ?_|refine sop ?_
            exact agn (Q := fun _ _ => True) (i + 1, o ++ [xAt m6 m5 z]) ⟨by simp only; omega, by simp only [hst, List.map_append, List.map_cons, List.map_nil]; rw [ho2, List.append_assoc]⟩ (xAg (h5 := by repeat' first|exact trivial|apply And.intro|(intro h; first|exact xF3 h rfl|rfl)))
        · have hge : i = d.length := by have h' := of_decide_eq_false h3; omega
          subst hge
          rw [List.take_length] at ho2
          rw [← ho2] at hnn hv htl hts' htn
          repeat first|refine sgo ?_|refine cf hnn ?_|refine sop ?_
          refine xAy ?_
          repeat first|refine sgo ?_|refine sop ?_
          refine xCT (xBJ (xAB ?_))
          refine xBJ ?_
          repeat first|refine sgo ?_|refine sop ?_
          exact agL (j, xAP o) ⟨by simp only; omega, hv, htn, by simp only; omega, hts'⟩ (xAg (h1 := by refine ⟨rfl, rfl, ?_, trivial⟩; exact congrArg (fun z => some (PV.int .i64 z)) (by simp only; omega)) (h5 := by repeat' first|exact trivial|apply And.intro|(intro h; first|exact xF3 h rfl|rfl)))
      · rw [t45 (.inr rfl)] at hv htl hts' htn
        rw [g5 rfl] at c4
        have hto : m6 ≠ [] := (hne (.inr rfl)).2
        clear t12 t3 t6 t45 c1 c3
        generalize hG : xAj d (xBI ⟨5, m2, m3, m4, m5, m6, m7⟩) = G0 at *
        rw [g5 rfl] at hG
        rw [hG] at c4
        repeat first|refine sgo ?_|refine sop ?_
        refine cndf ?_
        repeat first|refine sgo ?_|refine sop ?_
        refine cndf ?_
        repeat first|refine sgo ?_|refine sop ?_
        refine cndf ?_
        repeat first|refine sgo ?_|refine sop ?_
        refine cndf ?_
        repeat first|refine sgo ?_|refine sop ?_
        refine cndt ?_
        repeat first|refine sgo ?_|refine cv0 p1 ?_|refine sop ?_
        refine cndf (xAB ?_)
        repeat first|refine sgo ?_|refine sop ?_
        refine sqi (Imp.wr (t := 58) rfl (xAV rfl rfl)) ?_
        repeat first|refine sgo ?_|refine cl (lent := [⟨0, 1001⟩]) c4 ?_|refine sop ?_
        refine xAJ (fun (g : Nat × List SpanL) => [(5, .ptr ⟨0, 1001⟩ 1 0 0), (18, .fn 52 [.ptr ⟨0, 1002⟩ 1 0 0]), (7, .ptr ⟨3, 24576⟩ 1 0 0), (9, .ptr ⟨3, 106520⟩ 1 0 0), (11, ownV ⟨3, 139280⟩ (g.2.map encS)), (60, .sh false (d.map encS)), (61, .int .i64 (d.map encS).length), (62, .int .i64 g.1)])
          (fun g => SH l d ++ [(⟨3, 24576⟩, ⟨true, false, 8, [encM ⟨5, m2, m3, m4, m5, m6, m7⟩]⟩), (⟨3, 106520⟩, ⟨true, false, 2, [encS (xAE m6)]⟩), (⟨3, 139280⟩, blkV 2 (g.2.map encS))]) (fun g => d.length - g.1)
          (fun g => g.1 ≤ d.length ∧ g.2 = G0 ++ (inTo ⟨5, m2, m3, m4, m5, m6, m7⟩ (d.take g.1)).map (xAt m6 m5)) (0, G0) (xAg (h5 := by repeat' first|exact trivial|apply And.intro|(intro h; first|exact xF3 h rfl|rfl))) ⟨Nat.zero_le _, by simp [inTo]⟩ ?_
        rintro ⟨i, o⟩ ⟨hi3, ho2⟩
        dsimp only at hi3 ho2 ⊢
        have hi2 := hit i
        have hol : o.length ≤ 1000 := by
          rw [List.length_take] at hi2
          rw [ho2, List.length_append, List.length_map]; omega
        have hdm : (d.map encS).length = d.length := List.length_map _
        repeat first|refine sgo ?_|refine sop ?_
        refine cnd (fun h3 => xAB ?_) (fun h3 => xAF ?_)
        · have hlt : i < d.length := by have h' := of_decide_eq_true h3; omega
          obtain ⟨x, hx2⟩ : ∃ m, d[i]? = some m := ⟨_, List.getElem?_eq_getElem hlt⟩
          have hxe2 := gm (enc := encS) (n := (i : Int)) hx2 (by omega)
          have hlt3 : (i : Int) < ((d.map encS).length : Nat) := by omega
          have hmt := xKp x (xAE m6)
          have hem := xEM (xAd x (xAE m6))
          have hsx := hmsp x (List.mem_of_getElem? hx2)
          have hst := hstep i x hx2
          have hbx := hbeg x
          generalize xAd x (xAE m6) = z at *
          cases hey : xAI z with
          | true =>
            rw [hey] at hem hst
            rw [if_pos rfl, List.append_nil] at hst
            repeat first|refine sgo ?_|refine cv0 hmt ?_|refine cv0 hem ?_|refine sop ?_
            refine cndf (xAB ?_)
            repeat first|refine sgo ?_|refine sop ?_
            exact agn (Q := fun _ _ => True) (i + 1, o) ⟨by simp only; omega, by simp only [hst]; exact ho2⟩ (xAg (h5 := by repeat' first|exact trivial|apply And.intro|(intro h; first|exact xF3 h rfl|rfl)))
          | false =>
            rw [hey] at hem hst
            rw [if_neg (by simp)] at hst
            have hb := hbx hey
            have hmv := xKJ (s := z) (to := m6) (fr := m5) hto hb (by omega) (by omega) (by omega) (by omega)
            repeat first|refine sgo ?_|refine cv0 hmt ?_|refine cv0 hem ?_|refine sop ?_
            refine cndt ?_
            repeat first|refine sgo ?_|refine cv0 hmv ?_|refine o_v (vap encS (xAt m6 m5 z)) ?_|refine sop ?_
            exact agn (Q := fun _ _ => True) (i + 1, o ++ [xAt m6 m5 z]) ⟨by simp only; omega, by simp only [hst, List.map_append, List.map_cons, List.map_nil]; rw [ho2, List.append_assoc]⟩ (xAg (h5 := by repeat' first|exact trivial|apply And.intro|(intro h; first|exact xF3 h rfl|rfl)))
        · have hge : i = d.length := by have h' := of_decide_eq_false h3; omega
          subst hge
          rw [List.take_length] at ho2
          rw [← ho2] at hnn hv htl hts' htn
          repeat first|refine sgo ?_|refine cf hnn ?_|refine sop ?_
          refine xAy ?_
          repeat first|refine sgo ?_|refine sop ?_
          refine xCT (xBJ (xAB ?_))
          refine xBJ ?_
          repeat first|refine sgo ?_|refine sop ?_
          exact agL (j, xAP o) ⟨by simp only; omega, hv, htn, by simp only; omega, hts'⟩ (xAg (h1 := by refine ⟨rfl, rfl, ?_, trivial⟩; exact congrArg (fun z => some (PV.int .i64 z)) (by simp only; omega)) (h5 := by repeat' first|exact trivial|apply And.intro|(intro h; first|exact xF3 h rfl|rfl)))
      · rw [t6 rfl] at hv htl hts' htn
        clear t12 t3 t6 t45 c1 c3 c4 g4 g5 hit hstep hbeg hmsp ps1 htot hnn hgl
        repeat first|refine sgo ?_|refine sop ?_
        refine cndf ?_
        repeat first|refine sgo ?_|refine sop ?_
        refine cndf ?_
        repeat first|refine sgo ?_|refine sop ?_
        refine cndf ?_
        repeat first|refine sgo ?_|refine sop ?_
        refine cndf ?_
        repeat first|refine sgo ?_|refine sop ?_
        refine cndf (xAB ?_)
        refine xAy ?_
        repeat first|refine sgo ?_|refine sop ?_
        refine xCT (xBJ (xAB ?_))
        refine xBJ ?_
        repeat first|refine sgo ?_|refine sop ?_
        exact agL (j, d) ⟨by simp only; omega, hv, htn, by simp only; omega, hts'⟩ ((xAg (h1 := by refine ⟨rfl, rfl, ?_, trivial⟩; exact congrArg (fun z => some (PV.int .i64 z)) (by simp only; omega)) (h5 := by repeat' first|exact trivial|apply And.intro|(intro h; first|exact xF3 h rfl|rfl))))
    · have hi0 : i = 0 := by have h' := of_decide_eq_false h; omega
      subst hi0
      have hv : d = xBx s l.reverse := hv
      rw [← hv]
      exact mid0 () trivial xAg
  · intro _ _
    repeat first|refine sgo ?_|refine sop ?_
    exact xAC ⟨.inr rfl, oAny rfl⟩
end Go.Proofs
