/- LNeeds -/
import Derived.Test.YtlpjfoijjlmgeaaGreatDoorHc
import Derived.Test.YtlpjfoijjlmgeaaGreatDoorPu
open Go.V Go.Pu
set_option linter.unusedVariables false
set_option linter.unusedSimpArgs false
set_option maxRecDepth 20000
namespace Go.Proofs
def vc3 := vcm Tryz.prog 3
theorem vf3 : VF Tryz.prog 3 = some (64, vc3, [.tmp 6]) := by kernel_rfl
theorem xQI {x y : List PairL} (hx : TabOk 40 20 x) {N : Nat} (hy : TabOk N 20 y) (s : SpanL) : TabOk (N + 40) 20 (xAk (xAx y s) (xAh x s)) := by
  refine ⟨xAY (xBP hy.s s) (xB4 hx.s s), ?_, fun p hp => ?_⟩
  · have h1 := xDI (xAx y s) (xAh x s)
    have h2 : (xAx y s).length ≤ y.length := List.length_filter_le ..
    have h3 : (xAh x s).length ≤ x.length := List.length_filter_le ..
    have := hx.l
    have := hy.l
    omega
  · rcases xCM _ _ hp with h | h
    · exact hy.k p (List.mem_filter.1 h).1
    · exact hx.k p (List.mem_filter.1 h).1
set_option maxHeartbeats 4000000 in
theorem xJp (ts us : List RawL) {xs : List RawM} (hx1 : xs.length ≤ 9223372036854775807) (hx2 : ∀ r ∈ xs, r.ok) {b c : Nat} (hb : b < 256) (hc : c < 256) : VC Tryz.prog 3 [.agg [.sh false (ts.map encR), .sh false (us.map encR)], .sh false (xs.map encW), .agg [.int .u8 b, .int .u8 c]] [] (.bool true) [] := by
  have hss := xJb
  have l1 := listC hx1 hx2 10 (by omega)
  have n1 := xRN xs 10
  have o1 : ∀ m ∈ xD9 xs 10, MsgOk m := xOb
  have s1 : ∀ m ∈ xD9 xs 10, MsgLen 8 m := xL6
  generalize xD9 xs 10 = l at l1 n1 o1 s1
  have m1 := xSn ts
  have t1 := xG6 ts
  generalize xGJ ts = x at m1 t1
  have m2 := xSn us
  have t2 := xG6 us
  generalize xGJ us = y at m2 t2
  have hsp := xPb hb hc
  have hsl := @xNa b c
  generalize xMj b c = sp at *
  have p1 := xLW (s := sp) (l := l) (by omega) o1 s1 ⟨by omega, by omega⟩
  have z1 := xNZ sp (r := l.reverse) (fun m hm => o1 m (List.mem_reverse.1 hm))
  rw [List.length_reverse] at z1
  have nd := xOM t1.s t2.s o1 sp
  generalize xBh sp l.reverse = bl at *
  have hbm : (bl.map encS).length = bl.length := List.length_map _
  have g1 : decide (((bl.map encS).length : Int) > 400) = false := decide_eq_false (by omega)
  have al := xPT (l := l) (t := x) (N := 40) (B := 20) (n := 10) t1 (by decide) (by decide) n1 (by decide) (by decide) o1 s1
  have ta := xRt (l := l) (n := 10) t1 (by decide) (by decide) n1 (by decide) s1
  have x1 := t1.l
  refine vcs vf3 ?_
  repeat first|refine sgo ?_|refine cv0 hss ?_|refine cf m1 ?_|refine cf m2 ?_|refine cf l1 ?_|refine cv0 hsp ?_|refine cf p1 ?_|refine sop ?_
  refine cndf (xAB ?_)
  repeat first|refine sgo ?_|refine sop ?_
  refine xAK (fun (g : Nat × List PairL) => [(7, .bool true), (8, .sh false (x.map encP)), (9, .sh false (g.2.map encP)), (10, .sh false (l.map encM)), (11, .ptr ⟨1, 24592⟩ 1 0 0), (12, .sh false (bl.map encS)), (13, .int .i64 g.1)])
    (fun _ => [(⟨1, 24592⟩, ⟨true, false, 2, [encS sp]⟩)]) (fun g => bl.length - g.1) (fun g => g.1 ≤ bl.length ∧ g.2 = xJv x y (bl.take g.1) ∧ TabOk (40 + 40 * g.1) 20 g.2) (0, y) xA7 ⟨Nat.zero_le _, rfl, t2⟩ ?_
  rintro ⟨i, v⟩ ⟨hi, hv, ht⟩
  dsimp only at hi hv ht ⊢
  repeat first|refine sgo ?_|refine sop ?_
  refine cnd (fun h => xAB ?_) (fun h => xAE ?_)
  · have hlt : i < bl.length := by have h' := of_decide_eq_true h; omega
    obtain ⟨u, hu⟩ : ∃ u, bl[i]? = some u := ⟨_, List.getElem?_eq_getElem hlt⟩
    have hue := gm (enc := encS) (n := (i : Int)) hu (by omega)
    have hlt2 : (i : Int) < ((bl.map encS).length : Nat) := by omega
    have hl := ht.l
    have d1 : VC Tryz.prog 11 [.sh false (v.map encP), .agg (encS u)] [] (.sh false ((xAx v u).map encP)) [] := xC5 (xPf u Sl.sh (by omega))
    have r1 : VC Tryz.prog 12 [.sh false (x.map encP), .agg (encS u)] [] (.sh false ((xAh x u).map encP)) [] := xC5 (xGf u Sl.sh (by omega))
    have dl : (xAx v u).length ≤ v.length := List.length_filter_le ..
    have rl : (xAh x u).length ≤ x.length := List.length_filter_le ..
    have u1 : VC Tryz.prog 10 [.sh false ((xAx v u).map encP), .sh false ((xAh x u).map encP)] [] (.sh false (((xAh x u).foldl putL (xAx v u)).map encP)) [] := xC5 (xNt (a := xAx v u) (b := xAh x u) Sl.sh Sl.sh (by omega) (by omega))
    rw [xFW (xBP ht.s u) (xB4 t1.s u)] at u1
    have hst := xOP (x := x) (y := y) hu
    rw [← hv] at hst
    have htb := xQI t1 ht u
    generalize xAk (xAx v u) (xAh x u) = w at *
    repeat first|refine sgo ?_|refine cf d1 ?_|refine cf r1 ?_|refine cf u1 ?_|refine sop ?_
    exact agn (Q := fun _ _ => True) (i + 1, w) ⟨by simp only; omega, by simp only [hst], by simp only; exact htb⟩ xA7
  · have hge : i = bl.length := by have h' := of_decide_eq_false h; omega
    subst hge
    rw [List.take_length] at hv
    have hbl : bl.length ≤ 31 := by omega
    have ht' : TabOk 1280 20 v := ht.mono (by omega) (Nat.le_refl _)
    have bl2 := xPT (l := l) (t := v) (N := 1280) (B := 20) (n := 10) ht' (by decide) (by decide) n1 (by decide) (by decide) o1 s1
    have tb := xRt (l := l) (n := 10) ht' (by decide) (by decide) n1 (by decide) s1
    rw [← hv] at nd
    have ax : (allT x l).length ≤ 49000000 := Nat.le_trans ta.l (by decide)
    have av : (allT v l).length ≤ 49000000 := Nat.le_trans tb.l (by decide)
    have r1 : VC Tryz.prog 12 [.sh false ((allT x l).map encP), .agg (encS sp)] [] (.sh false ((xAh (allT x l) sp).map encP)) [] := xC5 (xGf sp Sl.sh (by omega))
    have r2 : VC Tryz.prog 12 [.sh false ((allT v l).map encP), .agg (encS sp)] [] (.sh false ((xAh (allT v l) sp).map encP)) [] := xC5 (xGf sp Sl.sh (by omega))
    rw [nd] at r2
    have q1 := xSD (t := xAh (allT x l) sp) (Nat.le_trans (List.length_filter_le ..) (by omega))
    generalize xAh (allT x l) sp = r at *
    generalize allT x l = a1 at *
    generalize allT v l = a2 at *
    repeat first|refine sgo ?_|refine cf al ?_|refine cf bl2 ?_|refine cf r1 ?_|refine cf r2 ?_|refine cv0 q1 ?_|refine sop ?_
    exact xAC ⟨.inr rfl, oB rfl⟩
theorem traceNeeds_in (t : List PV) (nt : t.length = [CTy.sl [.int .u8, .int .u8, .int .u8], .sl [.int .u8, .int .u8, .int .u8]].length) (it : ∀ (j : Nat) (c : CTy) (p : PV), [CTy.sl [.int .u8, .int .u8, .int .u8], .sl [.int .u8, .int .u8, .int .u8]][j]? = some c → t[j]? = some p → InTy c p) (l : List (List PV)) (il : InTy (.sl [.int .u8, .int .u8, .int .u8, .int .u8, .int .u8, .int .u8]) (.sh false l)) (w : List PV) (nw : w.length = [CTy.int .u8, .int .u8].length) (iw : ∀ (j : Nat) (c : CTy) (p : PV), [CTy.int .u8, .int .u8][j]? = some c → w[j]? = some p → InTy c p) : VC Tryz.prog 3 [.agg t, .sh false l, .agg w] [] (.bool true) [] := by
  obtain ⟨a, b, rfl⟩ := list2 nt
  obtain ⟨t1, rfl, i1⟩ := in_sl (it 0 _ _ rfl rfl)
  obtain ⟨t2, rfl, i2⟩ := in_sl (it 1 _ _ rfl rfl)
  obtain ⟨ts, rfl, _⟩ := decR i1
  obtain ⟨us, rfl, _⟩ := decR i2
  obtain ⟨xs, rfl, h1, h2⟩ := decWs il
  obtain ⟨b, c, rfl, hb, hc⟩ := dec2 nw iw
  exact xJp ts us h2 h1 hb hc
end Go.Proofs
