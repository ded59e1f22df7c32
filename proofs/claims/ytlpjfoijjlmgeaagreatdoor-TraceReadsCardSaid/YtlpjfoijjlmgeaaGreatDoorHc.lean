/- Hc -/
import Derived.Test.YtlpjfoijjlmgeaaGreatDoorHb
import Derived.Test.YtlpjfoijjlmgeaaGreatDoorTb
import Derived.Test.YtlpjfoijjlmgeaaGreatDoorVD
import Derived.LaidMore
open Go.V Go.Pu
set_option linter.unusedVariables false
set_option linter.unusedSimpArgs false
set_option maxRecDepth 20000
namespace Go.Proofs
def vc8 := vcm Tryz.prog 8
theorem vf8 : VF Tryz.prog 8 = some (30, vc8, [.cell true 2 2]) := by kernel_rfl
def vc10 := vcm Tryz.prog 10
theorem vf10 : VF Tryz.prog 10 = some (23, vc10, [.tmp 4]) := by kernel_rfl
def vc11 := vcm Tryz.prog 11
theorem vf11 : VF Tryz.prog 11 = some (30, vc11, [.tmp 4]) := by kernel_rfl
def vc12 := vcm Tryz.prog 12
theorem vf12 : VF Tryz.prog 12 = some (29, vc12, [.tmp 4]) := by kernel_rfl
def vc17 := vcm Tryz.prog 17
theorem vf17 : VF Tryz.prog 17 = some (20, vc17, [.cell true 3 4, .tmp 5]) := by kernel_rfl
def vc19 : VCode :=
 (.seq
 (.region 0 false [
 .e 4 (.copy (.c (.bool false))) 0])
 (.seq
 (.seq
 (.region 1 false [
 .e 6 (.copy (.t 0)) 8192,
 .e 7 (.len (.t 6)) 8200,
 .e 8 (.copy (.t 1)) 8208,
 .e 9 (.len (.t 8)) 8216,
 .e 10 (.bin .neq (.t 7) (.t 9)) 8224])
 (.cond (.t 10)
 (.seq
 (.region 2 false [
 .e 4 (.copy (.c (.bool false))) 16384])
 .ret)
 .skip))
 (.seq
 (.seq
 (.region 3 false [
 .e 5 (.copy (.c (.int .i64 0))) 24576])
 (.block 0
 (.loop
 (.seq
 (.seq
 (.region 4 false [
 .e 11 (.copy (.t 5)) 32768,
 .e 12 (.copy (.t 0)) 32776,
 .e 13 (.len (.t 12)) 32784,
 .e 14 (.bin .lss (.t 11) (.t 13)) 32792])
 (.cond (.t 14)
 .skip
 (.exit 0)))
 (.seq
 (.block 1
 (.seq
 (.region 6 true [
 .e 17 (.copy (.t 0)) 49152,
 .e 18 (.copy (.t 5)) 49160,
 .f 19 (.iaddr 2 (.t 17) (.t 18)) 49168 [0, 1],
 .f 20 (.load true 2 (.t 19)) 49176 [2, 0, 1],
 .e 21 (.copy (.t 1)) 49184,
 .e 22 (.copy (.t 5)) 49192,
 .f 23 (.iaddr 2 (.t 21) (.t 22)) 49200 [4, 5],
 .f 24 (.load true 2 (.t 23)) 49208 [6, 4, 5],
 .f 25 (.eqc true [2, 2] (.t 20) (.t 24)) 49216 [3, 2, 0, 1, 7, 6, 4, 5]])
 (.cond (.t 25)
 (.seq
 (.region 7 false [
 .e 4 (.copy (.c (.bool false))) 57344])
 .ret)
 .skip)))
 (.region 5 false [
 .e 15 (.copy (.t 5)) 40960,
 .e 16 (.bin .add (.t 15) (.c (.int .i64 1))) 40968,
 .e 5 (.copy (.t 16)) 40976]))))))
 (.seq
 (.region 8 false [
 .e 4 (.copy (.c (.bool true))) 65536])
 .ret))))
theorem vf19 : VF Tryz.prog 19 = some (26, vc19, [.tmp 4]) := by kernel_rfl
def vc33 := vcm Tryz.prog 33
theorem vf33 : VF Tryz.prog 33 = some (20, vc33, [.tmp 4]) := by kernel_rfl
theorem xRr {n : Nat} (hn : n < 256) : VC Tryz.prog 23 [.int .u8 n] [] (.str (preL n)) [] := xNQ xGt xIr (fuel := 10) (d := 3) (F := preL) (by kernel_rfl) hn
theorem xFG (n : Nat) : (keyT n).length ≤ 20 := by
  have h : n % 24 < 24 := Nat.mod_lt _ (by decide)
  unfold keyT
  generalize n % 24 = m at h
  have : ∀ m, m < 24 → (if m < 20 then pathsL.getD (m / 5) [] ++ endsL.getD (m % 5) [] else restL.getD (m - 20) []).length ≤ 20 := by decide
  exact this m h
def xMj (x y : Nat) : SpanL := ⟨if 200 ≤ x then preL x else keyT x, if 240 ≤ y then [] else if 200 ≤ y then (if 200 ≤ x then preL x else keyT x) ++ [0] else keyT y⟩
theorem xPb {x y : Nat} (hx : x < 256) (hy : y < 256) : VC Tryz.prog 8 [.agg [.int .u8 x, .int .u8 y]] [] (.agg (encS (xMj x y))) [] := by
  refine vcs vf8 ?_
  have k1 := xId hx
  have k2 := xId hy
  have p1 := xRr hx
  have l1 := xFG x
  have l2 := xN6 x
  have hr : xMj x y = ⟨if 200 ≤ x then preL x else keyT x, if 240 ≤ y then [] else if 200 ≤ y then (if 200 ≤ x then preL x else keyT x) ++ [0] else keyT y⟩ := rfl
  rw [hr]
  generalize keyT x = a at *
  generalize keyT y = b at *
  generalize preL x = c at *
  repeat first|refine sgo ?_|refine cv0 k1 ?_|refine cv0 k2 ?_|refine sop ?_
  refine cnd (fun h1 => ?_) (fun h1 => xAB ?_)
  · have h1' : 200 ≤ x := by have h' := of_decide_eq_true h1; omega
    simp only [if_pos h1']
    repeat first|refine sgo ?_|refine cv0 p1 ?_|refine sop ?_
    refine cnd (fun h2 => ?_) (fun h2 => xAB ?_)
    · have h2' : 200 ≤ y := by have h' := of_decide_eq_true h2; omega
      simp only [if_pos h2']
      repeat first|refine sgo ?_|refine sop ?_
      refine cnd (fun h3 => ?_) (fun h3 => xAB ?_)
      · have h3' : 240 ≤ y := by have h' := of_decide_eq_true h3; omega
        simp only [if_pos h3']
        repeat first|refine sgo ?_|refine sop ?_
        exact xAC ⟨.inr rfl, oC rfl⟩
      · have h3' : ¬ 240 ≤ y := by have h' := of_decide_eq_false h3; omega
        simp only [if_neg h3']
        repeat first|refine sgo ?_|refine sop ?_
        exact xAC ⟨.inr rfl, oC rfl⟩
    · have h2' : ¬ 200 ≤ y := by have h' := of_decide_eq_false h2; omega
      have h3' : ¬ 240 ≤ y := by omega
      simp only [if_neg h2', if_neg h3']
      repeat first|refine sgo ?_|refine sop ?_
      refine cndf (xAB ?_) rfl (decide_eq_false (by omega))
      repeat first|refine sgo ?_|refine sop ?_
      exact xAC ⟨.inr rfl, oC rfl⟩
  · have h1' : ¬ 200 ≤ x := by have h' := of_decide_eq_false h1; omega
    simp only [if_neg h1']
    repeat first|refine sgo ?_|refine cv0 p1 ?_|refine sop ?_
    refine cnd (fun h2 => ?_) (fun h2 => xAB ?_)
    · have h2' : 200 ≤ y := by have h' := of_decide_eq_true h2; omega
      simp only [if_pos h2']
      repeat first|refine sgo ?_|refine sop ?_
      refine cnd (fun h3 => ?_) (fun h3 => xAB ?_)
      · have h3' : 240 ≤ y := by have h' := of_decide_eq_true h3; omega
        simp only [if_pos h3']
        repeat first|refine sgo ?_|refine sop ?_
        exact xAC ⟨.inr rfl, oC rfl⟩
      · have h3' : ¬ 240 ≤ y := by have h' := of_decide_eq_false h3; omega
        simp only [if_neg h3']
        repeat first|refine sgo ?_|refine sop ?_
        exact xAC ⟨.inr rfl, oC rfl⟩
    · have h2' : ¬ 200 ≤ y := by have h' := of_decide_eq_false h2; omega
      have h3' : ¬ 240 ≤ y := by omega
      simp only [if_neg h2', if_neg h3']
      repeat first|refine sgo ?_|refine sop ?_
      refine cndf (xAB ?_) rfl (decide_eq_false (by omega))
      repeat first|refine sgo ?_|refine sop ?_
      exact xAC ⟨.inr rfl, oC rfl⟩
theorem xNa {x y : Nat} : (xMj x y).lo.length ≤ 30 ∧ (xMj x y).hi.length ≤ 30 := by
  have l1 := xFG x
  have l2 := xFG y
  have l3 := xN6 x
  unfold xMj
  constructor
  · simp only; split <;> omega
  · simp only
    split
    · simp
    · split
      · rw [List.length_append]; split <;> simp <;> omega
      · omega
theorem xNW (s : SpanL) (k : Str) : VC Tryz.prog 33 [.agg (encS s), .str k] [] (.bool (hasL s k)) [] := by
  refine vcs vf33 ?_
  repeat' first|refine sgo ?_|refine scn ?_|refine sop ?_|refine xAC ⟨.inr rfl, ?_⟩|refine cnd (fun _ => ?_) (fun _ => ?_)|(refine xCT (fun _ => ?_) (fun _ => ?_) <;> first|refine xAm ?_|refine sop ?_)
  all_goals refine oB ?_
  all_goals simp_all [hasL]
theorem xPi {q p : PV} {l m : List SpanL} (hq : Sl q (l.map encS)) (hp : Sl p (m.map encS)) (hl : l.length ≤ maxLen) (hm : m.length ≤ maxLen) : VC Tryz.prog 19 [q, p] [] (.bool (decide (l = m))) [] := by
  refine vcs vf19 ?_
  unfold maxLen at hl hm
  repeat first|refine sgo ?_|refine sop ?_
  refine cnd (fun h => ?_) (fun h => xAB ?_)
  · repeat first|refine sgo ?_|refine sop ?_
    refine xAC ⟨.inr rfl, oB ?_⟩
    have : l ≠ m := by
      intro e; subst e
      simp at h
    simp [this]
  · have hlm : l.length = m.length := by have h' : (l.length : Int) = m.length := by simpa using h
                                         omega
    repeat first|refine sgo ?_|refine sop ?_
    refine xAK (fun (g : Nat) => [(0, q), (1, p), (5, .int .i64 g)]) (fun g => []) (fun g => l.length - g)
      (fun g => g ≤ l.length ∧ l.take g = m.take g) 0 goes ⟨Nat.zero_le _, rfl⟩ ?_
    rintro i ⟨hi, hv⟩
    (try dsimp only)
    repeat first|refine sgo ?_|refine sop ?_
    refine cnd (fun h => xAB ?_) (fun h => xAE ?_)
    · have hlt : i < l.length := by have h' := of_decide_eq_true h; simp only [List.length_map] at h'; omega
      obtain ⟨x, hx⟩ : ∃ x, l[i]? = some x := ⟨_, List.getElem?_eq_getElem hlt⟩
      obtain ⟨y, hy⟩ : ∃ x, m[i]? = some x := ⟨_, List.getElem?_eq_getElem (by omega)⟩
      have hxe := gm (enc := encS) (n := (i : Int)) hx (by omega)
      have hye := gm (enc := encS) (n := (i : Int)) hy (by omega)
      repeat first|refine sgo ?_|refine sop ?_
      refine cnd (fun h2 => ?_) (fun h2 => xAB ?_)
      · repeat first|refine sgo ?_|refine sop ?_
        refine xAC ⟨.inr rfl, oB ?_⟩
        have hne : l ≠ m := xS0 hx hy (by intro e; subst e; simp at h2)
        simp [hne]
      · have hxy : x = y := by
          have h3 : x.lo = y.lo ∧ x.hi = y.hi := by simpa using h2
          cases x; cases y; simp at h3; obtain ⟨rfl, rfl⟩ := h3; rfl
        subst hxy
        repeat first|refine sgo ?_|refine sop ?_
        refine agn (i + 1) ⟨by omega, ?_⟩ goes
        rw [List.take_add_one, List.take_add_one, hv, hx, hy]
    · have hge : i = l.length := by have h' := of_decide_eq_false h; simp only [List.length_map] at h'; omega
      subst hge
      repeat first|refine sgo ?_|refine sop ?_
      refine xAC ⟨.inr rfl, oB ?_⟩
      rw [List.take_length, hlm, List.take_length] at hv
      simp [hv]
set_option maxHeartbeats 1000000 in
theorem xGf {q : PV} {t : List PairL} (s : SpanL) (hq : Sl q (t.map encP)) (hl : t.length ≤ 100000000) : VC Tryz.prog 12 [q, .agg (encS s)] [] (ownV ⟨0, 0⟩ ((xAh t s).map encP)) [blkV 3 ((xAh t s).map encP)] := by
  refine vcs vf12 ?_
  have hmt : (t.map encP).length = t.length := List.length_map ..
  repeat first|refine sgo ?_|refine sop ?_
  refine xAK (fun (g : Nat × List PairL) => [(0, q), (3, .ptr ⟨1, 0⟩ 1 0 0), (5, ownV ⟨1, 8192⟩ (g.2.map encP)), (6, .int .i64 g.1)])
    (fun g => [(⟨1, 0⟩, ⟨true, false, 2, [encS s]⟩), (⟨1, 8192⟩, blkV 3 (g.2.map encP))]) (fun g => t.length - g.1)
    (fun g => g.1 ≤ t.length ∧ g.2.length ≤ g.1 ∧ g.2 = xAh (t.take g.1) s) (0, []) goes ⟨Nat.zero_le _, Nat.le_refl _, rfl⟩ ?_
  rintro ⟨i, o⟩ ⟨hi, hol, ho⟩
  dsimp only at hi hol ho ⊢
  repeat first|refine sgo ?_|refine sop ?_
  refine cnd (fun h => xAB ?_) (fun h => xAE ?_)
  · have hlt : i < t.length := by have h' := of_decide_eq_true h; omega
    obtain ⟨y, hy⟩ : ∃ x, t[i]? = some x := ⟨_, List.getElem?_eq_getElem hlt⟩
    have hye := gm (enc := encP) (n := (i : Int)) hy (by omega)
    have hst := xIN (fun p => hasL s p.key) hy
    have ho' : o = (t.take i).filter (fun p => hasL s p.key) := ho
    rw [← ho'] at hst
    repeat first|refine sgo ?_|refine cv0 (xNW s y.key) ?_|refine sop ?_
    refine cnd (fun h2 => ?_) (fun h2 => xAB ?_)
    · rw [if_pos h2] at hst
      repeat first|refine sgo ?_|refine o_v (vap encP y) ?_|refine sop ?_
      exact agn (i + 1, o ++ [y]) ⟨by simp only; omega, by simp only [List.length_append, List.length_cons, List.length_nil]; omega, hst.symm⟩ goes
    · rw [if_neg (by simp [h2])] at hst
      repeat first|refine sgo ?_|refine sop ?_
      exact agn (i + 1, o) ⟨by simp only; omega, by simp only; omega, hst.symm⟩ goes
  · have hge : i = t.length := by have h' := of_decide_eq_false h; omega
    subst hge
    rw [List.take_length] at ho
    subst ho
    repeat first|refine sgo ?_|refine sop ?_
    exact xAC ⟨.inr rfl, oOwn rfl⟩
set_option maxHeartbeats 1000000 in
theorem xPf {q : PV} {t : List PairL} (s : SpanL) (hq : Sl q (t.map encP)) (hl : t.length ≤ 100000000) : VC Tryz.prog 11 [q, .agg (encS s)] [] (ownV ⟨0, 0⟩ ((xAx t s).map encP)) [blkV 3 ((xAx t s).map encP)] := by
  refine vcs vf11 ?_
  have hmt : (t.map encP).length = t.length := List.length_map ..
  repeat first|refine sgo ?_|refine sop ?_
  refine xAK (fun (g : Nat × List PairL) => [(0, q), (3, .ptr ⟨1, 0⟩ 1 0 0), (5, ownV ⟨1, 8192⟩ (g.2.map encP)), (6, .int .i64 g.1)])
    (fun g => [(⟨1, 0⟩, ⟨true, false, 2, [encS s]⟩), (⟨1, 8192⟩, blkV 3 (g.2.map encP))]) (fun g => t.length - g.1)
    (fun g => g.1 ≤ t.length ∧ g.2.length ≤ g.1 ∧ g.2 = xAx (t.take g.1) s) (0, []) goes ⟨Nat.zero_le _, Nat.le_refl _, rfl⟩ ?_
  rintro ⟨i, o⟩ ⟨hi, hol, ho⟩
  dsimp only at hi hol ho ⊢
  repeat first|refine sgo ?_|refine sop ?_
  refine cnd (fun h => xAB ?_) (fun h => xAE ?_)
  · have hlt : i < t.length := by have h' := of_decide_eq_true h; omega
    obtain ⟨y, hy⟩ : ∃ x, t[i]? = some x := ⟨_, List.getElem?_eq_getElem hlt⟩
    have hye := gm (enc := encP) (n := (i : Int)) hy (by omega)
    have hst := xIN (fun p => !hasL s p.key) hy
    have ho' : o = (t.take i).filter (fun p => !hasL s p.key) := ho
    rw [← ho'] at hst
    repeat first|refine sgo ?_|refine cv0 (xNW s y.key) ?_|refine sop ?_
    refine cnd (fun h2 => ?_) (fun h2 => xAB ?_)
    · rw [if_pos h2] at hst
      repeat first|refine sgo ?_|refine o_v (vap encP y) ?_|refine sop ?_
      exact agn (i + 1, o ++ [y]) ⟨by simp only; omega, by simp only [List.length_append, List.length_cons, List.length_nil]; omega, hst.symm⟩ goes
    · rw [if_neg (by simp [h2])] at hst
      repeat first|refine sgo ?_|refine sop ?_
      exact agn (i + 1, o) ⟨by simp only; omega, by simp only; omega, hst.symm⟩ goes
  · have hge : i = t.length := by have h' := of_decide_eq_false h; omega
    subst hge
    rw [List.take_length] at ho
    subst ho
    repeat first|refine sgo ?_|refine sop ?_
    exact xAC ⟨.inr rfl, oOwn rfl⟩
set_option maxHeartbeats 1000000 in
theorem xMq {a b : List PairL} (ha : a.length ≤ 100000000) (hb : b.length ≤ 100000000) : VC Tryz.prog 10 [.sh false (a.map encP), .sh false (b.map encP)] [] (ownV ⟨0, 0⟩ ((b.foldl putL a).map encP)) [blkV 3 ((b.foldl putL a).map encP)] := by
  refine vcs vf10 ?_
  have hmb : (b.map encP).length = b.length := List.length_map ..
  repeat first|refine sgo ?_|refine o_v (vaps encP [] a) ?_|refine sop ?_
  refine xAK (fun (g : Nat × List PairL) => [(1, .sh false (b.map encP)), (5, ownV ⟨1, 8192⟩ (g.2.map encP)), (6, .int .i64 g.1)])
    (fun g => [(⟨1, 8192⟩, blkV 3 (g.2.map encP))]) (fun g => b.length - g.1)
    (fun g => g.1 ≤ b.length ∧ g.2.length ≤ a.length + g.1 ∧ (b.drop g.1).foldl putL g.2 = b.foldl putL a) (0, a) goes ⟨Nat.zero_le _, Nat.le_refl _, rfl⟩ ?_
  rintro ⟨i, o⟩ ⟨hi, hol, hv⟩
  dsimp only at hi hol hv ⊢
  repeat first|refine sgo ?_|refine sop ?_
  refine cnd (fun h => xAB ?_) (fun h => xAE ?_)
  · have hlt : i < b.length := by have h' := of_decide_eq_true h; omega
    obtain ⟨x, hx⟩ : ∃ x, b[i]? = some x := ⟨_, List.getElem?_eq_getElem hlt⟩
    have hxe := gm (enc := encP) (n := (i : Int)) hx (by omega)
    rw [xBQ hx, List.foldl_cons] at hv
    repeat first|refine sgo ?_|refine cv (xRD (xs := o) (p := x) Sl.sh (by omega)) ?_|refine sop ?_
    have hl := xIj o x
    exact agn (i + 1, putL o x) ⟨by simp only; omega, by simp only; omega, hv⟩ (goesR ⟨1, 41000⟩ ⟨1, 8192⟩)
  · have hge : i = b.length := by have h' := of_decide_eq_false h; omega
    subst hge
    rw [List.drop_length] at hv
    repeat first|refine sgo ?_|refine sop ?_
    exact xAC ⟨.inr rfl, oOwn (congrArg (List.map encP) hv)⟩
theorem xNt {q p : PV} {a b : List PairL} (hq : Sl q (a.map encP)) (hp : Sl p (b.map encP)) (ha : a.length ≤ 100000000) (hb : b.length ≤ 100000000) : VC Tryz.prog 10 [q, p] [] (ownV ⟨0, 0⟩ ((b.foldl putL a).map encP)) [blkV 3 ((b.foldl putL a).map encP)] :=
  xDu (xMq ha hb) (.cons (PLe.sl hq) (.cons (PLe.sl hp) .nil)) (PLe.refl _)
theorem xLT {q : PV} {t : List PairL} (k : Str) (hs : Srt t) (hq : Sl q (t.map encP)) (hl : t.length ≤ 100000000) : VC Tryz.prog 17 [q, .str k] [] (.tup [.agg (encP ((xAH t k).getD zP)), .bool (xAH t k).isSome]) [] := by
  refine xCL vf17 ?_ (Nat.le_of_ble_eq_true rfl) (by intro vs h; cases h; intro p hp q; simp at hp; rcases hp with rfl | rfl <;> (intro h; cases h))
  have pl := xGO k hs hq hl
  have hls := xJ8 (k := k) hs
  have hn0 : (xAH t k).isSome = false → xAH t k = none := by simp
  generalize hn : lbN t k = n at *
  repeat first|refine sgo ?_|refine cv0 pl ?_|refine sop ?_
  refine cnd (fun h => ?_) (fun h => xAB ?_)
  · obtain ⟨y, hy, hf, _⟩ := hls h
    have hye := gm (enc := encP) (n := (n : Int)) hy (by omega)
    rw [hf]
    repeat first|refine sgo ?_|refine sop ?_
    exact xAC ⟨.inr rfl, oAny rfl⟩
  · rw [hn0 h]
    repeat first|refine sgo ?_|refine sop ?_
    exact xAC ⟨.inr rfl, oAny rfl⟩
end Go.Proofs
open Go.V Go.Pu
set_option linter.unusedVariables false
set_option linter.unusedSimpArgs false
set_option maxRecDepth 20000
namespace Go.Proofs
def dL : PV → Option (List (List PV))
  | .nils => some []
  | .she => some []
  | .sh _ l => some l
  | _ => none
theorem dL_sl {p : PV} {l : List (List PV)} (h : dL p = some l) : Sl p l := by
  cases p <;> simp only [dL] at h <;> first
    | (cases h; exact .inl ⟨rfl, rfl⟩)
    | (cases h; exact .inr (.inl ⟨rfl, rfl⟩))
    | (cases h; exact Sl.sh)
    | cases h
def dM : List PV → Option MsgL
  | [.int .i64 k, .str a, .str b, .str c, .str d, .str e, .str f, .int .i64 n] => some ⟨k, a, b, ⟨c, d⟩, e, f, n⟩
  | _ => none
theorem dM_ok {e : List PV} {x : MsgL} (h : dM e = some x) : e = encM x := by
  unfold dM at h
  split at h
  · cases h; rfl
  · cases h
def dS : List PV → Option SpanL
  | [.str c, .str d] => some ⟨c, d⟩
  | _ => none
theorem dS_ok {e : List PV} {x : SpanL} (h : dS e = some x) : e = encS x := by
  unfold dS at h
  split at h
  · cases h; rfl
  · cases h
def dAll {α : Type} (f : List PV → Option α) : List (List PV) → Option (List α)
  | [] => some []
  | e :: r => (f e).bind fun x => (dAll f r).map (x :: ·)
theorem xLC {α : Type} {f : List PV → Option α} {enc : α → List PV} (hf : ∀ e x, f e = some x → e = enc x) : ∀ {l : List (List PV)} {xs : List α}, dAll f l = some xs → l = xs.map enc
  | [], xs, h => by cases h; rfl
  | e :: r, xs, h => by
    unfold dAll at h
    obtain ⟨x, hx, h⟩ := bind_some h
    obtain ⟨ys, hy, rfl⟩ := map_some h
    rw [xLC hf hy, hf _ _ hx]; rfl
def dMs (p : PV) : Option (List MsgL) := (dL p).bind (dAll dM)
def dSs (p : PV) : Option (List SpanL) := (dL p).bind (dAll dS)
theorem xRX {p : PV} {xs : List MsgL} (h : dMs p = some xs) : Sl p (xs.map encM) := by
  obtain ⟨l, h1, h2⟩ := bind_some h
  rw [← xLC (fun e x => dM_ok) h2]
  exact dL_sl h1
theorem dSs_ok {p : PV} {xs : List SpanL} (h : dSs p = some xs) : Sl p (xs.map encS) := by
  obtain ⟨l, h1, h2⟩ := bind_some h
  rw [← xLC (fun e x => dS_ok) h2]
  exact dL_sl h1
def szB (m : MsgL) : Bool := decide (1 ≤ m.kind) && decide (m.kind ≤ 6) && Nat.ble m.key.length 8 && Nat.ble m.sp.lo.length 8 && Nat.ble m.sp.hi.length 8 && Nat.ble m.fr.length 8 && Nat.ble m.to.length 8 && (!(decide (m.kind = 4) || decide (m.kind = 5)) || (!m.fr.isEmpty && !m.to.isEmpty && !xAD m.fr m.to && !xAD m.to m.fr))
def szA : List MsgL → Bool
  | [] => true
  | m :: r => szB m && szA r
theorem szB_ok {m : MsgL} (h : szB m = true) : MsgOk m ∧ MsgLen 8 m := by
  unfold szB at h
  simp only [Bool.and_eq_true, Bool.or_eq_true, Bool.not_eq_true', Bool.or_eq_false_iff, decide_eq_true_eq, decide_eq_false_iff_not, List.isEmpty_eq_false_iff] at h
  obtain ⟨⟨⟨⟨⟨⟨⟨a, b⟩, c⟩, d⟩, e⟩, f⟩, g⟩, i⟩ := h
  refine ⟨⟨⟨a, b⟩, fun h45 => ?_, fun h45 => ?_⟩, ⟨Nat.le_of_ble_eq_true c, Nat.le_of_ble_eq_true d, Nat.le_of_ble_eq_true e, Nat.le_of_ble_eq_true f, Nat.le_of_ble_eq_true g⟩⟩
  · rcases i with i | i
    · omega
    · exact ⟨i.1.2, i.2⟩
  · rcases i with i | i
    · omega
    · exact ⟨i.1.1.1, i.1.1.2⟩
theorem xJQ : ∀ {l : List MsgL}, szA l = true → ∀ m ∈ l, MsgOk m ∧ MsgLen 8 m
  | x :: r, h, m, hm => by
    unfold szA at h
    rw [Bool.and_eq_true] at h
    rcases List.mem_cons.1 hm with rfl | hm
    · exact szB_ok h.1
    · exact xJQ h.2 m hm
def orc : V.Call := fun f args hin => match Nat.beq f 16, Nat.beq f 9, args, hin with
  | true, _, [.str k, q], [] => (dMs q).bind fun l => match szA l && Nat.ble l.length 40 && Nat.ble k.length 1000 with
    | true => some (.agg (xNF (keyL k l)), [])
    | false => none
  | _, true, [.agg [.str c, .str d], q], [] => (dMs q).bind fun l => match szA l && Nat.ble l.length 40 && Nat.ble c.length 100 && Nat.ble d.length 100 with
    | true => some (.sh false ((xBh ⟨c, d⟩ l.reverse).map encS), [])
    | false => none
  | _, _, _, _ => none
theorem xP4 : xCJ Tryz.prog orc := by
  intro f args hin v hout h
  unfold orc at h
  split at h
  · rename_i k q hf
    obtain ⟨l, hl, h⟩ := bind_some h
    split at h
    · rename_i hc
      cases h
      simp only [Bool.and_eq_true] at hc
      have hf : f = 16 := Nat.eq_of_beq_eq_true (by assumption)
      subst hf
      have h1 := Nat.le_of_ble_eq_true hc.2
      have h2 := Nat.le_of_ble_eq_true hc.1.2
      exact xDu (xRR (by omega) (by omega) (fun m hm => (xJQ hc.1.1 m hm).1) (fun m hm => (xJQ hc.1.1 m hm).2)) (.cons (PLe.refl _) (.cons (PLe.sl (xRX hl)) .nil)) (PLe.refl _)
    · cases h
  · obtain ⟨l, hl, h⟩ := bind_some h
    split at h
    · rename_i hc
      cases h
      simp only [Bool.and_eq_true] at hc
      have hf : f = 9 := Nat.eq_of_beq_eq_true (by assumption)
      subst hf
      have h1 := Nat.le_of_ble_eq_true hc.2
      have h2 := Nat.le_of_ble_eq_true hc.1.2
      have h3 := Nat.le_of_ble_eq_true hc.1.1.2
      exact xDu (xLW h3 (fun m hm => (xJQ hc.1.1.1 m hm).1) (fun m hm => (xJQ hc.1.1.1 m hm).2) ⟨h2, h1⟩) (.cons (PLe.refl _) (.cons (PLe.sl (xRX hl)) .nil)) (PLe.refl _)
    · cases h
  · cases h
theorem xMp : run Tryz.prog orc noX 400 20 5 [] [] = some (.bool true, []) := by kernel_rfl
theorem xJb : VC Tryz.prog 5 [] [] (.bool true) [] := xLa xP4 xIr 20 _ _ _ _ _ xMp
end Go.Proofs
open Go.V Go.Pu
set_option linter.unusedVariables false
set_option linter.unusedSimpArgs false
set_option maxRecDepth 20000
namespace Go.Proofs
theorem listC {l : List RawM} (hl : l.length ≤ 9223372036854775807) (hr : ∀ r ∈ l, r.ok) (n : Nat) (hn : n ≤ 1000) : VC Tryz.prog 7 [.sh false (l.map encW), .int .i64 n] [] (.sh false ((xD9 l n).map encM)) [] := xIZ (xSp hl hr n hn) (xAW rfl rfl)
theorem xRN (l : List RawM) (n : Nat) : (xD9 l n).length ≤ n := by unfold xD9; rw [List.length_map, List.length_take]; omega
theorem decW {q : List PV} (n : q.length = 6) (h : ∀ (j : Nat) (p : PV), j < 6 → q[j]? = some p → InTy (.int .u8) p) : ∃ r : RawM, q = encW r ∧ r.ok := by
  obtain ⟨a, b, c, d, e, f, rfl⟩ := list6 n
  obtain ⟨a, rfl, h1⟩ := xDs (h 0 _ (by omega) rfl)
  obtain ⟨b, rfl, h2⟩ := xDs (h 1 _ (by omega) rfl)
  obtain ⟨c, rfl, h3⟩ := xDs (h 2 _ (by omega) rfl)
  obtain ⟨d, rfl, h4⟩ := xDs (h 3 _ (by omega) rfl)
  obtain ⟨e, rfl, h5⟩ := xDs (h 4 _ (by omega) rfl)
  obtain ⟨f, rfl, h6⟩ := xDs (h 5 _ (by omega) rfl)
  exact ⟨⟨a, b, c, d, e, f⟩, rfl, h1, h2, h3, h4, h5, h6⟩
theorem xQq {j : Nat} (h : j < 6) : [CTy.int .u8, .int .u8, .int .u8, .int .u8, .int .u8, .int .u8][j]? = some (.int .u8) := by
  match j, h with
  | 0, _ => rfl
  | 1, _ => rfl
  | 2, _ => rfl
  | 3, _ => rfl
  | 4, _ => rfl
  | 5, _ => rfl
theorem decWs {l : List (List PV)} (h : InTy (.sl [.int .u8, .int .u8, .int .u8, .int .u8, .int .u8, .int .u8]) (.sh false l)) : ∃ rs : List RawM, l = rs.map encW ∧ (∀ r ∈ rs, r.ok) ∧ rs.length ≤ 9223372036854775807 := by
  obtain ⟨xs, h1, h2⟩ := xJB (enc := fun (a : { r : RawM // r.ok }) => encW a.1) h fun e hl hc => by
    obtain ⟨r, rfl, hr⟩ := decW hl fun j p hj hp => hc j _ _ (xQq hj) hp
    exact ⟨⟨r, hr⟩, rfl⟩
  refine ⟨xs.map (·.1), by rw [h1, List.map_map]; rfl, fun r hr => ?_, by simpa [maxLen] using h2⟩
  obtain ⟨a, _, rfl⟩ := List.mem_map.1 hr
  exact a.2
theorem veqF (a : FoundL) {neg : Bool} {lvl site : Nat} {tf : TF} {hf : HF} {x y : VX} (hx : ev tf x = some (.agg (xNF a)) := by rfl) (hy : ev tf y = some (.agg (xNF a)) := by rfl) :
    vop lvl site tf hf (.eqc neg [0, 0, 2, 2, 1, 2, 0, 1] x y) = some ⟨.bool (!neg), [], []⟩ := by
  cases neg <;> simp [vop, hx, hy, xAp, xBo, retV]
theorem veqP (a : PairL) {neg : Bool} {lvl site : Nat} {tf : TF} {hf : HF} {x y : VX} (hx : ev tf x = some (.agg (encP a)) := by rfl) (hy : ev tf y = some (.agg (encP a)) := by rfl) :
    vop lvl site tf hf (.eqc neg [2, 2, 1] x y) = some ⟨.bool (!neg), [], []⟩ := by
  cases neg <;> simp [vop, hx, hy, xAp, xBo, retV]
theorem veqB (a : Bool) {neg : Bool} {lvl site : Nat} {tf : TF} {hf : HF} {x y : VX} (hx : ev tf x = some (.bool a) := by rfl) (hy : ev tf y = some (.bool a) := by rfl) :
    vop lvl site tf hf (.eqb neg x y) = some ⟨.bool (!neg), [], []⟩ := by
  cases neg <;> cases a <;> simp [vop, hx, hy, retV]
theorem ssame_t {l : List SpanL} (hl : l.length ≤ maxLen) : VC Tryz.prog 19 [.sh false (l.map encS), .sh false (l.map encS)] [] (.bool true) [] := by
  have h := xPi (q := .sh false (l.map encS)) (p := .sh false (l.map encS)) (l := l) (m := l) Sl.sh Sl.sh hl hl
  rw [decide_eq_true rfl] at h
  exact h
theorem decR {l : List (List PV)} (h : InTy (.sl [.int .u8, .int .u8, .int .u8]) (.sh false l)) : ∃ xs : List RawL, l = xs.map encR ∧ xs.length ≤ maxLen := xJB h fun e hl hc => by
  obtain ⟨a, b, c, rfl⟩ := list3 hl
  obtain ⟨x, rfl, hx⟩ := xDs (hc 0 _ _ rfl rfl)
  obtain ⟨y, rfl, hy⟩ := xDs (hc 1 _ _ rfl rfl)
  obtain ⟨z, rfl, hz⟩ := xDs (hc 2 _ _ rfl rfl)
  exact ⟨⟨x, y, z, hx, hy, hz⟩, rfl⟩
theorem xOX (l : List RawL) : ∀ p ∈ xGJ l, p.key.length ≤ 20 := by
  have key : ∀ (l : List RawL) (t : List PairL), (∀ p ∈ t, p.key.length ≤ 20) → ∀ p ∈ l.foldl (fun t x => putL t (xEp x)) t, p.key.length ≤ 20 := by
    intro l
    induction l with
    | nil => intro t h; exact h
    | cons x l ih =>
      intro t h
      refine ih _ (fun p hp => ?_)
      have hp : p ∈ putL t (xEp x) := hp
      rw [xFX] at hp
      rcases xI0 hp with rfl | hp
      · exact xFG _
      · exact h p hp
  exact key _ _ (by simp)
theorem xG6 (l : List RawL) : TabOk 40 20 (xGJ l) := ⟨xOV l, xOW l, xOX l⟩
theorem xSn (ts : List RawL) : VC Tryz.prog 6 [.sh false (ts.map encR)] [] (.sh false ((xGJ ts).map encP)) [] := xC5 (xQT Sl.sh)
theorem xSD {t : List PairL} (h : t.length ≤ 100000000) : VC Tryz.prog 13 [.sh false (t.map encP), .sh false (t.map encP)] [] (.bool true) [] := by
  have h2 : t.length ≤ maxLen := Nat.le_trans h (by decide)
  have := xSC (q := .sh false (t.map encP)) (p := .sh false (t.map encP)) (l := t) (m := t) Sl.sh Sl.sh h2 h2
  rwa [decide_eq_true rfl] at this
theorem xRt {N B : Nat} {t : List PairL} {l : List MsgL} {n : Nat} (ht : TabOk N B t) (hN : 1 ≤ N) (hB : 8 ≤ B) (hn : l.length ≤ n) (h2 : 2 ^ n * N ≤ 49000000) (hm : ∀ m ∈ l, MsgLen 8 m) : TabOk (2 ^ n * N) (B + 8 * n) (allT t l) :=
  (xLL l ht hN hB hm).mono (xRE hn) (by omega)
end Go.Proofs
open Go.V Go.Pu
set_option linter.unusedVariables false
set_option linter.unusedSimpArgs false
set_option maxRecDepth 20000
namespace Go.Proofs
theorem dec4 {q : List PV} (n : q.length = [CTy.int .u8, .int .u8, .int .u8, .int .u8].length) (i : ∀ (j : Nat) (c : CTy) (p : PV), [CTy.int .u8, .int .u8, .int .u8, .int .u8][j]? = some c → q[j]? = some p → InTy c p) :
    ∃ a b c d : Nat, q = [.int .u8 a, .int .u8 b, .int .u8 c, .int .u8 d] ∧ a < 256 ∧ b < 256 ∧ c < 256 ∧ d < 256 := by
  match q, n with
  | [a, b, c, d], _ =>
    obtain ⟨a, rfl, h1⟩ := xDs (i 0 _ _ rfl rfl)
    obtain ⟨b, rfl, h2⟩ := xDs (i 1 _ _ rfl rfl)
    obtain ⟨c, rfl, h3⟩ := xDs (i 2 _ _ rfl rfl)
    obtain ⟨d, rfl, h4⟩ := xDs (i 3 _ _ rfl rfl)
    exact ⟨a, b, c, d, rfl, h1, h2, h3, h4⟩
theorem dec3 {q : List PV} (n : q.length = [CTy.int .u8, .int .u8, .int .u8].length) (i : ∀ (j : Nat) (c : CTy) (p : PV), [CTy.int .u8, .int .u8, .int .u8][j]? = some c → q[j]? = some p → InTy c p) :
    ∃ a b c : Nat, q = [.int .u8 a, .int .u8 b, .int .u8 c] ∧ a < 256 ∧ b < 256 ∧ c < 256 := by
  match q, n with
  | [a, b, c], _ =>
    obtain ⟨a, rfl, h1⟩ := xDs (i 0 _ _ rfl rfl)
    obtain ⟨b, rfl, h2⟩ := xDs (i 1 _ _ rfl rfl)
    obtain ⟨c, rfl, h3⟩ := xDs (i 2 _ _ rfl rfl)
    exact ⟨a, b, c, rfl, h1, h2, h3⟩
theorem dec2 {q : List PV} (n : q.length = [CTy.int .u8, .int .u8].length) (i : ∀ (j : Nat) (c : CTy) (p : PV), [CTy.int .u8, .int .u8][j]? = some c → q[j]? = some p → InTy c p) :
    ∃ a b : Nat, q = [.int .u8 a, .int .u8 b] ∧ a < 256 ∧ b < 256 := by
  match q, n with
  | [a, b], _ =>
    obtain ⟨a, rfl, h1⟩ := xDs (i 0 _ _ rfl rfl)
    obtain ⟨b, rfl, h2⟩ := xDs (i 1 _ _ rfl rfl)
    exact ⟨a, b, rfl, h1, h2⟩
theorem xGv {P : Program} {w : World} {base : Nat} {sp : Nat → Bool} {fuel : Nat} {t : TypeId} {ps rs : Array TypeId} {va : Bool} {v : Value} {q : List MemPlace}
    (ht : P.underlying t = some (.func ps rs va)) (h : DataW.trod (funcToken P) P w base sp true fuel t [v] = some (.nil, q)) : v = .nilFunc := by
  cases fuel with
  | zero => simp [DataW.trod] at h
  | succ n => cases v <;> simp_all [DataW.trod]
theorem xPF {w : World} {b j : Nat} {v : Value} (h : w.cell? ⟨b, j, none⟩ = some v) : b < w.heap.size := by
  refine Decidable.byContradiction fun hn => ?_
  unfold World.cell? at h
  have : w.heap[b]? = none := Array.getElem?_eq_none (by omega)
  simp [this] at h
end Go.Proofs
