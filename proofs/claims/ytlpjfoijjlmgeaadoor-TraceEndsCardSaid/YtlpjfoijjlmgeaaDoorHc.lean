/- Hc -/
import Derived.Test.YtlpjfoijjlmgeaaDoorHb
import Derived.Test.YtlpjfoijjlmgeaaDoorTa
import Derived.Test.YtlpjfoijjlmgeaaDoorSa
import Derived.Test.YtlpjfoijjlmgeaaDoorVD
import Derived.LaidMore
open Go.V Go.Pu
set_option linter.unusedVariables false
set_option linter.unusedSimpArgs false
set_option maxRecDepth 20000
namespace Go.Proofs
def vc10 := vcm Tryd.prog 10
theorem vf10 : VF Tryd.prog 10 = some (10, vc10, [.tmp 4]) := by kernel_rfl
def vc11 := vcm Tryd.prog 11
theorem vf11 : VF Tryd.prog 11 = some (30, vc11, [.cell true 2 2]) := by kernel_rfl
def vc13 := vcm Tryd.prog 13
theorem vf13 : VF Tryd.prog 13 = some (17, vc13, [.cell true 3 2]) := by kernel_rfl
def vc17 : VCode :=
 (.seq
 (.region 0 false [
 .e 4 (.copy (.c (.bool false))) 0])
 (.seq
 (.seq
 (.region 1 false [
 .e 6 (.copy (.t 0)) 8192,
 .e 7 (.len (.t 6)) 8200,
 .e 8 (.copy (.t 1)) 8208,
 .e 9 (.len (.t 8)) 8216,
 .e 10 (.bin .neq (.t 7) (.t 9)) 8224])
 (.cond (.t 10)
 (.seq
 (.region 2 false [
 .e 4 (.copy (.c (.bool false))) 16384])
 .ret)
 .skip))
 (.seq
 (.seq
 (.region 3 false [
 .e 5 (.copy (.c (.int .i64 0))) 24576])
 (.block 0
 (.loop
 (.seq
 (.seq
 (.region 4 false [
 .e 11 (.copy (.t 5)) 32768,
 .e 12 (.copy (.t 0)) 32776,
 .e 13 (.len (.t 12)) 32784,
 .e 14 (.bin .lss (.t 11) (.t 13)) 32792])
 (.cond (.t 14)
 .skip
 (.exit 0)))
 (.seq
 (.block 1
 (.seq
 (.region 6 true [
 .e 17 (.copy (.t 0)) 49152,
 .e 18 (.copy (.t 5)) 49160,
 .f 19 (.iaddr 2 (.t 17) (.t 18)) 49168 [0, 1],
 .f 20 (.load true 2 (.t 19)) 49176 [2, 0, 1],
 .e 21 (.copy (.t 1)) 49184,
 .e 22 (.copy (.t 5)) 49192,
 .f 23 (.iaddr 2 (.t 21) (.t 22)) 49200 [4, 5],
 .f 24 (.load true 2 (.t 23)) 49208 [6, 4, 5],
 .f 25 (.eqc true [2, 2] (.t 20) (.t 24)) 49216 [3, 2, 0, 1, 7, 6, 4, 5]])
 (.cond (.t 25)
 (.seq
 (.region 7 false [
 .e 4 (.copy (.c (.bool false))) 57344])
 .ret)
 .skip)))
 (.region 5 false [
 .e 15 (.copy (.t 5)) 40960,
 .e 16 (.bin .add (.t 15) (.c (.int .i64 1))) 40968,
 .e 5 (.copy (.t 16)) 40976]))))))
 (.seq
 (.region 8 false [
 .e 4 (.copy (.c (.bool true))) 65536])
 .ret))))
theorem vf17 : VF Tryd.prog 17 = some (26, vc17, [.tmp 4]) := by kernel_rfl
def vc24 := vcm Tryd.prog 24
theorem vf24 : VF Tryd.prog 24 = some (69, vc24, [.tmp 2]) := by kernel_rfl
def vc25 := vcm Tryd.prog 25
theorem vf25 : VF Tryd.prog 25 = some (29, vc25, [.tmp 4]) := by kernel_rfl
def vc43 := vcm Tryd.prog 43
theorem vf43 : VF Tryd.prog 43 = some (20, vc43, [.tmp 4]) := by kernel_rfl
def pathsL : List (List UInt8) := [[97, 47], [98, 47], [97, 47, 98, 47], [99, 47]]
def endsL : List (List UInt8) := [[1], [2, 0, 0], [2, 0, 1], [2, 0, 2], [3, 120]]
def restL : List (List UInt8) := [[1], [5, 48, 48, 48, 48, 48, 48, 48, 49, 47, 1], [6, 97, 47, 1], [97, 47, 98, 47, 99, 47, 1]]
def keyT (n : Nat) : List UInt8 := if n % 24 < 20 then pathsL.getD (n % 24 / 5) [] ++ endsL.getD (n % 24 % 5) [] else restL.getD (n % 24 - 20) []
def valsL : List (List UInt8) := [[], [118], [119, 120], [120, 121, 122]]
theorem xI3 {n : Nat} (hn : n < 256) : VC Tryd.prog 28 [.int .u8 n] [] (.str (keyT n)) [] := xNd xHC xJN (fuel := 10) (d := 3) (F := keyT) (by kernel_rfl) hn
theorem xRk {n : Nat} (hn : n < 256) : VC Tryd.prog 29 [.int .u8 n] [] (.str (preL n)) [] := xNd xHC xJN (fuel := 10) (d := 3) (F := preL) (by kernel_rfl) hn
theorem xGX (n : Nat) : (keyT n).length ≤ 20 := by
  have h : n % 24 < 24 := Nat.mod_lt _ (by decide)
  unfold keyT
  generalize n % 24 = m at h
  have : ∀ m, m < 24 → (if m < 20 then pathsL.getD (m / 5) [] ++ endsL.getD (m % 5) [] else restL.getD (m - 20) []).length ≤ 20 := by decide
  exact this m h
def xNF (r : RawL) : PairL := ⟨keyT r.x, valsL.getD (r.y % 4) [], r.z % 4⟩
theorem xPb (r : RawL) : VC Tryd.prog 13 [.agg (encR r)] [] (.agg (encP (xNF r))) [] := by
  obtain ⟨x, y, z, hx, hy, hz⟩ := r
  refine vcs vf13 ?_
  have hk := xI3 hx
  have h1 : (z : Int).tmod 4 = ((z % 4 : Nat) : Int) := rfl
  have h0 : (y : Int).tmod 4 = ((y % 4 : Nat) : Int) := rfl
  have h2 : IntKind.i64.wrap ((z % 4 : Nat) : Int) = ((z % 4 : Nat) : Int) := xDE (by omega) (by omega)
  have h3 : y % 4 = 0 ∨ y % 4 = 1 ∨ y % 4 = 2 ∨ y % 4 = 3 := by omega
  rcases h3 with h3 | h3 | h3 | h3
  · have h4 : (y : Int).tmod 4 = 0 := by rw [h0, h3]; rfl
    repeat first|refine sgo ?_|refine cv0 hk ?_|refine xCE ?_|refine xBb ?_|refine sop ?_
    refine xAC ⟨.inr rfl, oAny ?_⟩
    simp only [xNF, h3]
    rfl
  · have h4 : (y : Int).tmod 4 = 1 := by rw [h0, h3]; rfl
    repeat first|refine sgo ?_|refine cv0 hk ?_|refine xCE ?_|refine xBb ?_|refine sop ?_
    refine xAC ⟨.inr rfl, oAny ?_⟩
    simp only [xNF, h3]
    rfl
  · have h4 : (y : Int).tmod 4 = 2 := by rw [h0, h3]; rfl
    repeat first|refine sgo ?_|refine cv0 hk ?_|refine xCE ?_|refine xBb ?_|refine sop ?_
    refine xAC ⟨.inr rfl, oAny ?_⟩
    simp only [xNF, h3]
    rfl
  · have h4 : (y : Int).tmod 4 = 3 := by rw [h0, h3]; rfl
    repeat first|refine sgo ?_|refine cv0 hk ?_|refine xCE ?_|refine xBb ?_|refine sop ?_
    refine xAC ⟨.inr rfl, oAny ?_⟩
    simp only [xNF, h3]
    rfl
def xFZ (x y : Nat) : SpanL := ⟨if 200 ≤ x then preL x else keyT x, if 240 ≤ y then [] else if 200 ≤ y then (if 200 ≤ x then preL x else keyT x) ++ [0] else keyT y⟩
theorem xGQ {x y : Nat} (hx : x < 256) (hy : y < 256) : VC Tryd.prog 11 [.agg [.int .u8 x, .int .u8 y]] [] (.agg (encS (xFZ x y))) [] := by
  refine vcs vf11 ?_
  have k1 := xI3 hx
  have k2 := xI3 hy
  have p1 := xRk hx
  have l1 := xGX x
  have l2 := xOD x
  have hr : xFZ x y = ⟨if 200 ≤ x then preL x else keyT x, if 240 ≤ y then [] else if 200 ≤ y then (if 200 ≤ x then preL x else keyT x) ++ [0] else keyT y⟩ := rfl
  rw [hr]
  generalize keyT x = a at *
  generalize keyT y = b at *
  generalize preL x = c at *
  repeat first|refine sgo ?_|refine cv0 k1 ?_|refine cv0 k2 ?_|refine sop ?_
  refine cnd (fun h1 => ?_) (fun h1 => xAA ?_)
  · have h1' : 200 ≤ x := by have h' := of_decide_eq_true h1; omega
    simp only [if_pos h1']
    repeat first|refine sgo ?_|refine cv0 p1 ?_|refine sop ?_
    refine cnd (fun h2 => ?_) (fun h2 => xAA ?_)
    · have h2' : 200 ≤ y := by have h' := of_decide_eq_true h2; omega
      simp only [if_pos h2']
      repeat first|refine sgo ?_|refine sop ?_
      refine cnd (fun h3 => ?_) (fun h3 => xAA ?_)
      · have h3' : 240 ≤ y := by have h' := of_decide_eq_true h3; omega
        simp only [if_pos h3']
        repeat first|refine sgo ?_|refine sop ?_
        exact xAC ⟨.inr rfl, oC rfl⟩
      · have h3' : ¬ 240 ≤ y := by have h' := of_decide_eq_false h3; omega
        simp only [if_neg h3']
        repeat first|refine sgo ?_|refine sop ?_
        exact xAC ⟨.inr rfl, oC rfl⟩
    · have h2' : ¬ 200 ≤ y := by have h' := of_decide_eq_false h2; omega
      have h3' : ¬ 240 ≤ y := by omega
      simp only [if_neg h2', if_neg h3']
      repeat first|refine sgo ?_|refine sop ?_
      refine cndf (xAA ?_) rfl (decide_eq_false (by omega))
      repeat first|refine sgo ?_|refine sop ?_
      exact xAC ⟨.inr rfl, oC rfl⟩
  · have h1' : ¬ 200 ≤ x := by have h' := of_decide_eq_false h1; omega
    simp only [if_neg h1']
    repeat first|refine sgo ?_|refine cv0 p1 ?_|refine sop ?_
    refine cnd (fun h2 => ?_) (fun h2 => xAA ?_)
    · have h2' : 200 ≤ y := by have h' := of_decide_eq_true h2; omega
      simp only [if_pos h2']
      repeat first|refine sgo ?_|refine sop ?_
      refine cnd (fun h3 => ?_) (fun h3 => xAA ?_)
      · have h3' : 240 ≤ y := by have h' := of_decide_eq_true h3; omega
        simp only [if_pos h3']
        repeat first|refine sgo ?_|refine sop ?_
        exact xAC ⟨.inr rfl, oC rfl⟩
      · have h3' : ¬ 240 ≤ y := by have h' := of_decide_eq_false h3; omega
        simp only [if_neg h3']
        repeat first|refine sgo ?_|refine sop ?_
        exact xAC ⟨.inr rfl, oC rfl⟩
    · have h2' : ¬ 200 ≤ y := by have h' := of_decide_eq_false h2; omega
      have h3' : ¬ 240 ≤ y := by omega
      simp only [if_neg h2', if_neg h3']
      repeat first|refine sgo ?_|refine sop ?_
      refine cndf (xAA ?_) rfl (decide_eq_false (by omega))
      repeat first|refine sgo ?_|refine sop ?_
      exact xAC ⟨.inr rfl, oC rfl⟩
theorem xE9 {x y : Nat} : (xFZ x y).lo.length ≤ 30 ∧ (xFZ x y).hi.length ≤ 30 := by
  have l1 := xGX x
  have l2 := xGX y
  have l3 := xOD x
  unfold xFZ
  constructor
  · simp only; split <;> omega
  · simp only
    split
    · simp
    · split
      · rw [List.length_append]; split <;> simp <;> omega
      · omega
theorem xRl (s : SpanL) (k : Str) : VC Tryd.prog 43 [.agg (encS s), .str k] [] (.bool (hasL s k)) [] := by
  refine vcs vf43 ?_
  repeat' first|refine sgo ?_|refine scn ?_|refine sop ?_|refine xAC ⟨.inr rfl, ?_⟩|refine cnd (fun _ => ?_) (fun _ => ?_)|(refine xB1 (fun _ => ?_) (fun _ => ?_) <;> first|refine xAX ?_|refine sop ?_)
  all_goals refine oB ?_
  all_goals simp_all [hasL]
theorem xPf {q p : PV} {l m : List SpanL} (hq : Sl q (l.map encS)) (hp : Sl p (m.map encS)) (hl : l.length ≤ maxLen) (hm : m.length ≤ maxLen) : VC Tryd.prog 17 [q, p] [] (.bool (decide (l = m))) [] := by
  refine vcs vf17 ?_
  unfold maxLen at hl hm
  repeat first|refine sgo ?_|refine sop ?_
  refine cnd (fun h => ?_) (fun h => xAA ?_)
  · repeat first|refine sgo ?_|refine sop ?_
    refine xAC ⟨.inr rfl, oB ?_⟩
    have : l ≠ m := by
      intro e; subst e
      simp at h
    simp [this]
  · have hlm : l.length = m.length := by have h' : (l.length : Int) = m.length := by simpa using h
                                         omega
    repeat first|refine sgo ?_|refine sop ?_
    refine xAH (fun (g : Nat) => [(0, q), (1, p), (5, .int .i64 g)]) (fun g => []) (fun g => l.length - g)
      (fun g => g ≤ l.length ∧ l.take g = m.take g) 0 goes ⟨Nat.zero_le _, rfl⟩ ?_
    rintro i ⟨hi, hv⟩
    (try dsimp only)
    repeat first|refine sgo ?_|refine sop ?_
    refine cnd (fun h => xAA ?_) (fun h => xAF ?_)
    · have hlt : i < l.length := by have h' := of_decide_eq_true h; simp only [List.length_map] at h'; omega
      obtain ⟨x, hx⟩ : ∃ x, l[i]? = some x := ⟨_, List.getElem?_eq_getElem hlt⟩
      obtain ⟨y, hy⟩ : ∃ x, m[i]? = some x := ⟨_, List.getElem?_eq_getElem (by omega)⟩
      have hxe := gm (enc := encS) (n := (i : Int)) hx (by omega)
      have hye := gm (enc := encS) (n := (i : Int)) hy (by omega)
      repeat first|refine sgo ?_|refine sop ?_
      refine cnd (fun h2 => ?_) (fun h2 => xAA ?_)
      · repeat first|refine sgo ?_|refine sop ?_
        refine xAC ⟨.inr rfl, oB ?_⟩
        have hne : l ≠ m := xSq hx hy (by intro e; subst e; simp at h2)
        simp [hne]
      · have hxy : x = y := by
          have h3 : x.lo = y.lo ∧ x.hi = y.hi := by simpa using h2
          cases x; cases y; simp at h3; obtain ⟨rfl, rfl⟩ := h3; rfl
        subst hxy
        repeat first|refine sgo ?_|refine sop ?_
        refine agn (i + 1) ⟨by omega, ?_⟩ goes
        rw [List.take_add_one, List.take_add_one, hv, hx, hy]
    · have hge : i = l.length := by have h' := of_decide_eq_false h; simp only [List.length_map] at h'; omega
      subst hge
      repeat first|refine sgo ?_|refine sop ?_
      refine xAC ⟨.inr rfl, oB ?_⟩
      rw [List.take_length, hlm, List.take_length] at hv
      simp [hv]
set_option maxHeartbeats 2000000 in
theorem xSX {q : PV} {l : List SpanL} (hq : Sl q (l.map encS)) (hl : l.length ≤ 1000) (hs : ∀ s ∈ l, s.lo.length ≤ 1000 ∧ s.hi.length ≤ 1000) : VC Tryd.prog 24 [q] [] (ownV ⟨0, 0⟩ ((xLP l).map encT)) [blkV 1 ((xLP l).map encT)] := by
  refine vcs vf24 ?_
  repeat first|refine sgo ?_|refine sop ?_
  refine xAH (fun (g : Nat × List Str) => [(0, q), (3, ownV ⟨1, 8192⟩ (g.2.map encT)), (4, .int .i64 g.1)]) (fun g => [(⟨1, 8192⟩, blkV 1 (g.2.map encT))]) (fun g => l.length - g.1)
    (fun g => g.1 ≤ l.length ∧ g.2.length ≤ 4 + 10 * g.1 ∧ (l.drop g.1).foldl (fun o s => o ++ xDf s.lo ++ xDf s.hi) g.2 = xLP l) (0, [[], [0], [97], [255]]) goes ⟨Nat.zero_le _, by simp, rfl⟩ ?_
  rintro ⟨i, o⟩ ⟨hi, hol, hv⟩
  dsimp only at hi hol hv ⊢
  repeat first|refine sgo ?_|refine sop ?_
  refine cnd (fun h => xAA ?_) (fun h => xAF ?_)
  · have hlt : i < l.length := by have h' := of_decide_eq_true h; simp only [List.length_map] at h'; omega
    obtain ⟨x, hx⟩ : ∃ x, l[i]? = some x := ⟨_, List.getElem?_eq_getElem hlt⟩
    have hxe := gm (enc := encS) (n := (i : Int)) hx (by omega)
    have hxs := hs x (List.mem_of_getElem? hx)
    rw [xA7 hx, List.foldl_cons] at hv
    repeat first|refine sgo ?_|refine sop ?_
    refine xAH (fun (g : Nat × List Str) => [(0, q), (3, ownV ⟨1, 8192⟩ (g.2.map encT)), (4, .int .i64 i), (5, .own ⟨1, 41040⟩ 2 0 2), (6, .int .i64 g.1)])
      (fun g => [(⟨1, 8192⟩, blkV 1 (g.2.map encT)), (⟨1, 41040⟩, blkV 1 [[.str x.lo], [.str x.hi]])]) (fun g => 2 - g.1)
      (fun g => g.1 ≤ 2 ∧ g.2.length ≤ 4 + 10 * i + 5 * g.1 ∧ ([x.lo, x.hi].drop g.1).foldl (fun o e => o ++ xDf e) g.2 = o ++ xDf x.lo ++ xDf x.hi) (0, o) goes ⟨by simp, by simp; omega, rfl⟩ ?_
    rintro ⟨k, p⟩ ⟨hk, hpl, hw⟩
    dsimp only at hk hpl hw ⊢
    repeat first|refine sgo ?_|refine sop ?_
    refine cnd (fun h2 => xAA ?_) (fun h2 => xAF ?_)
    · have hk2 : k < 2 := by have h' := of_decide_eq_true h2; omega
      obtain ⟨e, he⟩ : ∃ e, [x.lo, x.hi][k]? = some e := ⟨_, List.getElem?_eq_getElem (by simpa using hk2)⟩
      have hke : (blkV 1 [[PV.str x.lo], [.str x.hi]]).els[0 + (k : Int).toNat]? = some [.str e] := by
        rw [show 0 + (k : Int).toNat = k by omega]
        show (List.map encT [x.lo, x.hi])[k]? = _
        rw [List.getElem?_map, he]; rfl
      have hel : e.length ≤ 1000 := by
        have := List.mem_of_getElem? he
        simp at this
        rcases this with rfl | rfl
        · exact hxs.1
        · exact hxs.2
      rw [xA7 he, List.foldl_cons] at hw
      repeat first|refine sgo ?_|refine xAG ?_|refine o_v (vaps encT p [e, e ++ [0], e ++ [255]]) ?_|refine sop ?_
      refine cnd (fun h3 => ?_) (fun h3 => xAA ?_)
      · have hpos : 0 < e.length := by have h' := of_decide_eq_true h3; omega
        obtain ⟨c, hc⟩ : ∃ c, e[e.length - 1]? = some c := ⟨_, List.getElem?_eq_getElem (by omega)⟩
        have hce : e[(((e.length : Nat) : Int) - 1).toNat]? = some c := by rw [show (((e.length : Nat) : Int) - 1).toNat = e.length - 1 by omega]; exact hc
        have hlow : lowE e = UInt8.ofNat (IntKind.u8.wrap ((c.toNat : Int) - 1)).toNat := by simp only [lowE, List.getD, hc, Option.getD_some]
        have hn1 : xDf e = [e, e ++ [0], e ++ [255]] ++ [cutE e, cutE e ++ [UInt8.ofNat (IntKind.u8.wrap ((c.toNat : Int) - 1)).toNat] ++ [255]] := by rw [xDf, if_neg (by omega), hlow]
        repeat first|refine sgo ?_|refine xD5 ?_|refine o_v (vaps encT (p ++ [e, e ++ [0], e ++ [255]]) [cutE e, cutE e ++ [UInt8.ofNat (IntKind.u8.wrap ((c.toNat : Int) - 1)).toNat] ++ [255]]) ?_|refine sop ?_
        refine agn (k + 1, (p ++ [e, e ++ [0], e ++ [255]]) ++ [cutE e, cutE e ++ [UInt8.ofNat (IntKind.u8.wrap ((c.toNat : Int) - 1)).toNat] ++ [255]]) ⟨by simp only; omega, by simp only [List.length_append, List.length_cons, List.length_nil]; omega, ?_⟩ goes
        rw [← hw, hn1]
        simp only [List.append_assoc]
      · have h0 : e.length = 0 := by have h' := of_decide_eq_false h3; omega
        have hn1 : xDf e = [e, e ++ [0], e ++ [255]] := by rw [xDf, if_pos h0]
        repeat first|refine sgo ?_|refine sop ?_
        refine agn (k + 1, p ++ [e, e ++ [0], e ++ [255]]) ⟨by simp only; omega, by simp only [List.length_append, List.length_cons, List.length_nil]; omega, ?_⟩ goes
        rw [← hw, hn1]
    · have hk2 : k = 2 := by have h' := of_decide_eq_false h2; omega
      subst hk2
      repeat first|refine sgo ?_|refine sop ?_
      refine agn (i + 1, p) ⟨by simp only; omega, by simp only; omega, ?_⟩ goes
      rw [← hv, ← hw]
      rfl
  · have hge : i = l.length := by have h' := of_decide_eq_false h; simp only [List.length_map] at h'; omega
    subst hge
    rw [List.drop_length] at hv
    repeat first|refine sgo ?_|refine sop ?_
    refine xAC ⟨.inr rfl, oOwn ?_⟩
    rw [← hv]
    rfl
set_option maxHeartbeats 1000000 in
theorem xNi {q : PV} {t : List PairL} (s : SpanL) (hq : Sl q (t.map encP)) (hl : t.length ≤ 1000000) : VC Tryd.prog 25 [q, .agg (encS s)] [] (ownV ⟨0, 0⟩ ((xA8 t s).map encP)) [blkV 3 ((xA8 t s).map encP)] := by
  refine vcs vf25 ?_
  have hmt : (t.map encP).length = t.length := List.length_map ..
  repeat first|refine sgo ?_|refine sop ?_
  refine xAH (fun (g : Nat × List PairL) => [(0, q), (3, .ptr ⟨1, 0⟩ 1 0 0), (5, ownV ⟨1, 8192⟩ (g.2.map encP)), (6, .int .i64 g.1)])
    (fun g => [(⟨1, 0⟩, ⟨true, false, 2, [encS s]⟩), (⟨1, 8192⟩, blkV 3 (g.2.map encP))]) (fun g => t.length - g.1)
    (fun g => g.1 ≤ t.length ∧ g.2.length ≤ g.1 ∧ g.2 = xA8 (t.take g.1) s) (0, []) goes ⟨Nat.zero_le _, Nat.le_refl _, rfl⟩ ?_
  rintro ⟨i, o⟩ ⟨hi, hol, ho⟩
  dsimp only at hi hol ho ⊢
  repeat first|refine sgo ?_|refine sop ?_
  refine cnd (fun h => xAA ?_) (fun h => xAF ?_)
  · have hlt : i < t.length := by have h' := of_decide_eq_true h; omega
    obtain ⟨y, hy⟩ : ∃ x, t[i]? = some x := ⟨_, List.getElem?_eq_getElem hlt⟩
    have hye := gm (enc := encP) (n := (i : Int)) hy (by omega)
    have hst := xFp (fun p => hasL s p.key) hy
    have ho' : o = (t.take i).filter (fun p => hasL s p.key) := ho
    rw [← ho'] at hst
    repeat first|refine sgo ?_|refine cv0 (xRl s y.key) ?_|refine sop ?_
    refine cnd (fun h2 => ?_) (fun h2 => xAA ?_)
    · rw [if_pos h2] at hst
      repeat first|refine sgo ?_|refine o_v (vap encP y) ?_|refine sop ?_
      exact agn (i + 1, o ++ [y]) ⟨by simp only; omega, by simp only [List.length_append, List.length_cons, List.length_nil]; omega, hst.symm⟩ goes
    · rw [if_neg (by simp [h2])] at hst
      repeat first|refine sgo ?_|refine sop ?_
      exact agn (i + 1, o) ⟨by simp only; omega, by simp only; omega, hst.symm⟩ goes
  · have hge : i = t.length := by have h' := of_decide_eq_false h; omega
    subst hge
    rw [List.take_length] at ho
    subst ho
    repeat first|refine sgo ?_|refine sop ?_
    exact xAC ⟨.inr rfl, oOwn rfl⟩
set_option maxHeartbeats 1000000 in
theorem xRm {l : List MsgL} {t : List PairL} {B : Nat} (ht : TabOk 1 B t) (hB : 8 ≤ B) (hb : B ≤ 1000) (hn : l.length ≤ 10) (ho : ∀ m ∈ l, MsgOk m) (hm : ∀ m ∈ l, MsgLen 8 m) : VC Tryd.prog 26 [.sh false (t.map encP), .sh false (l.map encM)] [] (.sh false ((allT t l).map encP)) [] := by
  have hml : (l.map encM).length = l.length := List.length_map _
  refine vcs vf26 ?_
  repeat first|refine sgo ?_|refine sop ?_
  refine xAH (fun (g : Nat) => [(0, .sh false ((allT t (l.take g)).map encP)), (1, .sh false (l.map encM)), (5, .int .i64 g)]) (fun _ => []) (fun g => l.length - g)
    (fun g => g ≤ l.length) 0 xAT (Nat.zero_le _) ?_
  intro i hi
  repeat first|refine sgo ?_|refine sop ?_
  refine cnd (fun h => xAA ?_) (fun h => xAF ?_)
  · have hlt : i < l.length := by have h' := of_decide_eq_true h; omega
    obtain ⟨m, hx⟩ : ∃ m, l[i]? = some m := ⟨_, List.getElem?_eq_getElem hlt⟩
    have hxe := gm (enc := encM) (n := (i : Int)) hx (by omega)
    have hmem := List.mem_of_getElem? hx
    have hln : (l.take i).length ≤ 10 := by rw [List.length_take]; omega
    have htb := xLq (l.take i) ht (Nat.le_refl _) hB fun x hx' => hm x (List.mem_of_mem_take hx')
    have htk : TabOk 49000000 100000 (allT t (l.take i)) := htb.mono (Nat.le_trans (xRC hln) (by decide)) (by omega)
    have hap := xN8 (htk) (ho m hmem) (hm m hmem)
    rw [xKD htk.s (ho m hmem)] at hap
    have hst : xC7 (allT t (l.take i)) m = allT t (l.take (i + 1)) := by
      rw [List.take_add_one, hx, Option.toList_some, xSz]; rfl
    rw [hst] at hap
    generalize allT t (l.take i) = c at hap
    repeat first|refine sgo ?_|refine cf hap ?_|refine sop ?_
    exact agn (Q := fun _ _ => True) (i + 1) (by omega) xAT
  · have hge : i = l.length := by have h' := of_decide_eq_false h; omega
    subst hge
    rw [List.take_length]
    repeat first|refine sgo ?_|refine sop ?_
    exact xAC ⟨.inr rfl, oAny rfl⟩
def keyW (n : Nat) (s : Str) : Str := if 200 ≤ n then s else keyT n
theorem xK1 {n : Nat} (hn : n < 256) (s : Str) : VC Tryd.prog 10 [.int .u8 n, .str s] [] (.str (keyW n s)) [] := by
  have h := xI3 hn
  refine vcs vf10 ?_
  unfold keyW
  generalize keyT n = k at *
  repeat first|refine sgo ?_|refine sop ?_
  refine cnd (fun h1 => ?_) (fun h1 => xAA ?_)
  · rw [if_pos (by have h' := of_decide_eq_true h1; omega)]
    repeat first|refine sgo ?_|refine sop ?_
    exact xAC ⟨.inr rfl, oAny rfl⟩
  · rw [if_neg (by have h' := of_decide_eq_false h1; omega)]
    repeat first|refine sgo ?_|refine cv0 h ?_|refine sop ?_
    exact xAC ⟨.inr rfl, oAny rfl⟩
end Go.Proofs
open Go.V Go.Pu
set_option linter.unusedVariables false
set_option linter.unusedSimpArgs false
set_option maxRecDepth 20000
namespace Go.Proofs
def dL : PV → Option (List (List PV))
  | .nils => some []
  | .she => some []
  | .sh _ l => some l
  | _ => none
theorem dL_sl {p : PV} {l : List (List PV)} (h : dL p = some l) : Sl p l := by
  cases p <;> simp only [dL] at h <;> first
    | (cases h; exact .inl ⟨rfl, rfl⟩)
    | (cases h; exact .inr (.inl ⟨rfl, rfl⟩))
    | (cases h; exact Sl.sh)
    | cases h
def dM : List PV → Option MsgL
  | [.int .i64 k, .str a, .str b, .str c, .str d, .str e, .str f, .int .i64 n] => some ⟨k, a, b, ⟨c, d⟩, e, f, n⟩
  | _ => none
theorem dM_ok {e : List PV} {x : MsgL} (h : dM e = some x) : e = encM x := by
  unfold dM at h
  split at h
  · cases h; rfl
  · cases h
def dS : List PV → Option SpanL
  | [.str c, .str d] => some ⟨c, d⟩
  | _ => none
theorem dS_ok {e : List PV} {x : SpanL} (h : dS e = some x) : e = encS x := by
  unfold dS at h
  split at h
  · cases h; rfl
  · cases h
def dAll {α : Type} (f : List PV → Option α) : List (List PV) → Option (List α)
  | [] => some []
  | e :: r => (f e).bind fun x => (dAll f r).map (x :: ·)
theorem xLe {α : Type} {f : List PV → Option α} {enc : α → List PV} (hf : ∀ e x, f e = some x → e = enc x) : ∀ {l : List (List PV)} {xs : List α}, dAll f l = some xs → l = xs.map enc
  | [], xs, h => by cases h; rfl
  | e :: r, xs, h => by
    unfold dAll at h
    obtain ⟨x, hx, h⟩ := bind_some h
    obtain ⟨ys, hy, rfl⟩ := map_some h
    rw [xLe hf hy, hf _ _ hx]; rfl
def dMs (p : PV) : Option (List MsgL) := (dL p).bind (dAll dM)
def dSs (p : PV) : Option (List SpanL) := (dL p).bind (dAll dS)
theorem xRS {p : PV} {xs : List MsgL} (h : dMs p = some xs) : Sl p (xs.map encM) := by
  obtain ⟨l, h1, h2⟩ := bind_some h
  rw [← xLe (fun e x => dM_ok) h2]
  exact dL_sl h1
theorem dSs_ok {p : PV} {xs : List SpanL} (h : dSs p = some xs) : Sl p (xs.map encS) := by
  obtain ⟨l, h1, h2⟩ := bind_some h
  rw [← xLe (fun e x => dS_ok) h2]
  exact dL_sl h1
def szB (m : MsgL) : Bool := decide (1 ≤ m.kind) && decide (m.kind ≤ 6) && Nat.ble m.key.length 8 && Nat.ble m.sp.lo.length 8 && Nat.ble m.sp.hi.length 8 && Nat.ble m.fr.length 8 && Nat.ble m.to.length 8 && (!(decide (m.kind = 4) || decide (m.kind = 5)) || (!m.fr.isEmpty && !m.to.isEmpty && !xAD m.fr m.to && !xAD m.to m.fr))
def szA : List MsgL → Bool
  | [] => true
  | m :: r => szB m && szA r
theorem szB_ok {m : MsgL} (h : szB m = true) : MsgOk m ∧ MsgLen 8 m := by
  unfold szB at h
  simp only [Bool.and_eq_true, Bool.or_eq_true, Bool.not_eq_true', Bool.or_eq_false_iff, decide_eq_true_eq, decide_eq_false_iff_not, List.isEmpty_eq_false_iff] at h
  obtain ⟨⟨⟨⟨⟨⟨⟨a, b⟩, c⟩, d⟩, e⟩, f⟩, g⟩, i⟩ := h
  refine ⟨⟨⟨a, b⟩, fun h45 => ?_, fun h45 => ?_⟩, ⟨Nat.le_of_ble_eq_true c, Nat.le_of_ble_eq_true d, Nat.le_of_ble_eq_true e, Nat.le_of_ble_eq_true f, Nat.le_of_ble_eq_true g⟩⟩
  · rcases i with i | i
    · omega
    · exact ⟨i.1.2, i.2⟩
  · rcases i with i | i
    · omega
    · exact ⟨i.1.1.1, i.1.1.2⟩
theorem xJy : ∀ {l : List MsgL}, szA l = true → ∀ m ∈ l, MsgOk m ∧ MsgLen 8 m
  | x :: r, h, m, hm => by
    unfold szA at h
    rw [Bool.and_eq_true] at h
    rcases List.mem_cons.1 hm with rfl | hm
    · exact szB_ok h.1
    · exact xJy h.2 m hm
def orc : V.Call := fun f args hin => match Nat.beq f 16, Nat.beq f 18, args, hin with
  | true, _, [.str k, q], [] => (dMs q).bind fun l => match szA l && Nat.ble l.length 40 && Nat.ble k.length 1000 with
    | true => some (.agg (xHu (keyL k l)), [])
    | false => none
  | _, true, [.agg [.str c, .str d], q], [] => (dMs q).bind fun l => match szA l && Nat.ble l.length 40 && Nat.ble c.length 100 && Nat.ble d.length 100 with
    | true => some (.sh false ((xAp ⟨c, d⟩ l.reverse).map encS), [])
    | false => none
  | _, _, _, _ => none
theorem xP6 : xCN Tryd.prog orc := by
  intro f args hin v hout h
  unfold orc at h
  split at h
  · rename_i k q hf
    obtain ⟨l, hl, h⟩ := bind_some h
    split at h
    · rename_i hc
      cases h
      simp only [Bool.and_eq_true] at hc
      have hf : f = 16 := Nat.eq_of_beq_eq_true (by assumption)
      subst hf
      have h1 := Nat.le_of_ble_eq_true hc.2
      have h2 := Nat.le_of_ble_eq_true hc.1.2
      exact xGj (xFM (by omega) (by omega) (fun m hm => (xJy hc.1.1 m hm).1) (fun m hm => (xJy hc.1.1 m hm).2)) (.cons (PLe.refl _) (.cons (PLe.sl (xRS hl)) .nil)) (PLe.refl _)
    · cases h
  · obtain ⟨l, hl, h⟩ := bind_some h
    split at h
    · rename_i hc
      cases h
      simp only [Bool.and_eq_true] at hc
      have hf : f = 18 := Nat.eq_of_beq_eq_true (by assumption)
      subst hf
      have h1 := Nat.le_of_ble_eq_true hc.2
      have h2 := Nat.le_of_ble_eq_true hc.1.2
      have h3 := Nat.le_of_ble_eq_true hc.1.1.2
      exact xGj (xCJ h3 (fun m hm => (xJy hc.1.1.1 m hm).1) (fun m hm => (xJy hc.1.1.1 m hm).2) ⟨h2, h1⟩) (.cons (PLe.refl _) (.cons (PLe.sl (xRS hl)) .nil)) (PLe.refl _)
    · cases h
  · cases h
theorem xM6 : run Tryd.prog orc noX 400 20 8 [] [] = some (.bool true, []) := by kernel_rfl
theorem xD0 : VC Tryd.prog 8 [] [] (.bool true) [] := xL1 xP6 xJN 20 _ _ _ _ _ xM6
end Go.Proofs
open Go.V Go.Pu
set_option linter.unusedVariables false
set_option linter.unusedSimpArgs false
set_option maxRecDepth 20000
namespace Go.Proofs
theorem xNI {l : List RawM} (hl : l.length ≤ 9223372036854775807) (hr : ∀ r ∈ l, r.ok) (n : Nat) (hn : n ≤ 1000) : VC Tryd.prog 9 [.sh false (l.map encW), .int .i64 n] [] (.sh false ((xB5 l n).map encM)) [] := xGP (xSf hl hr n hn) (xAV rfl rfl)
theorem xId (l : List RawM) (n : Nat) : (xB5 l n).length ≤ n := by unfold xB5; rw [List.length_map, List.length_take]; omega
theorem decW {q : List PV} (n : q.length = 6) (h : ∀ (j : Nat) (p : PV), j < 6 → q[j]? = some p → InTy (.int .u8) p) : ∃ r : RawM, q = encW r ∧ r.ok := by
  obtain ⟨a, b, c, d, e, f, rfl⟩ := list6 n
  obtain ⟨a, rfl, h1⟩ := xEz (h 0 _ (by omega) rfl)
  obtain ⟨b, rfl, h2⟩ := xEz (h 1 _ (by omega) rfl)
  obtain ⟨c, rfl, h3⟩ := xEz (h 2 _ (by omega) rfl)
  obtain ⟨d, rfl, h4⟩ := xEz (h 3 _ (by omega) rfl)
  obtain ⟨e, rfl, h5⟩ := xEz (h 4 _ (by omega) rfl)
  obtain ⟨f, rfl, h6⟩ := xEz (h 5 _ (by omega) rfl)
  exact ⟨⟨a, b, c, d, e, f⟩, rfl, h1, h2, h3, h4, h5, h6⟩
theorem xQw {j : Nat} (h : j < 6) : [CTy.int .u8, .int .u8, .int .u8, .int .u8, .int .u8, .int .u8][j]? = some (.int .u8) := by
  match j, h with
  | 0, _ => rfl
  | 1, _ => rfl
  | 2, _ => rfl
  | 3, _ => rfl
  | 4, _ => rfl
  | 5, _ => rfl
theorem xNS {l : List (List PV)} (h : InTy (.sl [.int .u8, .int .u8, .int .u8, .int .u8, .int .u8, .int .u8]) (.sh false l)) : ∃ rs : List RawM, l = rs.map encW ∧ (∀ r ∈ rs, r.ok) ∧ rs.length ≤ 9223372036854775807 := by
  obtain ⟨xs, h1, h2⟩ := xLd (enc := fun (a : { r : RawM // r.ok }) => encW a.1) h fun e hl hc => by
    obtain ⟨r, rfl, hr⟩ := decW hl fun j p hj hp => hc j _ _ (xQw hj) hp
    exact ⟨⟨r, hr⟩, rfl⟩
  refine ⟨xs.map (·.1), by rw [h1, List.map_map]; rfl, fun r hr => ?_, by simpa [maxLen] using h2⟩
  obtain ⟨a, _, rfl⟩ := List.mem_map.1 hr
  exact a.2
theorem veqF (a : FoundL) {neg : Bool} {lvl site : Nat} {tf : TF} {hf : HF} {x y : VX} (hx : ev tf x = some (.agg (xHu a)) := by rfl) (hy : ev tf y = some (.agg (xHu a)) := by rfl) :
    vop lvl site tf hf (.eqc neg [0, 0, 2, 2, 1, 2, 0, 1] x y) = some ⟨.bool (!neg), [], []⟩ := by
  cases neg <;> simp [vop, hx, hy, xAo, xBl, retV]
theorem veqP (a : PairL) {neg : Bool} {lvl site : Nat} {tf : TF} {hf : HF} {x y : VX} (hx : ev tf x = some (.agg (encP a)) := by rfl) (hy : ev tf y = some (.agg (encP a)) := by rfl) :
    vop lvl site tf hf (.eqc neg [2, 2, 1] x y) = some ⟨.bool (!neg), [], []⟩ := by
  cases neg <;> simp [vop, hx, hy, xAo, xBl, retV]
theorem veqB (a : Bool) {neg : Bool} {lvl site : Nat} {tf : TF} {hf : HF} {x y : VX} (hx : ev tf x = some (.bool a) := by rfl) (hy : ev tf y = some (.bool a) := by rfl) :
    vop lvl site tf hf (.eqb neg x y) = some ⟨.bool (!neg), [], []⟩ := by
  cases neg <;> cases a <;> simp [vop, hx, hy, retV]
theorem xGv {l : List SpanL} (hl : l.length ≤ maxLen) : VC Tryd.prog 17 [.sh false (l.map encS), .sh false (l.map encS)] [] (.bool true) [] := by
  have h := xPf (q := .sh false (l.map encS)) (p := .sh false (l.map encS)) (l := l) (m := l) Sl.sh Sl.sh hl hl
  rw [decide_eq_true rfl] at h
  exact h
theorem xJZ {n : Nat} {s : Str} (h : s.length ≤ 60) : (keyW n s).length ≤ 60 := by
  unfold keyW
  have := xGX n
  split <;> omega
end Go.Proofs
open Go.V Go.Pu
set_option linter.unusedVariables false
set_option linter.unusedSimpArgs false
set_option maxRecDepth 20000
namespace Go.Proofs
theorem dec4 {q : List PV} (n : q.length = [CTy.int .u8, .int .u8, .int .u8, .int .u8].length) (i : ∀ (j : Nat) (c : CTy) (p : PV), [CTy.int .u8, .int .u8, .int .u8, .int .u8][j]? = some c → q[j]? = some p → InTy c p) :
    ∃ a b c d : Nat, q = [.int .u8 a, .int .u8 b, .int .u8 c, .int .u8 d] ∧ a < 256 ∧ b < 256 ∧ c < 256 ∧ d < 256 := by
  match q, n with
  | [a, b, c, d], _ =>
    obtain ⟨a, rfl, h1⟩ := xEz (i 0 _ _ rfl rfl)
    obtain ⟨b, rfl, h2⟩ := xEz (i 1 _ _ rfl rfl)
    obtain ⟨c, rfl, h3⟩ := xEz (i 2 _ _ rfl rfl)
    obtain ⟨d, rfl, h4⟩ := xEz (i 3 _ _ rfl rfl)
    exact ⟨a, b, c, d, rfl, h1, h2, h3, h4⟩
theorem dec3 {q : List PV} (n : q.length = [CTy.int .u8, .int .u8, .int .u8].length) (i : ∀ (j : Nat) (c : CTy) (p : PV), [CTy.int .u8, .int .u8, .int .u8][j]? = some c → q[j]? = some p → InTy c p) :
    ∃ a b c : Nat, q = [.int .u8 a, .int .u8 b, .int .u8 c] ∧ a < 256 ∧ b < 256 ∧ c < 256 := by
  match q, n with
  | [a, b, c], _ =>
    obtain ⟨a, rfl, h1⟩ := xEz (i 0 _ _ rfl rfl)
    obtain ⟨b, rfl, h2⟩ := xEz (i 1 _ _ rfl rfl)
    obtain ⟨c, rfl, h3⟩ := xEz (i 2 _ _ rfl rfl)
    exact ⟨a, b, c, rfl, h1, h2, h3⟩
theorem dec2 {q : List PV} (n : q.length = [CTy.int .u8, .int .u8].length) (i : ∀ (j : Nat) (c : CTy) (p : PV), [CTy.int .u8, .int .u8][j]? = some c → q[j]? = some p → InTy c p) :
    ∃ a b : Nat, q = [.int .u8 a, .int .u8 b] ∧ a < 256 ∧ b < 256 := by
  match q, n with
  | [a, b], _ =>
    obtain ⟨a, rfl, h1⟩ := xEz (i 0 _ _ rfl rfl)
    obtain ⟨b, rfl, h2⟩ := xEz (i 1 _ _ rfl rfl)
    exact ⟨a, b, rfl, h1, h2⟩
theorem xCt {P : Program} {w : World} {base : Nat} {sp : Nat → Bool} {fuel : Nat} {t : TypeId} {ps rs : Array TypeId} {va : Bool} {v : Value} {q : List MemPlace}
    (ht : P.underlying t = some (.func ps rs va)) (h : DataW.trod (funcToken P) P w base sp true fuel t [v] = some (.nil, q)) : v = .nilFunc := by
  cases fuel with
  | zero => simp [DataW.trod] at h
  | succ n => cases v <;> simp_all [DataW.trod]
theorem xH6 {w : World} {b j : Nat} {v : Value} (h : w.cell? ⟨b, j, none⟩ = some v) : b < w.heap.size := by
  refine Decidable.byContradiction fun hn => ?_
  unfold World.cell? at h
  have : w.heap[b]? = none := Array.getElem?_eq_none (by omega)
  simp [this] at h
end Go.Proofs
