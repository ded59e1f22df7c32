/- Ta -/
import Derived.Test.YtlpjfoijjlmgeaaGreatDoorMa
import Derived.Test.YtlpjfoijjlmgeaaGreatDoorSa
import Derived.Test.YtlpjfoijjlmgeaaGreatDoorVD
import Derived.Test.YtlpjfoijjlmgeaaGreatDoorPu
open Go.V Go.Pu
set_option linter.unusedVariables false
set_option linter.unusedSimpArgs false
set_option maxRecDepth 20000
namespace Go.Proofs
def vc20 := vcm Tryz.prog 20
theorem vf20 : VF Tryz.prog 20 = some (53, vc20, [.tmp 4]) := by kernel_rfl
abbrev encP (p : PairL) : List PV := [.str p.key, .str p.val, .int .i64 p.stamp]
set_option maxHeartbeats 1000000 in
theorem xRD {q : PV} {xs : List PairL} {p : PairL} (hq : Sl q (xs.map encP)) (hl : xs.length ≤ 1000000000) : VC Tryz.prog 20 [q, .agg (encP p)] [] (ownV ⟨0, 0⟩ ((putL xs p).map encP)) [blkV 3 ((putL xs p).map encP)] := by
  refine vcs vf20 ?_
  repeat first|refine sgo ?_|refine sop ?_
  refine xAK (fun (g : Nat × List PairL × Bool) => [(0, q), (3, .ptr ⟨1, 0⟩ 1 0 0), (5, ownV ⟨1, 8192⟩ (g.2.1.map encP)), (6, .bool g.2.2), (7, .int .i64 g.1)])
    (fun g => [(⟨1, 0⟩, ⟨true, false, 3, [encP p]⟩), (⟨1, 8192⟩, blkV 3 (g.2.1.map encP))]) (fun g => xs.length - g.1)
    (fun g => g.1 ≤ xs.length ∧ g.2.1.length ≤ 2 * g.1 ∧ (xs.drop g.1).foldl (xBN p) g.2 = xs.foldl (xBN p) ([], false)) (0, [], false) goes ⟨by simp, by simp, rfl⟩ ?_
  rintro ⟨i, o, b⟩ ⟨hil, hol, hv⟩
  dsimp only at hil hol hv ⊢
  repeat first|refine sgo ?_|refine sop ?_
  refine cnd (fun h => xAB ?_) (fun h => xAE ?_)
  · have hlt : i < xs.length := by simpa using h
    obtain ⟨x, hx⟩ : ∃ x, xs[i]? = some x := ⟨_, List.getElem?_eq_getElem hlt⟩
    have hxe := gm (enc := encP) (n := (i : Int)) hx (by omega)
    rw [xBQ hx, List.foldl_cons] at hv
    repeat first|refine sgo ?_|refine sop ?_
    refine xCT (fun hg => ?_) (fun hg => ?_)
    · repeat first|refine sgo ?_|refine sop ?_
      refine cnd (fun hc => ?_) (fun hc => xAB ?_)
      · repeat first|refine sgo ?_|refine o_v (vap encP p) ?_|refine sop ?_
        refine cnd (fun hd => ?_) (fun hd => xAB ?_)
        · repeat first|refine sgo ?_|refine o_v (vap encP x) ?_|refine sop ?_
          refine xLN (i + 1, o ++ [p] ++ [x], true) (by simp only; omega) ⟨by simp only; omega, by simp only [List.length_append, List.length_cons, List.length_nil]; omega, ?_⟩ goes
          rw [← hv]
          simp only [xBN, hg, hc, hd, Bool.and_self, if_true]
        · repeat first|refine sgo ?_|refine sop ?_
          refine xLN (i + 1, o ++ [p], true) (by simp only; omega) ⟨by simp only; omega, by simp only [List.length_append, List.length_cons, List.length_nil]; omega, ?_⟩ goes
          rw [← hv]
          simp only [xBN, hg, hc, hd, Bool.and_self, if_true, Bool.false_eq_true, if_false]
      · repeat first|refine sgo ?_|refine sop ?_
        refine cnd (fun hd => ?_) (fun hd => xAB ?_)
        · repeat first|refine sgo ?_|refine o_v (vap encP x) ?_|refine sop ?_
          refine xLN (i + 1, o ++ [x], b) (by simp only; omega) ⟨by simp only; omega, by simp only [List.length_append, List.length_cons, List.length_nil]; omega, ?_⟩ goes
          rw [← hv]
          simp only [xBN, hg, hc, hd, Bool.and_false, if_true, Bool.false_eq_true, if_false]
        · repeat first|refine sgo ?_|refine sop ?_
          refine xLN (i + 1, o, b) (by simp only; omega) ⟨by simp only; omega, by simp only; omega, ?_⟩ goes
          rw [← hv]
          simp only [xBN, hg, hc, hd, Bool.and_false, Bool.false_eq_true, if_false]
    · repeat first|refine sgo ?_|refine sop ?_
      refine cndf (xAB ?_)
      repeat first|refine sgo ?_|refine sop ?_
      refine cnd (fun hd => ?_) (fun hd => xAB ?_)
      · repeat first|refine sgo ?_|refine o_v (vap encP x) ?_|refine sop ?_
        refine xLN (i + 1, o ++ [x], b) (by simp only; omega) ⟨by simp only; omega, by simp only [List.length_append, List.length_cons, List.length_nil]; omega, ?_⟩ goes
        rw [← hv]
        simp only [xBN, hg, hd, Bool.false_and, if_true, Bool.false_eq_true, if_false]
      · repeat first|refine sgo ?_|refine sop ?_
        refine xLN (i + 1, o, b) (by simp only; omega) ⟨by simp only; omega, by simp only; omega, ?_⟩ goes
        rw [← hv]
        simp only [xBN, hg, hd, Bool.false_and, if_true, Bool.false_eq_true, if_false]
  · have : i = xs.length := by have : ¬ i < xs.length := by simpa using h
                               omega
    subst this
    rw [List.drop_length] at hv
    simp only [List.foldl_nil] at hv
    repeat first|refine sgo ?_|refine sop ?_
    refine cnd (fun hb => ?_) (fun hb => xAB ?_)
    · repeat first|refine sgo ?_|refine o_v (vap encP p) ?_|refine sop ?_
      refine xAC ⟨.inr rfl, oOwn ?_⟩
      simp only [putL, ← hv, (by simpa using hb : b = false), Bool.false_eq_true, if_false]
    · repeat first|refine sgo ?_|refine sop ?_
      refine xAC ⟨.inr rfl, oOwn ?_⟩
      simp only [putL, ← hv, (by simpa using hb : b = true), if_true]
end Go.Proofs
open Go.V Go.Pu
set_option linter.unusedVariables false
set_option linter.unusedSimpArgs false
set_option maxRecDepth 20000
namespace Go.Proofs
def vc6 := vcm Tryz.prog 6
theorem vf6 : VF Tryz.prog 6 = some (24, vc6, [.tmp 2]) := by kernel_rfl
def vc21 := vcm Tryz.prog 21
theorem vf21 : VF Tryz.prog 21 = some (17, vc21, [.cell true 3 2]) := by kernel_rfl
def pathsL : List (List UInt8) := [[97, 47], [98, 47], [97, 47, 98, 47], [99, 47]]
def endsL : List (List UInt8) := [[1], [2, 0, 0], [2, 0, 1], [2, 0, 2], [3, 120]]
def restL : List (List UInt8) := [[1], [5, 48, 48, 48, 48, 48, 48, 48, 49, 47, 1], [6, 97, 47, 1], [97, 47, 98, 47, 99, 47, 1]]
def keyT (n : Nat) : List UInt8 := if n % 24 < 20 then pathsL.getD (n % 24 / 5) [] ++ endsL.getD (n % 24 % 5) [] else restL.getD (n % 24 - 20) []
theorem xId {n : Nat} (hn : n < 256) : VC Tryz.prog 15 [.int .u8 n] [] (.str (keyT n)) [] := xNQ xGt xIr (fuel := 10) (d := 3) (F := keyT) (by kernel_rfl) hn
def valsL : List (List UInt8) := [[], [118], [119, 120], [120, 121, 122]]
structure RawL where
  x : Nat
  y : Nat
  z : Nat
  hx : x < 256
  hy : y < 256
  hz : z < 256
abbrev encR (r : RawL) : List PV := [.int .u8 r.x, .int .u8 r.y, .int .u8 r.z]
def xEp (r : RawL) : PairL := ⟨keyT r.x, valsL.getD (r.y % 4) [], r.z % 4⟩
theorem xSP (r : RawL) : VC Tryz.prog 21 [.agg (encR r)] [] (.agg (encP (xEp r))) [] := by
  obtain ⟨x, y, z, hx, hy, hz⟩ := r
  refine vcs vf21 ?_
  have hk := xId hx
  have h1 : (z : Int).tmod 4 = ((z % 4 : Nat) : Int) := rfl
  have h0 : (y : Int).tmod 4 = ((y % 4 : Nat) : Int) := rfl
  have h2 : IntKind.i64.wrap ((z % 4 : Nat) : Int) = ((z % 4 : Nat) : Int) := xCK (by omega) (by omega)
  have h3 : y % 4 = 0 ∨ y % 4 = 1 ∨ y % 4 = 2 ∨ y % 4 = 3 := by omega
  rcases h3 with h3 | h3 | h3 | h3
  · have h4 : (y : Int).tmod 4 = 0 := by rw [h0, h3]; rfl
    repeat first|refine sgo ?_|refine cv0 hk ?_|refine xCX ?_|refine xBZ ?_|refine sop ?_
    refine xAC ⟨.inr rfl, oAny ?_⟩
    simp only [xEp, h3]
    rfl
  · have h4 : (y : Int).tmod 4 = 1 := by rw [h0, h3]; rfl
    repeat first|refine sgo ?_|refine cv0 hk ?_|refine xCX ?_|refine xBZ ?_|refine sop ?_
    refine xAC ⟨.inr rfl, oAny ?_⟩
    simp only [xEp, h3]
    rfl
  · have h4 : (y : Int).tmod 4 = 2 := by rw [h0, h3]; rfl
    repeat first|refine sgo ?_|refine cv0 hk ?_|refine xCX ?_|refine xBZ ?_|refine sop ?_
    refine xAC ⟨.inr rfl, oAny ?_⟩
    simp only [xEp, h3]
    rfl
  · have h4 : (y : Int).tmod 4 = 3 := by rw [h0, h3]; rfl
    repeat first|refine sgo ?_|refine cv0 hk ?_|refine xCX ?_|refine xBZ ?_|refine sop ?_
    refine xAC ⟨.inr rfl, oAny ?_⟩
    simp only [xEp, h3]
    rfl
def xGJ (l : List RawL) : List PairL := (l.take 40).foldl (fun t x => putL t (xEp x)) []
theorem xQT {q : PV} {xs : List RawL} (hq : Sl q (xs.map encR)) : VC Tryz.prog 6 [q] [] (ownV ⟨0, 0⟩ ((xGJ xs).map encP)) [blkV 3 ((xGJ xs).map encP)] := by
  refine vcs vf6 ?_
  repeat first|refine sgo ?_|refine sop ?_
  refine xAK (fun (g : Nat × List PairL) => [(0, q), (3, ownV ⟨1, 8192⟩ (g.2.map encP)), (4, .int .i64 g.1)])
    (fun g => [(⟨1, 8192⟩, blkV 3 (g.2.map encP))]) (fun g => 40 - g.1)
    (fun g => g.1 ≤ 40 ∧ g.1 ≤ xs.length ∧ g.2.length ≤ g.1 ∧ ((xs.take 40).drop g.1).foldl (fun t x => putL t (xEp x)) g.2 = xGJ xs) (0, []) goes ⟨by simp, by simp, by simp, rfl⟩ ?_
  rintro ⟨i, o⟩ ⟨hi40, hil, hol, hv⟩
  dsimp only at hi40 hil hol hv ⊢
  repeat first|refine sgo ?_|refine sop ?_
  refine xCT (fun hg => ?_) (fun hg => ?_)
  · repeat first|refine sgo ?_|refine sop ?_
    have hlt : i < xs.length := by simpa using hg
    refine cnd (fun h => xAB ?_) (fun h => xAE ?_)
    · have hlt4 : i < 40 := by
        have : (i : Int) < 40 := by simpa using h
        omega
      obtain ⟨x, hx⟩ : ∃ x, xs[i]? = some x := ⟨_, List.getElem?_eq_getElem hlt⟩
      have hx4 : (xs.take 40)[i]? = some x := by rw [List.getElem?_take, if_pos hlt4, hx]
      have hxe := gm (enc := encR) (n := (i : Int)) hx (by omega)
      rw [xBQ hx4, List.foldl_cons] at hv
      repeat first|refine sgo ?_|refine cv0 (xSP x) ?_|refine cv (xRD (xs := o) (p := xEp x) Sl.sh (by omega)) ?_|refine sop ?_
      have hl := xIj o (xEp x)
      refine xLN (i + 1, putL o (xEp x)) (by simp only; omega) ⟨by simp only; omega, by simp only; omega, by simp only; omega, hv⟩ (goesR ⟨1, 41008⟩ ⟨1, 8192⟩)
    · have : i = 40 := by
        have : ¬ (i : Int) < 40 := by simpa using h
        omega
      subst this
      rw [List.drop_of_length_le (by simp; omega)] at hv
      repeat first|refine sgo ?_|refine sop ?_
      refine xAC ⟨.inr rfl, oOwn ?_⟩
      rw [← hv]; rfl
  · repeat first|refine sgo ?_|refine sop ?_
    have hlt : i = xs.length := by
      have : ¬ i < xs.length := by simpa using hg
      omega
    subst hlt
    refine cndf (xAE ?_)
    rw [List.drop_of_length_le (by simp; omega)] at hv
    repeat first|refine sgo ?_|refine sop ?_
    refine xAC ⟨.inr rfl, oOwn ?_⟩
    rw [← hv]; rfl
end Go.Proofs
open Go.V Go.Pu
set_option linter.unusedVariables false
set_option maxRecDepth 20000
namespace Go.Proofs
theorem xOV (l : List RawL) : Srt (xGJ l) := by
  have key : ∀ (l : List RawL) (t : List PairL), Srt t → Srt (l.foldl (fun t x => putL t (xEp x)) t) := by
    intro l
    induction l with
    | nil => intro t h; exact h
    | cons x l ih => intro t h; exact ih _ (xBC h)
  exact key _ _ List.Pairwise.nil
theorem xOW (l : List RawL) : (xGJ l).length ≤ 40 := by
  have key : ∀ (l : List RawL) (t : List PairL), (l.foldl (fun t x => putL t (xEp x)) t).length ≤ t.length + l.length := by
    intro l
    induction l with
    | nil => intro t; simp
    | cons x l ih =>
      intro t
      refine Nat.le_trans (ih _) ?_
      have := xIj t (xEp x)
      simp only [List.length_cons]; omega
  have := key (l.take 40) []
  have h2 : (l.take 40).length ≤ 40 := by simp; omega
  unfold xGJ
  simp only [List.length_nil] at this
  omega
end Go.Proofs
open Go.V Go.Pu
set_option linter.unusedVariables false
set_option linter.unusedSimpArgs false
set_option maxRecDepth 20000
namespace Go.Proofs
def vc136 := vcm Tryz.prog 136
theorem vf136 : VF Tryz.prog 136 = some (64, vc136, [.tmp 4]) := by kernel_rfl
def vc13 : VCode :=
 (.seq
 (.region 0 false [
 .e 4 (.copy (.c (.bool false))) 0])
 (.seq
 (.seq
 (.region 1 false [
 .e 6 (.copy (.t 0)) 8192,
 .e 7 (.len (.t 6)) 8200,
 .e 8 (.copy (.t 1)) 8208,
 .e 9 (.len (.t 8)) 8216,
 .e 10 (.bin .neq (.t 7) (.t 9)) 8224])
 (.cond (.t 10)
 (.seq
 (.region 2 false [
 .e 4 (.copy (.c (.bool false))) 16384])
 .ret)
 .skip))
 (.seq
 (.seq
 (.region 3 false [
 .e 5 (.copy (.c (.int .i64 0))) 24576])
 (.block 0
 (.loop
 (.seq
 (.seq
 (.region 4 false [
 .e 11 (.copy (.t 5)) 32768,
 .e 12 (.copy (.t 0)) 32776,
 .e 13 (.len (.t 12)) 32784,
 .e 14 (.bin .lss (.t 11) (.t 13)) 32792])
 (.cond (.t 14)
 .skip
 (.exit 0)))
 (.seq
 (.block 1
 (.seq
 (.region 6 true [
 .e 17 (.copy (.t 0)) 49152,
 .e 18 (.copy (.t 5)) 49160,
 .f 19 (.iaddr 3 (.t 17) (.t 18)) 49168 [0, 1],
 .f 20 (.load true 3 (.t 19)) 49176 [2, 0, 1],
 .e 21 (.copy (.t 1)) 49184,
 .e 22 (.copy (.t 5)) 49192,
 .f 23 (.iaddr 3 (.t 21) (.t 22)) 49200 [4, 5],
 .f 24 (.load true 3 (.t 23)) 49208 [6, 4, 5],
 .f 25 (.eqc true [2, 2, 1] (.t 20) (.t 24)) 49216 [3, 2, 0, 1, 7, 6, 4, 5]])
 (.cond (.t 25)
 (.seq
 (.region 7 false [
 .e 4 (.copy (.c (.bool false))) 57344])
 .ret)
 .skip)))
 (.region 5 false [
 .e 15 (.copy (.t 5)) 40960,
 .e 16 (.bin .add (.t 15) (.c (.int .i64 1))) 40968,
 .e 5 (.copy (.t 16)) 40976]))))))
 (.seq
 (.region 8 false [
 .e 4 (.copy (.c (.bool true))) 65536])
 .ret))))
theorem vf13 : VF Tryz.prog 13 = some (26, vc13, [.tmp 4]) := by kernel_rfl
set_option maxHeartbeats 1000000 in
theorem xNU {a b : List PairL} (ha : a.length ≤ 100000000) (hb : b.length ≤ 100000000) : VC Tryz.prog 136 [.sh false (a.map encP), .sh false (b.map encP)] [] (ownV ⟨0, 0⟩ ((xAk a b).map encP)) [blkV 3 ((xAk a b).map encP)] := by
  refine vcs vf136 ?_
  have hma : (a.map encP).length = a.length := List.length_map ..
  have hmb : (b.map encP).length = b.length := List.length_map ..
  have hul := xDI a b
  repeat first|refine sgo ?_|refine sop ?_
  refine xMS ?_
  repeat first|refine sgo ?_|refine o_v vmk0 ?_|refine sop ?_
  refine xMT ?_
  refine xB0 (lvl := 1) (fun (g : List PairL × List PairL × List PairL) => [(0, .sh false (g.1.map encP)), (1, .sh false (g.2.1.map encP)), (5, ownV ⟨1, 8232⟩ (g.2.2.map encP))])
    (fun g => [(⟨1, 8232⟩, blkV 3 (g.2.2.map encP))]) (fun g => (g.2.2 ++ g.1) ++ g.2.1 = xAk a b) (xA3 ?_) ?_
  · refine xAK (fun (g : List PairL × List PairL × List PairL) => [(0, .sh false (g.1.map encP)), (1, .sh false (g.2.1.map encP)), (5, ownV ⟨1, 8232⟩ (g.2.2.map encP))])
      (fun g => [(⟨1, 8232⟩, blkV 3 (g.2.2.map encP))]) (fun g => g.1.length + g.2.1.length)
      (fun g => g.1.length ≤ a.length ∧ g.2.1.length ≤ b.length ∧ g.2.2 ++ xAk g.1 g.2.1 = xAk a b) (a, b, []) goes ⟨Nat.le_refl _, Nat.le_refl _, rfl⟩ ?_
    rintro ⟨xs, ys, o⟩ ⟨h1, h2, hv⟩
    dsimp only at h1 h2 hv ⊢
    have hol : o.length ≤ 200000000 := by
      have := congrArg List.length hv
      simp only [List.length_append] at this
      omega
    cases xs with
    | nil =>
      rw [xDO] at hv
      repeat first|refine sgo ?_|refine sop ?_
      refine cndt (xAE ?_)
      exact ⟨([], ys, o), by simpa using hv, goes⟩
    | cons x xs =>
      have hn1 : decide ((((x :: xs).map encP).length : Int) = 0) = false := decide_eq_false (by simp only [List.length_map, List.length_cons]; omega)
      cases ys with
      | nil =>
        rw [xDH] at hv
        repeat first|refine sgo ?_|refine sop ?_
        refine cndt (xAE ?_)
        exact ⟨(x :: xs, [], o), by simpa using hv, goes⟩
      | cons y ys =>
        have hn2 : decide ((((y :: ys).map encP).length : Int) = 0) = false := decide_eq_false (by simp only [List.length_map, List.length_cons]; omega)
        rw [xCh] at hv
        simp only [List.length_cons] at h1 h2
        repeat first|refine sgo ?_|refine sop ?_
        refine cndf ?_
        repeat first|refine sgo ?_|refine sop ?_
        refine cnd (fun h3 => ?_) (fun h3 => ?_)
        · rw [if_pos h3] at hv
          repeat first|refine sgo ?_|refine o_v (vap encP x) ?_|refine o_v0 vsl1 ?_|refine sop ?_
          refine xAE ?_
          refine ⟨(xs, y :: ys, o ++ [x]), by simp only [List.length_cons]; omega, ⟨by simp only; omega, by simp only [List.length_cons]; omega, ?_⟩, goes⟩
          rw [← hv]; simp
        · rw [if_neg (by simp [h3])] at hv
          repeat first|refine sgo ?_|refine sop ?_
          refine cnd (fun h4 => ?_) (fun h4 => xAB ?_)
          · have h4' : x.key = y.key := by simpa using h4
            rw [if_pos h4'] at hv
            repeat first|refine sgo ?_|refine o_v (vap encP y) ?_|refine o_v0 vsl1 ?_|refine sop ?_
            refine agn (xs, ys, o ++ [y]) ⟨by simp only; omega, by simp only; omega, ?_⟩ goes (by simp only [List.length_cons]; omega)
            rw [← hv]; simp
          · have h4' : x.key ≠ y.key := by simpa using h4
            rw [if_neg h4'] at hv
            repeat first|refine sgo ?_|refine o_v (vap encP y) ?_|refine o_v0 vsl1 ?_|refine sop ?_
            refine agn (x :: xs, ys, o ++ [y]) ⟨by simp only [List.length_cons]; omega, by simp only; omega, ?_⟩ goes (by simp only [List.length_cons]; omega)
            rw [← hv]; simp
  rintro ⟨xs, ys, o⟩ hv
  dsimp only at hv ⊢
  have hol := congrArg List.length hv
  simp only [List.length_append] at hol
  repeat first|refine sgo ?_|refine o_v (vaps encP o xs) ?_|refine o_v (vaps encP (o ++ xs) ys) ?_|refine sop ?_
  exact xAC ⟨.inr rfl, oOwn (congrArg (List.map encP) hv)⟩
theorem xPa {q p : PV} {a b : List PairL} (hq : Sl q (a.map encP)) (hp : Sl p (b.map encP)) (ha : a.length ≤ 100000000) (hb : b.length ≤ 100000000) : VC Tryz.prog 136 [q, p] [] (ownV ⟨0, 0⟩ ((xAk a b).map encP)) [blkV 3 ((xAk a b).map encP)] :=
  xDu (xNU ha hb) (.cons (PLe.sl hq) (.cons (PLe.sl hp) .nil)) (PLe.refl _)
theorem xSC {q p : PV} {l m : List PairL} (hq : Sl q (l.map encP)) (hp : Sl p (m.map encP)) (hl : l.length ≤ maxLen) (hm : m.length ≤ maxLen) : VC Tryz.prog 13 [q, p] [] (.bool (decide (l = m))) [] := by
  refine vcs vf13 ?_
  unfold maxLen at hl hm
  repeat first|refine sgo ?_|refine sop ?_
  refine cnd (fun h => ?_) (fun h => xAB ?_)
  · repeat first|refine sgo ?_|refine sop ?_
    refine xAC ⟨.inr rfl, oB ?_⟩
    have : l ≠ m := by
      intro e; subst e
      simp at h
    simp [this]
  · have hlm : l.length = m.length := by have h' : (l.length : Int) = m.length := by simpa using h
                                         omega
    repeat first|refine sgo ?_|refine sop ?_
    refine xAK (fun (g : Nat) => [(0, q), (1, p), (5, .int .i64 g)]) (fun g => []) (fun g => l.length - g)
      (fun g => g ≤ l.length ∧ l.take g = m.take g) 0 goes ⟨Nat.zero_le _, rfl⟩ ?_
    rintro i ⟨hi, hv⟩
    (try dsimp only)
    repeat first|refine sgo ?_|refine sop ?_
    refine cnd (fun h => xAB ?_) (fun h => xAE ?_)
    · have hlt : i < l.length := by have h' := of_decide_eq_true h; simp only [List.length_map] at h'; omega
      obtain ⟨x, hx⟩ : ∃ x, l[i]? = some x := ⟨_, List.getElem?_eq_getElem hlt⟩
      obtain ⟨y, hy⟩ : ∃ x, m[i]? = some x := ⟨_, List.getElem?_eq_getElem (by omega)⟩
      have hxe := gm (enc := encP) (n := (i : Int)) hx (by omega)
      have hye := gm (enc := encP) (n := (i : Int)) hy (by omega)
      repeat first|refine sgo ?_|refine sop ?_
      refine cnd (fun h2 => ?_) (fun h2 => xAB ?_)
      · repeat first|refine sgo ?_|refine sop ?_
        refine xAC ⟨.inr rfl, oB ?_⟩
        have hne : l ≠ m := by
          intro e; subst e
          rw [hx] at hy; cases hy
          simp at h2
        simp [hne]
      · have hxy : x = y := by
          have h3 : x.key = y.key ∧ x.val = y.val ∧ x.stamp = y.stamp := by simpa using h2
          cases x; cases y; simp at h3; obtain ⟨rfl, rfl, rfl⟩ := h3; rfl
        subst hxy
        repeat first|refine sgo ?_|refine sop ?_
        refine agn (i + 1) ⟨by omega, ?_⟩ goes
        rw [List.take_add_one, List.take_add_one, hv, hx, hy]
    · have hge : i = l.length := by have h' := of_decide_eq_false h; simp only [List.length_map] at h'; omega
      subst hge
      repeat first|refine sgo ?_|refine sop ?_
      refine xAC ⟨.inr rfl, oB ?_⟩
      rw [List.take_length, hlm, List.take_length] at hv
      simp [hv]
def zP : PairL := ⟨[], [], 0⟩
end Go.Proofs
open Go.V Go.Pu
set_option linter.unusedVariables false
set_option linter.unusedSimpArgs false
set_option maxRecDepth 20000
namespace Go.Proofs
def vc63 := vcm Tryz.prog 63
theorem vf63 : VF Tryz.prog 63 = some (8, vc63, [.tmp 4]) := by kernel_rfl
def vc55 := vcm Tryz.prog 55
theorem vf55 : VF Tryz.prog 55 = some (8, vc55, [.tmp 4]) := by kernel_rfl
def vc54 := vcm Tryz.prog 54
theorem vf54 : VF Tryz.prog 54 = some (9, vc54, [.tmp 4]) := by kernel_rfl
def vc53 := vcm Tryz.prog 53
theorem vf53 : VF Tryz.prog 53 = some (49, vc53, [.tmp 6, .tmp 7]) := by kernel_rfl
def vc35 := vcm Tryz.prog 35
theorem vf35 : VF Tryz.prog 35 = some (11, vc35, [.tmp 4, .tmp 5]) := by kernel_rfl
def vc120 := vcm Tryz.prog 120
theorem vf120 : VF Tryz.prog 120 = some (32, vc120, [.tmp 4, .tmp 5]) := by kernel_rfl
def vc138 := vcm Tryz.prog 138
theorem vf138 : VF Tryz.prog 138 = some (18, vc138, [.tmp 4]) := by kernel_rfl
theorem xO7 : ∀ (a b : Str), Lib.compareBytes a b = xCA a b
  | [], [] => rfl
  | [], _ :: _ => rfl
  | _ :: _, [] => rfl
  | x :: a, y :: b => by
    rw [Lib.compareBytes, xO7 a b]
    unfold xCA
    by_cases h : x < y
    · rw [if_pos h, if_pos (blt_cons.2 (.inl h))]
    · rw [if_neg h]
      by_cases h2 : y < x
      · have h3 : ¬ Op.bytesLess (x :: a) (y :: b) = true := by
          rw [blt_cons]
          rintro (h4 | ⟨rfl, _⟩)
          · exact h h4
          · exact UInt8.lt_irrefl _ h2
        have h4 : ¬ (x :: a = y :: b) := by
          intro e
          cases e
          exact UInt8.lt_irrefl _ h2
        rw [if_pos h2, if_neg h3, if_neg h4]
      · have e : x = y := UInt8.le_antisymm (UInt8.not_lt.1 h2) (UInt8.not_lt.1 h)
        subst e
        rw [if_neg h2]
        have h3 : Op.bytesLess (x :: a) (x :: b) = true ↔ Op.bytesLess a b = true := by
          rw [blt_cons]
          constructor
          · rintro (h4 | ⟨_, h4⟩)
            · exact absurd h4 (UInt8.lt_irrefl _)
            · exact h4
          · intro h4; exact .inr ⟨rfl, h4⟩
        by_cases h4 : Op.bytesLess a b = true
        · rw [if_pos h4, if_pos (h3.2 h4)]
        · rw [if_neg h4, if_neg (fun h5 => h4 (h3.1 h5))]
          simp
theorem tpl {tf : TF} {f : VX} {xs : List VX} {fid : Nat} {ps : List PV} (h1 : ev tf f = some (.fn fid [])) (h2 : evs tf xs = some ps) (hb : fid < bnd) : Targ tf f xs fid ps := by
  have := Targ.pl h1 h2 hb
  rwa [List.append_nil] at this
theorem xS9 (a b : Str) : VC Tryz.prog 63 [.str a, .str b] [] (.int .i64 (xCA a b)) [] := by
  refine vcs vf63 ?_
  have hx := fun hf' => @xQy Tryz.prog 76 Tryz.f76 Tryz.func76 (by kernel_rfl) (by kernel_rfl) (by kernel_rfl) (by kernel_rfl) hf' a b
  repeat first|refine sgo ?_|refine cxt (ht := tpl rfl rfl (Nat.le_of_ble_eq_true rfl)) (hx _) ?_|refine sop ?_
  exact xAC ⟨.inr rfl, oI (xO7 a b)⟩
theorem xSB (a b : Str) : VC Tryz.prog 55 [.str a, .str b] [] (.int .i64 (xCA a b)) [] := by
  refine vcs vf55 ?_
  repeat first|refine sgo ?_|refine cv0 (xS9 a b) ?_|refine sop ?_
  exact xAC ⟨.inr rfl, oI rfl⟩
theorem xN8 (p : PairL) (k : Str) : VC Tryz.prog 54 [.agg (encP p), .str k] [] (.int .i64 (xCA p.key k)) [] := by
  refine vcs vf54 ?_
  repeat first|refine sgo ?_|refine cv0 (xSB p.key k) ?_|refine sop ?_
  exact xAC ⟨.inr rfl, oI rfl⟩
theorem half {n : Nat} : bin .shr (.int .u64 (n : Nat)) (.int .u64 1) = some (.int .u64 ((n / 2 : Nat) : Int)) := by
  show (if (1 : Int) < 0 then none else some (PV.int .u64 ((n : Int).fdiv (2 ^ (Int.toNat 1))))) = _
  rw [if_neg (by decide), Int.fdiv_eq_ediv_of_nonneg _ (by decide)]
  rfl
theorem xOL {a b : PV} (ha : ∀ q, a ≠ .tup q) (hb : ∀ q, b ≠ .tup q) : ∀ vs, PV.tup [a, b] = .tup vs → ∀ p ∈ vs, ∀ q, p ≠ .tup q := by
  intro vs h p hp q
  cases h
  rcases List.mem_cons.1 hp with rfl | hp
  · exact ha q
  · rw [List.mem_singleton.1 hp]; exact hb q
set_option maxHeartbeats 1000000 in
theorem bs_vc {q : PV} {t : List PairL} (k : Str) (hs : Srt t) (hq : Sl q (t.map encP)) (hl : t.length ≤ 100000000) : VC Tryz.prog 53 [q, .str k, .fn 54 []] [] (.tup [.int .i64 (lbN t k), .bool (xAH t k).isSome]) [] := by
  refine xCL vf53 ?_ (Nat.le_of_ble_eq_true rfl) (xOL (by intro q h; cases h) (by intro q h; cases h))
  have hle := xM6 k t
  have hget := fun m p => xHC hs k (m := m) (p := p)
  have hfd := xMB hs k
  have hml : (t.map encP).length = t.length := List.length_map ..
  generalize lbN t k = lb at *
  generalize (xAH t k).isSome = fd at *
  repeat first|refine sgo ?_|refine sop ?_
  refine xAK (fun (g : Nat × Nat) => [(0, q), (1, .str k), (2, .fn 54 []), (8, .int .i64 (t.map encP).length), (9, .int .i64 g.1), (10, .int .i64 g.2)])
    (fun g => []) (fun g => g.2 - g.1) (fun g => g.1 ≤ lb ∧ lb ≤ g.2 ∧ g.2 ≤ t.length) (0, t.length) (goes (h1 := by refine ⟨rfl, rfl, rfl, rfl, rfl, ?_, trivial⟩; exact congrArg (fun n : Nat => some (PV.int .i64 n)) hml)) ⟨Nat.zero_le _, hle, Nat.le_refl _⟩ ?_
  rintro ⟨i, j⟩ ⟨h1, h2, h3⟩
  dsimp only at h1 h2 h3 ⊢
  repeat first|refine sgo ?_|refine sop ?_
  refine cnd (fun h => xAB ?_) (fun h => xAE ?_)
  · have hlt : i < j := by have h' := of_decide_eq_true h; omega
    have c1 : IntKind.u64.wrap ((i : Int) + (j : Int)) = ((i + j : Nat) : Int) := by unfold IntKind.wrap; simp [IntKind.bits, IntKind.signed]; omega
    have c2 : IntKind.i64.wrap (((i + j) / 2 : Nat) : Int) = (((i + j) / 2 : Nat) : Int) := xCK (by omega) (by omega)
    obtain ⟨p, hp⟩ : ∃ x, t[(i + j) / 2]? = some x := ⟨_, List.getElem?_eq_getElem (by omega)⟩
    have hpe := gm (enc := encP) (n := (((i + j) / 2 : Nat) : Int)) hp (by omega)
    have hgp := hget _ _ hp
    repeat first|refine sgo ?_|refine xBZ ?_|refine xBx half ?_|refine cv0 (xN8 p k) ?_|refine sop ?_
    refine cnd (fun h4 => ?_) (fun h4 => ?_)
    · have h5 := hgp.1 (cmpStr_lt.1 (of_decide_eq_true h4))
      repeat first|refine sgo ?_|refine sop ?_
      exact agn ((i + j) / 2 + 1, j) ⟨by simp only; omega, by simp only; omega, by simp only; omega⟩ goes
    · have h5 : ¬ (i + j) / 2 < lb := fun h5 => (of_decide_eq_false h4) (cmpStr_lt.2 (hgp.2 h5))
      repeat first|refine sgo ?_|refine sop ?_
      exact agn (i, (i + j) / 2) ⟨by simp only; omega, by simp only; omega, by simp only; omega⟩ goes
  · have h' := of_decide_eq_false h
    have e : i = lb := by omega
    subst e
    repeat first|refine sgo ?_|refine sop ?_
    refine xCT (fun hg => ?_) (fun hg => ?_)
    · have hlt : i < t.length := by have h' := of_decide_eq_true hg; omega
      obtain ⟨p, hp⟩ : ∃ x, t[i]? = some x := ⟨_, List.getElem?_eq_getElem hlt⟩
      have hpe := gm (enc := encP) (n := (i : Int)) hp (by omega)
      rw [hp] at hfd
      repeat first|refine sgo ?_|refine cv0 (xN8 p k) ?_|refine sop ?_
      refine xAC ⟨.inr rfl, oAny ?_⟩
      have : (xCA p.key k == 0) = fd := by
        rw [← hfd]
        show _ = decide (p.key = k)
        by_cases hk : p.key = k
        · rw [decide_eq_true hk, cmpStr_eq.2 hk]; rfl
        · rw [decide_eq_false hk]
          have : xCA p.key k ≠ 0 := fun e => hk (cmpStr_eq.1 e)
          simpa using this
      rw [← this]
      rfl
    · have hge : t.length ≤ i := by have h' := of_decide_eq_false hg; omega
      rw [List.getElem?_eq_none hge] at hfd
      repeat first|refine sgo ?_|refine sop ?_
      refine xAC ⟨.inr rfl, oAny ?_⟩
      rw [← hfd]
      rfl
theorem xGO {q : PV} {t : List PairL} (k : Str) (hs : Srt t) (hq : Sl q (t.map encP)) (hl : t.length ≤ 100000000) : VC Tryz.prog 35 [q, .str k] [] (.tup [.int .i64 (lbN t k), .bool (xAH t k).isSome]) [] := by
  refine xCL vf35 ?_ (Nat.le_of_ble_eq_true rfl) (xOL (by intro q h; cases h) (by intro q h; cases h))
  repeat first|refine sgo ?_|refine cv0 (bs_vc k hs hq hl) ?_|refine sop ?_
  exact xAC ⟨.inr rfl, oAny rfl⟩
theorem xKT {q : PV} {t : List PairL} (s : SpanL) (hs : Srt t) (hq : Sl q (t.map encP)) (hl : t.length ≤ 100000000) : VC Tryz.prog 120 [q, .agg (encS s)] [] (.tup [.int .i64 (xAX t s).1, .int .i64 (xAX t s).2]) [] := by
  refine xCL vf120 ?_ (Nat.le_of_ble_eq_true rfl) (xOL (by intro q h; cases h) (by intro q h; cases h))
  have hml : (t.map encP).length = t.length := List.length_map ..
  repeat first|refine sgo ?_|refine cv0 (xDn s) ?_|refine sop ?_
  refine cnd (fun h => ?_) (fun h => xAB ?_)
  · repeat first|refine sgo ?_|refine sop ?_
    refine xAC ⟨.inr rfl, oAny ?_⟩
    rw [xAX, if_pos h]; rfl
  · repeat first|refine sgo ?_|refine cv0 (xGO s.lo hs hq hl) ?_|refine sop ?_
    refine cnd (fun h2 => ?_) (fun h2 => xAB ?_)
    · have h2' : s.hi ≠ [] := by simpa using h2
      repeat first|refine sgo ?_|refine cv0 (xGO s.hi hs hq hl) ?_|refine sop ?_
      refine xAC ⟨.inr rfl, oAny ?_⟩
      rw [xAX, if_neg (by simp [h])]
      simp only [if_neg h2']
      rfl
    · have h2' : s.hi = [] := by simpa using h2
      repeat first|refine sgo ?_|refine sop ?_
      refine xAC ⟨.inr rfl, oAny ?_⟩
      rw [xAX, if_neg (by simp [h])]
      simp only [if_pos h2', hml]
      rfl
theorem xN1 {t : List PairL} (s : SpanL) (hs : Srt t) (hl : t.length ≤ 100000000) : VC Tryz.prog 138 [.sh false (t.map encP), .agg (encS s)] [] (.sh true ((xAh t s).map encP)) [] := by
  refine vcs vf138 ?_
  obtain ⟨h1, h2⟩ := xHk hs s
  have h3 := xP0 hs s
  have hb := xKT (q := .sh false (t.map encP)) s hs Sl.sh hl
  generalize (xAX t s).1 = a at *
  generalize (xAX t s).2 = z at *
  repeat first|refine sgo ?_|refine cv0 hb ?_|refine o_v0 (vslg t (xAh t s) a z h3) ?_|refine sop ?_
  exact xAC ⟨.inr rfl, oAny rfl⟩
theorem xPy {q : PV} {t : List PairL} (s : SpanL) (hs : Srt t) (hq : Sl q (t.map encP)) (hl : t.length ≤ 100000000) : VC Tryz.prog 138 [q, .agg (encS s)] [] (.sh false ((xAh t s).map encP)) [] :=
  xDu (xN1 s hs hl) (.cons (PLe.sl hq) (.cons (PLe.refl _) .nil)) (PLe.sl Sl.sh)
end Go.Proofs
open Go.V Go.Pu
set_option linter.unusedVariables false
set_option linter.unusedSimpArgs false
set_option maxRecDepth 20000
namespace Go.Proofs
def presL : List (List UInt8) := [[], [97, 47], [98, 47], [97, 47, 98, 47], [97, 47, 2], [99, 47]]
def preL (n : Nat) : List UInt8 := presL.getD (n % 6) []
theorem xN6 (n : Nat) : (preL n).length ≤ 4 := by
  have h : n % 6 < 6 := Nat.mod_lt _ (by decide)
  unfold preL
  generalize n % 6 = m at h
  have : ∀ m, m < 6 → (presL.getD m []).length ≤ 4 := by decide
  exact this m h
theorem vslD {lvl site : Nat} {tf : Nat → Option PV} {hf : Bid → Option Blk} {x : VX} {lo : Option VX} {s : Str} (n : Nat) (hn : n ≤ s.length) (hx : ev tf x = some (.str s) := by rfl) (h1 : xAP tf 0 lo = some (n : Int) := by rfl) : vop lvl site tf hf (.slstr x lo none) = some ⟨.str (s.drop n), [], []⟩ := by
  rw [xNR (a := n) (z := (s.length : Nat)) hx h1 rfl (by omega) (by omega) (by omega)]
  have e : (s.drop (n : Int).toNat).take (((s.length : Nat) : Int).toNat - (n : Int).toNat) = s.drop n := by
    rw [List.take_of_length_le (by simp)]; simp
  rw [e]
end Go.Proofs
