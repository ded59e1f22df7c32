/- Ta -/
import Derived.Test.YtgkocobnccdocaaGreatMa
import Derived.Test.YtgkocobnccdocaaGreatVD
import Derived.Test.YtgkocobnccdocaaGreatPu
open Go.V Go.Pu
set_option linter.unusedVariables false
set_option linter.unusedSimpArgs false
set_option maxRecDepth 20000
namespace Go.Proofs
def vc86 := vcm Tryz.prog 86
theorem vf86 : VF Tryz.prog 86 = some (53, vc86, [.tmp 4]) := by kernel_rfl
def vc48 := vcm Tryz.prog 48
theorem vf48 : VF Tryz.prog 48 = some (53, vc48, [.tmp 4]) := by kernel_rfl
abbrev encP (p : PairL) : List PV := [.str p.key, .str p.val, .int .i64 p.stamp]
theorem xKZ (a b : Str) : (Op.bytesLess a b || a == b) = !Op.bytesLess b a := by
  have e : (!Op.bytesLess b a) = ble a b := rfl
  rw [e, Bool.eq_iff_iff, ble_iff]
  simp
set_option maxHeartbeats 1000000 in
theorem put_vc {q : PV} {xs : List PairL} {p : PairL} (hq : Sl q (xs.map encP)) (hl : xs.length ≤ 1000000000) : VC Tryz.prog 86 [q, .agg (encP p)] [] (ownV ⟨0, 0⟩ ((putL xs p).map encP)) [blkV 3 ((putL xs p).map encP)] := by
  refine vcs vf86 ?_
  repeat first|refine sgo ?_|refine sop ?_
  refine xAE (fun (g : Nat × List PairL × Bool) => [(0, q), (3, .ptr ⟨1, 0⟩ 1 0 0), (5, ownV ⟨1, 8192⟩ (g.2.1.map encP)), (6, .bool g.2.2), (7, .int .i64 g.1)])
    (fun g => [(⟨1, 0⟩, ⟨true, false, 3, [encP p]⟩), (⟨1, 8192⟩, blkV 3 (g.2.1.map encP))]) (fun g => xs.length - g.1)
    (fun g => g.1 ≤ xs.length ∧ g.2.1.length ≤ 2 * g.1 ∧ (xs.drop g.1).foldl (xA4 p) g.2 = xs.foldl (xA4 p) ([], false)) (0, [], false) goes ⟨by simp, by simp, rfl⟩ ?_
  rintro ⟨i, o, b⟩ ⟨hil, hol, hv⟩
  dsimp only at hil hol hv ⊢
  repeat first|refine sgo ?_|refine sop ?_
  refine cnd (fun h => xAB ?_) (fun h => xAD ?_)
  · have hlt : i < xs.length := by simpa using h
    obtain ⟨x, hx⟩ : ∃ x, xs[i]? = some x := ⟨_, List.getElem?_eq_getElem hlt⟩
    have hxe := gm (enc := encP) (n := (i : Int)) hx (by omega)
    rw [xAo hx, List.foldl_cons] at hv
    repeat first|refine sgo ?_|refine sop ?_
    refine xCH (fun hg => ?_) (fun hg => ?_)
    · repeat first|refine sgo ?_|refine sop ?_
      refine cnd (fun hc => ?_) (fun hc => xAB ?_)
      · try rw [xKZ] at hc
        repeat first|refine sgo ?_|refine o_v (vap encP p) ?_|refine sop ?_
        refine cnd (fun hd => ?_) (fun hd => xAB ?_)
        · repeat first|refine sgo ?_|refine o_v (vap encP x) ?_|refine sop ?_
          refine xHO (i + 1, o ++ [p] ++ [x], true) (by simp only; omega) ⟨by simp only; omega, by simp only [List.length_append, List.length_cons, List.length_nil]; omega, ?_⟩ goes
          rw [← hv]
          simp only [xA4, hg, hc, hd, Bool.and_self, if_true]
        · repeat first|refine sgo ?_|refine sop ?_
          refine xHO (i + 1, o ++ [p], true) (by simp only; omega) ⟨by simp only; omega, by simp only [List.length_append, List.length_cons, List.length_nil]; omega, ?_⟩ goes
          rw [← hv]
          simp only [xA4, hg, hc, hd, Bool.and_self, if_true, Bool.false_eq_true, if_false]
      · try rw [xKZ] at hc
        repeat first|refine sgo ?_|refine sop ?_
        refine cnd (fun hd => ?_) (fun hd => xAB ?_)
        · repeat first|refine sgo ?_|refine o_v (vap encP x) ?_|refine sop ?_
          refine xHO (i + 1, o ++ [x], b) (by simp only; omega) ⟨by simp only; omega, by simp only [List.length_append, List.length_cons, List.length_nil]; omega, ?_⟩ goes
          rw [← hv]
          simp only [xA4, hg, hc, hd, Bool.and_false, if_true, Bool.false_eq_true, if_false]
        · repeat first|refine sgo ?_|refine sop ?_
          refine xHO (i + 1, o, b) (by simp only; omega) ⟨by simp only; omega, by simp only; omega, ?_⟩ goes
          rw [← hv]
          simp only [xA4, hg, hc, hd, Bool.and_false, Bool.false_eq_true, if_false]
    · repeat first|refine sgo ?_|refine sop ?_
      refine cndf (xAB ?_)
      repeat first|refine sgo ?_|refine sop ?_
      refine cnd (fun hd => ?_) (fun hd => xAB ?_)
      · repeat first|refine sgo ?_|refine o_v (vap encP x) ?_|refine sop ?_
        refine xHO (i + 1, o ++ [x], b) (by simp only; omega) ⟨by simp only; omega, by simp only [List.length_append, List.length_cons, List.length_nil]; omega, ?_⟩ goes
        rw [← hv]
        simp only [xA4, hg, hd, Bool.false_and, if_true, Bool.false_eq_true, if_false]
      · repeat first|refine sgo ?_|refine sop ?_
        refine xHO (i + 1, o, b) (by simp only; omega) ⟨by simp only; omega, by simp only; omega, ?_⟩ goes
        rw [← hv]
        simp only [xA4, hg, hd, Bool.false_and, if_true, Bool.false_eq_true, if_false]
  · have : i = xs.length := by have : ¬ i < xs.length := by simpa using h
                               omega
    subst this
    rw [List.drop_length] at hv
    simp only [List.foldl_nil] at hv
    repeat first|refine sgo ?_|refine sop ?_
    refine cnd (fun hb => ?_) (fun hb => xAB ?_)
    · repeat first|refine sgo ?_|refine o_v (vap encP p) ?_|refine sop ?_
      refine xAC ⟨.inr rfl, oOwn ?_⟩
      simp only [putL, ← hv, (by simpa using hb : b = false), Bool.false_eq_true, if_false]
    · repeat first|refine sgo ?_|refine sop ?_
      refine xAC ⟨.inr rfl, oOwn ?_⟩
      simp only [putL, ← hv, (by simpa using hb : b = true), if_true]
set_option maxHeartbeats 1000000 in
theorem xQK {q : PV} {xs : List PairL} {p : PairL} (hq : Sl q (xs.map encP)) (hl : xs.length ≤ 1000000000) : VC Tryz.prog 48 [q, .agg (encP p)] [] (ownV ⟨0, 0⟩ ((putL xs p).map encP)) [blkV 3 ((putL xs p).map encP)] := by
  refine vcs vf48 ?_
  repeat first|refine sgo ?_|refine sop ?_
  refine xAE (fun (g : Nat × List PairL × Bool) => [(0, q), (3, .ptr ⟨1, 0⟩ 1 0 0), (5, ownV ⟨1, 8192⟩ (g.2.1.map encP)), (6, .bool g.2.2), (7, .int .i64 g.1)])
    (fun g => [(⟨1, 0⟩, ⟨true, false, 3, [encP p]⟩), (⟨1, 8192⟩, blkV 3 (g.2.1.map encP))]) (fun g => xs.length - g.1)
    (fun g => g.1 ≤ xs.length ∧ g.2.1.length ≤ 2 * g.1 ∧ (xs.drop g.1).foldl (xA4 p) g.2 = xs.foldl (xA4 p) ([], false)) (0, [], false) goes ⟨by simp, by simp, rfl⟩ ?_
  rintro ⟨i, o, b⟩ ⟨hil, hol, hv⟩
  dsimp only at hil hol hv ⊢
  repeat first|refine sgo ?_|refine sop ?_
  refine cnd (fun h => xAB ?_) (fun h => xAD ?_)
  · have hlt : i < xs.length := by simpa using h
    obtain ⟨x, hx⟩ : ∃ x, xs[i]? = some x := ⟨_, List.getElem?_eq_getElem hlt⟩
    have hxe := gm (enc := encP) (n := (i : Int)) hx (by omega)
    rw [xAo hx, List.foldl_cons] at hv
    repeat first|refine sgo ?_|refine sop ?_
    refine xCH (fun hg => ?_) (fun hg => ?_)
    · repeat first|refine sgo ?_|refine sop ?_
      refine cnd (fun hc => ?_) (fun hc => xAB ?_)
      · try rw [xKZ] at hc
        repeat first|refine sgo ?_|refine o_v (vap encP p) ?_|refine sop ?_
        refine cnd (fun hd => ?_) (fun hd => xAB ?_)
        · repeat first|refine sgo ?_|refine o_v (vap encP x) ?_|refine sop ?_
          refine xHO (i + 1, o ++ [p] ++ [x], true) (by simp only; omega) ⟨by simp only; omega, by simp only [List.length_append, List.length_cons, List.length_nil]; omega, ?_⟩ goes
          rw [← hv]
          simp only [xA4, hg, hc, hd, Bool.and_self, if_true]
        · repeat first|refine sgo ?_|refine sop ?_
          refine xHO (i + 1, o ++ [p], true) (by simp only; omega) ⟨by simp only; omega, by simp only [List.length_append, List.length_cons, List.length_nil]; omega, ?_⟩ goes
          rw [← hv]
          simp only [xA4, hg, hc, hd, Bool.and_self, if_true, Bool.false_eq_true, if_false]
      · try rw [xKZ] at hc
        repeat first|refine sgo ?_|refine sop ?_
        refine cnd (fun hd => ?_) (fun hd => xAB ?_)
        · repeat first|refine sgo ?_|refine o_v (vap encP x) ?_|refine sop ?_
          refine xHO (i + 1, o ++ [x], b) (by simp only; omega) ⟨by simp only; omega, by simp only [List.length_append, List.length_cons, List.length_nil]; omega, ?_⟩ goes
          rw [← hv]
          simp only [xA4, hg, hc, hd, Bool.and_false, if_true, Bool.false_eq_true, if_false]
        · repeat first|refine sgo ?_|refine sop ?_
          refine xHO (i + 1, o, b) (by simp only; omega) ⟨by simp only; omega, by simp only; omega, ?_⟩ goes
          rw [← hv]
          simp only [xA4, hg, hc, hd, Bool.and_false, Bool.false_eq_true, if_false]
    · repeat first|refine sgo ?_|refine sop ?_
      refine cndf (xAB ?_)
      repeat first|refine sgo ?_|refine sop ?_
      refine cnd (fun hd => ?_) (fun hd => xAB ?_)
      · repeat first|refine sgo ?_|refine o_v (vap encP x) ?_|refine sop ?_
        refine xHO (i + 1, o ++ [x], b) (by simp only; omega) ⟨by simp only; omega, by simp only [List.length_append, List.length_cons, List.length_nil]; omega, ?_⟩ goes
        rw [← hv]
        simp only [xA4, hg, hd, Bool.false_and, if_true, Bool.false_eq_true, if_false]
      · repeat first|refine sgo ?_|refine sop ?_
        refine xHO (i + 1, o, b) (by simp only; omega) ⟨by simp only; omega, by simp only; omega, ?_⟩ goes
        rw [← hv]
        simp only [xA4, hg, hd, Bool.false_and, if_true, Bool.false_eq_true, if_false]
  · have : i = xs.length := by have : ¬ i < xs.length := by simpa using h
                               omega
    subst this
    rw [List.drop_length] at hv
    simp only [List.foldl_nil] at hv
    repeat first|refine sgo ?_|refine sop ?_
    refine cnd (fun hb => ?_) (fun hb => xAB ?_)
    · repeat first|refine sgo ?_|refine o_v (vap encP p) ?_|refine sop ?_
      refine xAC ⟨.inr rfl, oOwn ?_⟩
      simp only [putL, ← hv, (by simpa using hb : b = false), Bool.false_eq_true, if_false]
    · repeat first|refine sgo ?_|refine sop ?_
      refine xAC ⟨.inr rfl, oOwn ?_⟩
      simp only [putL, ← hv, (by simpa using hb : b = true), if_true]
end Go.Proofs
open Go.V Go.Pu
set_option linter.unusedVariables false
set_option linter.unusedSimpArgs false
set_option maxRecDepth 20000
namespace Go.Proofs
structure RawL where
  x : Nat
  y : Nat
  z : Nat
  hx : x < 256
  hy : y < 256
  hz : z < 256
abbrev encR (r : RawL) : List PV := [.int .u8 r.x, .int .u8 r.y, .int .u8 r.z]
end Go.Proofs
open Go.V Go.Pu
set_option linter.unusedVariables false
set_option maxRecDepth 20000
namespace Go.Proofs
end Go.Proofs
open Go.V Go.Pu
set_option linter.unusedVariables false
set_option linter.unusedSimpArgs false
set_option maxRecDepth 20000
namespace Go.Proofs
def vc307 := vcm Tryz.prog 307
theorem vf307 : VF Tryz.prog 307 = some (64, vc307, [.tmp 4]) := by kernel_rfl
set_option maxHeartbeats 1000000 in
theorem xPP {a b : List PairL} (ha : a.length ≤ 100000000) (hb : b.length ≤ 100000000) : VC Tryz.prog 307 [.sh false (a.map encP), .sh false (b.map encP)] [] (ownV ⟨0, 0⟩ ((xAq a b).map encP)) [blkV 3 ((xAq a b).map encP)] := by
  refine vcs vf307 ?_
  have hma : (a.map encP).length = a.length := List.length_map ..
  have hmb : (b.map encP).length = b.length := List.length_map ..
  have hul := xDp a b
  repeat first|refine sgo ?_|refine sop ?_
  refine xOF ?_
  repeat first|refine sgo ?_|refine o_v vmk0 ?_|refine sop ?_
  refine xOG ?_
  refine xCC (lvl := 1) (fun (g : List PairL × List PairL × List PairL) => [(0, .sh false (g.1.map encP)), (1, .sh false (g.2.1.map encP)), (5, ownV ⟨1, 8232⟩ (g.2.2.map encP))])
    (fun g => [(⟨1, 8232⟩, blkV 3 (g.2.2.map encP))]) (fun g => (g.2.2 ++ g.1) ++ g.2.1 = xAq a b) (xA0 ?_) ?_
  · refine xAE (fun (g : List PairL × List PairL × List PairL) => [(0, .sh false (g.1.map encP)), (1, .sh false (g.2.1.map encP)), (5, ownV ⟨1, 8232⟩ (g.2.2.map encP))])
      (fun g => [(⟨1, 8232⟩, blkV 3 (g.2.2.map encP))]) (fun g => g.1.length + g.2.1.length)
      (fun g => g.1.length ≤ a.length ∧ g.2.1.length ≤ b.length ∧ g.2.2 ++ xAq g.1 g.2.1 = xAq a b) (a, b, []) goes ⟨Nat.le_refl _, Nat.le_refl _, rfl⟩ ?_
    rintro ⟨xs, ys, o⟩ ⟨h1, h2, hv⟩
    dsimp only at h1 h2 hv ⊢
    have hol : o.length ≤ 200000000 := by
      have := congrArg List.length hv
      simp only [List.length_append] at this
      omega
    cases xs with
    | nil =>
      rw [xCT] at hv
      repeat first|refine sgo ?_|refine sop ?_
      refine cndt (xAD ?_)
      exact ⟨([], ys, o), by simpa using hv, goes⟩
    | cons x xs =>
      have hn1 : decide ((((x :: xs).map encP).length : Int) = 0) = false := decide_eq_false (by simp only [List.length_map, List.length_cons]; omega)
      cases ys with
      | nil =>
        rw [xCn] at hv
        repeat first|refine sgo ?_|refine sop ?_
        refine cndt (xAD ?_)
        exact ⟨(x :: xs, [], o), by simpa using hv, goes⟩
      | cons y ys =>
        have hn2 : decide ((((y :: ys).map encP).length : Int) = 0) = false := decide_eq_false (by simp only [List.length_map, List.length_cons]; omega)
        rw [xCc] at hv
        simp only [List.length_cons] at h1 h2
        repeat first|refine sgo ?_|refine sop ?_
        refine cndf ?_
        repeat first|refine sgo ?_|refine sop ?_
        refine cnd (fun h3 => ?_) (fun h3 => ?_)
        · rw [if_pos h3] at hv
          repeat first|refine sgo ?_|refine o_v (vap encP x) ?_|refine o_v0 vsl1 ?_|refine sop ?_
          refine xAD ?_
          refine ⟨(xs, y :: ys, o ++ [x]), by simp only [List.length_cons]; omega, ⟨by simp only; omega, by simp only [List.length_cons]; omega, ?_⟩, goes⟩
          rw [← hv]; simp
        · rw [if_neg (by simp [h3])] at hv
          repeat first|refine sgo ?_|refine sop ?_
          refine cnd (fun h4 => ?_) (fun h4 => xAB ?_)
          · have h4' : x.key = y.key := by simpa using h4
            rw [if_pos h4'] at hv
            repeat first|refine sgo ?_|refine o_v (vap encP y) ?_|refine o_v0 vsl1 ?_|refine sop ?_
            refine agn (xs, ys, o ++ [y]) ⟨by simp only; omega, by simp only; omega, ?_⟩ goes (by simp only [List.length_cons]; omega)
            rw [← hv]; simp
          · have h4' : x.key ≠ y.key := by simpa using h4
            rw [if_neg h4'] at hv
            repeat first|refine sgo ?_|refine o_v (vap encP y) ?_|refine o_v0 vsl1 ?_|refine sop ?_
            refine agn (x :: xs, ys, o ++ [y]) ⟨by simp only [List.length_cons]; omega, by simp only; omega, ?_⟩ goes (by simp only [List.length_cons]; omega)
            rw [← hv]; simp
  rintro ⟨xs, ys, o⟩ hv
  dsimp only at hv ⊢
  have hol := congrArg List.length hv
  simp only [List.length_append] at hol
  repeat first|refine sgo ?_|refine o_v (vaps encP o xs) ?_|refine o_v (vaps encP (o ++ xs) ys) ?_|refine sop ?_
  exact xAC ⟨.inr rfl, oOwn (congrArg (List.map encP) hv)⟩
theorem xR9 {q p : PV} {a b : List PairL} (hq : Sl q (a.map encP)) (hp : Sl p (b.map encP)) (ha : a.length ≤ 100000000) (hb : b.length ≤ 100000000) : VC Tryz.prog 307 [q, p] [] (ownV ⟨0, 0⟩ ((xAq a b).map encP)) [blkV 3 ((xAq a b).map encP)] :=
  xCQ (xPP ha hb) (.cons (PLe.sl hq) (.cons (PLe.sl hp) .nil)) (PLe.refl _)
def zP : PairL := ⟨[], [], 0⟩
end Go.Proofs
open Go.V Go.Pu
set_option linter.unusedVariables false
set_option linter.unusedSimpArgs false
set_option maxRecDepth 20000
namespace Go.Proofs
def vc277 := vcm Tryz.prog 277
theorem vf277 : VF Tryz.prog 277 = some (8, vc277, [.tmp 4]) := by kernel_rfl
def vc274 := vcm Tryz.prog 274
theorem vf274 : VF Tryz.prog 274 = some (8, vc274, [.tmp 4]) := by kernel_rfl
def vc273 := vcm Tryz.prog 273
theorem vf273 : VF Tryz.prog 273 = some (9, vc273, [.tmp 4]) := by kernel_rfl
def vc272 := vcm Tryz.prog 272
theorem vf272 : VF Tryz.prog 272 = some (49, vc272, [.tmp 6, .tmp 7]) := by kernel_rfl
def vc270 := vcm Tryz.prog 270
theorem vf270 : VF Tryz.prog 270 = some (11, vc270, [.tmp 4, .tmp 5]) := by kernel_rfl
def vc289 := vcm Tryz.prog 289
theorem vf289 : VF Tryz.prog 289 = some (32, vc289, [.tmp 4, .tmp 5]) := by kernel_rfl
def vc310 := vcm Tryz.prog 310
theorem vf310 : VF Tryz.prog 310 = some (18, vc310, [.tmp 4]) := by kernel_rfl
theorem xRe : ∀ (a b : Str), Lib.compareBytes a b = xBr a b
  | [], [] => rfl
  | [], _ :: _ => rfl
  | _ :: _, [] => rfl
  | x :: a, y :: b => by
    rw [Lib.compareBytes, xRe a b]
    unfold xBr
    by_cases h : x < y
    · rw [if_pos h, if_pos (blt_cons.2 (.inl h))]
    · rw [if_neg h]
      by_cases h2 : y < x
      · have h3 : ¬ Op.bytesLess (x :: a) (y :: b) = true := by
          rw [blt_cons]
          rintro (h4 | ⟨rfl, _⟩)
          · exact h h4
          · exact UInt8.lt_irrefl _ h2
        have h4 : ¬ (x :: a = y :: b) := by
          intro e
          cases e
          exact UInt8.lt_irrefl _ h2
        rw [if_pos h2, if_neg h3, if_neg h4]
      · have e : x = y := UInt8.le_antisymm (UInt8.not_lt.1 h2) (UInt8.not_lt.1 h)
        subst e
        rw [if_neg h2]
        have h3 : Op.bytesLess (x :: a) (x :: b) = true ↔ Op.bytesLess a b = true := by
          rw [blt_cons]
          constructor
          · rintro (h4 | ⟨_, h4⟩)
            · exact absurd h4 (UInt8.lt_irrefl _)
            · exact h4
          · intro h4; exact .inr ⟨rfl, h4⟩
        by_cases h4 : Op.bytesLess a b = true
        · rw [if_pos h4, if_pos (h3.2 h4)]
        · rw [if_neg h4, if_neg (fun h5 => h4 (h3.1 h5))]
          simp
theorem tpl {tf : TF} {f : VX} {xs : List VX} {fid : Nat} {ps : List PV} (h1 : ev tf f = some (.fn fid [])) (h2 : evs tf xs = some ps) (hb : fid < bnd) : Targ tf f xs fid ps := by
  have := Targ.pl h1 h2 hb
  rwa [List.append_nil] at this
theorem xWC (a b : Str) : VC Tryz.prog 277 [.str a, .str b] [] (.int .i64 (xBr a b)) [] := by
  refine vcs vf277 ?_
  have hx := fun hf' => @xTs Tryz.prog 279 Tryz.f279 Tryz.func279 (by kernel_rfl) (by kernel_rfl) (by kernel_rfl) (by kernel_rfl) hf' a b
  repeat first|refine sgo ?_|refine cxt (ht := tpl rfl rfl (Nat.le_of_ble_eq_true rfl)) (hx _) ?_|refine sop ?_
  exact xAC ⟨.inr rfl, oI (xRe a b)⟩
theorem xU5 (a b : Str) : VC Tryz.prog 274 [.str a, .str b] [] (.int .i64 (xBr a b)) [] := by
  refine vcs vf274 ?_
  repeat first|refine sgo ?_|refine cv0 (xWC a b) ?_|refine sop ?_
  exact xAC ⟨.inr rfl, oI rfl⟩
theorem xQN (p : PairL) (k : Str) : VC Tryz.prog 273 [.agg (encP p), .str k] [] (.int .i64 (xBr p.key k)) [] := by
  refine vcs vf273 ?_
  repeat first|refine sgo ?_|refine cv0 (xU5 p.key k) ?_|refine sop ?_
  exact xAC ⟨.inr rfl, oI rfl⟩
theorem half {n : Nat} : bin .shr (.int .u64 (n : Nat)) (.int .u64 1) = some (.int .u64 ((n / 2 : Nat) : Int)) := by
  show (if (1 : Int) < 0 then none else some (PV.int .u64 ((n : Int).fdiv (2 ^ (Int.toNat 1))))) = _
  rw [if_neg (by decide), Int.fdiv_eq_ediv_of_nonneg _ (by decide)]
  rfl
theorem xQf {a b : PV} (ha : ∀ q, a ≠ .tup q) (hb : ∀ q, b ≠ .tup q) : ∀ vs, PV.tup [a, b] = .tup vs → ∀ p ∈ vs, ∀ q, p ≠ .tup q := by
  intro vs h p hp q
  cases h
  rcases List.mem_cons.1 hp with rfl | hp
  · exact ha q
  · rw [List.mem_singleton.1 hp]; exact hb q
set_option maxHeartbeats 1000000 in
theorem bs_vc {q : PV} {t : List PairL} (k : Str) (hs : Srt t) (hq : Sl q (t.map encP)) (hl : t.length ≤ 100000000) : VC Tryz.prog 272 [q, .str k, .fn 273 []] [] (.tup [.int .i64 (lbN t k), .bool (xAI t k).isSome]) [] := by
  refine xBV vf272 ?_ (Nat.le_of_ble_eq_true rfl) (xQf (by intro q h; cases h) (by intro q h; cases h))
  have hle := xOu k t
  have hget := fun m p => xIS hs k (m := m) (p := p)
  have hfd := xNv hs k
  have hml : (t.map encP).length = t.length := List.length_map ..
  generalize lbN t k = lb at *
  generalize (xAI t k).isSome = fd at *
  repeat first|refine sgo ?_|refine sop ?_
  refine xAE (fun (g : Nat × Nat) => [(0, q), (1, .str k), (2, .fn 273 []), (8, .int .i64 (t.map encP).length), (9, .int .i64 g.1), (10, .int .i64 g.2)])
    (fun g => []) (fun g => g.2 - g.1) (fun g => g.1 ≤ lb ∧ lb ≤ g.2 ∧ g.2 ≤ t.length) (0, t.length) (goes (h1 := by refine ⟨rfl, rfl, rfl, rfl, rfl, ?_, trivial⟩; exact congrArg (fun n : Nat => some (PV.int .i64 n)) hml)) ⟨Nat.zero_le _, hle, Nat.le_refl _⟩ ?_
  rintro ⟨i, j⟩ ⟨h1, h2, h3⟩
  dsimp only at h1 h2 h3 ⊢
  repeat first|refine sgo ?_|refine sop ?_
  refine cnd (fun h => xAB ?_) (fun h => xAD ?_)
  · have hlt : i < j := by have h' := of_decide_eq_true h; omega
    have c1 : IntKind.u64.wrap ((i : Int) + (j : Int)) = ((i + j : Nat) : Int) := by unfold IntKind.wrap; simp [IntKind.bits, IntKind.signed]; omega
    have c2 : IntKind.i64.wrap (((i + j) / 2 : Nat) : Int) = (((i + j) / 2 : Nat) : Int) := xB0 (by omega) (by omega)
    obtain ⟨p, hp⟩ : ∃ x, t[(i + j) / 2]? = some x := ⟨_, List.getElem?_eq_getElem (by omega)⟩
    have hpe := gm (enc := encP) (n := (((i + j) / 2 : Nat) : Int)) hp (by omega)
    have hgp := hget _ _ hp
    repeat first|refine sgo ?_|refine xBN ?_|refine xBE half ?_|refine cv0 (xQN p k) ?_|refine sop ?_
    refine cnd (fun h4 => ?_) (fun h4 => ?_)
    · have h5 := hgp.1 (cmpStr_lt.1 (of_decide_eq_true h4))
      repeat first|refine sgo ?_|refine sop ?_
      exact agn ((i + j) / 2 + 1, j) ⟨by simp only; omega, by simp only; omega, by simp only; omega⟩ goes
    · have h5 : ¬ (i + j) / 2 < lb := fun h5 => (of_decide_eq_false h4) (cmpStr_lt.2 (hgp.2 h5))
      repeat first|refine sgo ?_|refine sop ?_
      exact agn (i, (i + j) / 2) ⟨by simp only; omega, by simp only; omega, by simp only; omega⟩ goes
  · have h' := of_decide_eq_false h
    have e : i = lb := by omega
    subst e
    repeat first|refine sgo ?_|refine sop ?_
    refine xCH (fun hg => ?_) (fun hg => ?_)
    · have hlt : i < t.length := by have h' := of_decide_eq_true hg; omega
      obtain ⟨p, hp⟩ : ∃ x, t[i]? = some x := ⟨_, List.getElem?_eq_getElem hlt⟩
      have hpe := gm (enc := encP) (n := (i : Int)) hp (by omega)
      rw [hp] at hfd
      repeat first|refine sgo ?_|refine cv0 (xQN p k) ?_|refine sop ?_
      refine xAC ⟨.inr rfl, oAny ?_⟩
      have : (xBr p.key k == 0) = fd := by
        rw [← hfd]
        show _ = decide (p.key = k)
        by_cases hk : p.key = k
        · rw [decide_eq_true hk, cmpStr_eq.2 hk]; rfl
        · rw [decide_eq_false hk]
          have : xBr p.key k ≠ 0 := fun e => hk (cmpStr_eq.1 e)
          simpa using this
      rw [← this]
      rfl
    · have hge : t.length ≤ i := by have h' := of_decide_eq_false hg; omega
      rw [List.getElem?_eq_none hge] at hfd
      repeat first|refine sgo ?_|refine sop ?_
      refine xAC ⟨.inr rfl, oAny ?_⟩
      rw [← hfd]
      rfl
theorem xKJ {q : PV} {t : List PairL} (k : Str) (hs : Srt t) (hq : Sl q (t.map encP)) (hl : t.length ≤ 100000000) : VC Tryz.prog 270 [q, .str k] [] (.tup [.int .i64 (lbN t k), .bool (xAI t k).isSome]) [] := by
  refine xBV vf270 ?_ (Nat.le_of_ble_eq_true rfl) (xQf (by intro q h; cases h) (by intro q h; cases h))
  repeat first|refine sgo ?_|refine cv0 (bs_vc k hs hq hl) ?_|refine sop ?_
  exact xAC ⟨.inr rfl, oAny rfl⟩
theorem xMB {q : PV} {t : List PairL} (s : SpanL) (hs : Srt t) (hq : Sl q (t.map encP)) (hl : t.length ≤ 100000000) : VC Tryz.prog 289 [q, .agg (encS s)] [] (.tup [.int .i64 (xAc t s).1, .int .i64 (xAc t s).2]) [] := by
  refine xBV vf289 ?_ (Nat.le_of_ble_eq_true rfl) (xQf (by intro q h; cases h) (by intro q h; cases h))
  have hml : (t.map encP).length = t.length := List.length_map ..
  repeat first|refine sgo ?_|refine cv0 (xGL s) ?_|refine sop ?_
  refine cnd (fun h => ?_) (fun h => xAB ?_)
  · repeat first|refine sgo ?_|refine sop ?_
    refine xAC ⟨.inr rfl, oAny ?_⟩
    rw [xAc, if_pos h]; rfl
  · repeat first|refine sgo ?_|refine cv0 (xKJ s.lo hs hq hl) ?_|refine sop ?_
    refine cnd (fun h2 => ?_) (fun h2 => xAB ?_)
    · have h2' : s.hi ≠ [] := by simpa using h2
      repeat first|refine sgo ?_|refine cv0 (xKJ s.hi hs hq hl) ?_|refine sop ?_
      refine xAC ⟨.inr rfl, oAny ?_⟩
      rw [xAc, if_neg (by simp [h])]
      simp only [if_neg h2']
      rfl
    · have h2' : s.hi = [] := by simpa using h2
      repeat first|refine sgo ?_|refine sop ?_
      refine xAC ⟨.inr rfl, oAny ?_⟩
      rw [xAc, if_neg (by simp [h])]
      simp only [if_pos h2', hml]
      rfl
theorem xQD {t : List PairL} (s : SpanL) (hs : Srt t) (hl : t.length ≤ 100000000) : VC Tryz.prog 310 [.sh false (t.map encP), .agg (encS s)] [] (.sh true ((xBc t s).map encP)) [] := by
  refine vcs vf310 ?_
  obtain ⟨h1, h2⟩ := xI5 hs s
  have h3 := xSg hs s
  have hb := xMB (q := .sh false (t.map encP)) s hs Sl.sh hl
  generalize (xAc t s).1 = a at *
  generalize (xAc t s).2 = z at *
  repeat first|refine sgo ?_|refine cv0 hb ?_|refine o_v0 (vslg t (xBc t s) a z h3) ?_|refine sop ?_
  exact xAC ⟨.inr rfl, oAny rfl⟩
theorem xSe {q : PV} {t : List PairL} (s : SpanL) (hs : Srt t) (hq : Sl q (t.map encP)) (hl : t.length ≤ 100000000) : VC Tryz.prog 310 [q, .agg (encS s)] [] (.sh false ((xBc t s).map encP)) [] :=
  xCQ (xQD s hs hl) (.cons (PLe.sl hq) (.cons (PLe.refl _) .nil)) (PLe.sl Sl.sh)
end Go.Proofs
open Go.V Go.Pu
set_option linter.unusedVariables false
set_option linter.unusedSimpArgs false
set_option maxRecDepth 20000
namespace Go.Proofs
theorem vslD {lvl site : Nat} {tf : Nat → Option PV} {hf : Bid → Option Blk} {x : VX} {lo : Option VX} {s : Str} (n : Nat) (hn : n ≤ s.length) (hx : ev tf x = some (.str s) := by rfl) (h1 : xAR tf 0 lo = some (n : Int) := by rfl) : vop lvl site tf hf (.slstr x lo none) = some ⟨.str (s.drop n), [], []⟩ := by
  rw [xPM (a := n) (z := (s.length : Nat)) hx h1 rfl (by omega) (by omega) (by omega)]
  have e : (s.drop (n : Int).toNat).take (((s.length : Nat) : Int).toNat - (n : Int).toNat) = s.drop n := by
    rw [List.take_of_length_le (by simp)]; simp
  rw [e]
end Go.Proofs
